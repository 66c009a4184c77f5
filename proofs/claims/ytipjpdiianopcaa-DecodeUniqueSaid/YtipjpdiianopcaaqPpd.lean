/- Words and contracts for the laws of encode. -/
import Derived.Test.YtipjpdiianopcaaqPpc
import Derived.Test.YtipjpdiianopcaaqAx18
set_option linter.unusedSimpArgs false
namespace Go.Proofs.Ytipjpdiianopcaa.Ppa
open Go.RowKit Go.Proofs.YtipjpdiianopcaaW.dF Go.Proofs.YtipjpdiianopcaaW.fO Go.Proofs.Ytipjpdiianopcaa.A Go.Proofs.Ytipjpdiianopcaa.Pure Go.Proofs.Ytipjpdiianopcaa.Cl Go.Proofs.Ytipjpdiianopcaa.Cby Go.Proofs.Ytipjpdiianopcaa.Cen
set_option linter.unusedVariables false
theorem aAm {t:List nJ} (h:Valid t):∀ f ∈ t,f.f2.length≤4∧∀ x ∈ f.f2,1≤x∧x≤6:=by
 intro f hf
 obtain ⟨n,hn,e⟩:=List.getElem_of_mem hf
 have h1:=h.form (n:Int) (by omega) (by omega)
 have e2:aI t (n:Int)=t[n]:=by unfold aI;rw [Int.toNat_natCast,List.getD_eq_getElem?_getD,Nr hn];rfl
 rw [e2,e] at h1
 exact ⟨h1.2.2.2.1,h1.2.2.2.2⟩
theorem aDa {t:List nJ} (h:Valid t) (i:Int) (h0:0≤i) (h1:i<(t.length:Int)):PK (aI t i).f2=true:=by
 have h2:=h.form i h0 h1
 unfold PK
 rw [fB h2.2.2.2.1,Bool.true_and,List.all_eq_true]
 intro x hx
 have:=h2.2.2.2.2 x hx
 rw [fB this.1,fB this.2]
 rfl
theorem aHb:∀ (l args:List Int) (n:Nat),Qe l args n=(0,0)→args.length=l.length→∀ (i:Nat) (h:i<l.length),Cat.Vt l[i] (rd args i)=true
 | [],_,_,_,_,i,h=>by simp at h
 | k :: l,[],_,_,h,_,_=>by simp at h
 | k :: l,a :: r,n,h,he,i,hi=>by
  rw [Qe] at h
  by_cases c:Cat.Vt k a=true
  ·rw [if_pos c] at h
   cases i with
   | zero=>simpa [rd] using c
   | succ i =>
    have:=aHb l r (n+1) h (by simpa using he) i (by simpa using hi);rw [List.getElem_cons_succ]
    rwa [show rd (a :: r) ((i+1:Nat):Int)=rd r (i:Int) from by unfold rd;rw [Int.toNat_natCast,Int.toNat_natCast,List.getD_cons_succ]]
  ·rw [if_neg c] at h;exact absurd (congrArg Prod.fst h) (show ¬ ((3:Int)=0) by decide)
theorem aAn:∀ (l args:List Int) (n:Nat),(Qe l args n).1=0→Qe l args n=(0,0)
 | [],_,_,_=>rfl
 | k :: l,[],_,_=>rfl
 | k :: l,a :: r,n,h=>by
  rw [Qe] at h ⊢
  by_cases c:Cat.Vt k a=true
  ·rw [if_pos c] at h ⊢;exact aAn l r (n+1) h
  ·rw [if_neg c] at h;exact absurd h (show ¬ ((3:Int)=0) by decide)
theorem OC (t:List nJ) (i:Int) (args:List Int) (h:(GM t i args).1=0):GM t i args=(0,0)∧0≤i∧i<(t.length:Int)∧args.length=(aI t i).f2.length∧Qe (aI t i).f2 args 0=(0,0):=by
 unfold GM at h ⊢
 by_cases c:0≤i∧i<(t.length:Int)
 ·rw [if_pos c] at h ⊢
  by_cases c2:args.length=(aI t i).f2.length
  ·rw [if_pos c2] at h ⊢;have:=aAn _ _ _ h;exact ⟨this,c.1,c.2,c2,this⟩
  ·rw [if_neg c2] at h;exact absurd h (by decide)
 ·rw [if_neg c] at h;exact absurd h (by decide)
theorem aAo (k a:Int) (h:Cat.Vt k a=true) (hk:k=1∨k=2):0≤a∧a<16:=by
 unfold Cat.Vt Cat.YA at h
 rw [Bool.and_eq_true] at h
 have h1:=dU h.1
 have h2:=dU h.2
 rcases hk with hk|hk
 ·rw [if_pos hk] at h1 h2;exact ⟨h1,by omega⟩
 ·rw [if_neg (by omega),if_pos hk] at h1 h2;exact ⟨h1,by omega⟩
theorem PL {t:List nJ} (h:Valid t) (i:Int) (args:List Int) (he:(GM t i args).1=0):lW.f t i args=some (EI (aI t i).f1 (aI t i).f2 args):=by
 obtain ⟨_,h0,h1,hl,ha⟩:=OC t i args he
 have hf:=h.form i h0 h1
 unfold lW.f
 rw [if_pos ⟨h0,h1,aDa h i h0 h1,hl⟩,aIr (aI t i) args hl hf.2.2.2.2 (fun j hj hk=>aAo _ _ (aHb _ _ 0 ha hl j hj) hk)]
theorem aDb {t:List nJ} (hsz:∀ f ∈ t,NK.GL f) (i:Int) (args:List Int) (hl:args.length≤1000000000000000) {k:Nat} (hk:big k) :
  gX.f k t i args=some (if (vS t).1=0 then (if (GM t i args).1=0 then (EI (aI t i).f1 (aI t i).f2 args,0,0) else ([],(GM t i args).1,(GM t i args).2)) else ([],(vS t).1,(vS t).2)):=by
 unfold gX.f
 rw [MS hsz hk,Option.bind_some]
 by_cases h:(vS t).1=0
 ·have hv:Valid t:=h
  have e0:vS t=(0,0):=hv.eq
  rw [if_pos h,e0,if_pos (show ((0:Int)==0&&((0:Int)==0))=true from rfl),aOb t i args hl (fun f hf=>by have:=(aAm hv f hf).1;omega) k (by unfold big at hk;omega),Option.bind_some]
  by_cases hi:(GM t i args).1=0
  ·rw [if_pos hi,(OC t i args hi).1,if_neg (by simp),PL hv i args hi];rfl
  ·rw [if_neg hi,if_pos (by simp [hi])]
 ·rw [if_neg h,if_neg (by simp [h]),if_pos (by simp [h])]
end Go.Proofs.Ytipjpdiianopcaa.Ppa
