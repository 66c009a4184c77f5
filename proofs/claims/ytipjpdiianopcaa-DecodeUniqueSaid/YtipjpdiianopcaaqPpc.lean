/- Words and contracts for the laws of encode. -/
import Derived.Test.YtipjpdiianopcaaqPpb
import Derived.Test.YtipjpdiianopcaaqAx12
set_option linter.unusedSimpArgs false
namespace Go.Proofs.Ytipjpdiianopcaa.Ppa
open Go.RowKit Go.Proofs.YtipjpdiianopcaaW.dF Go.Proofs.YtipjpdiianopcaaW.fO Go.Proofs.Ytipjpdiianopcaa.A Go.Proofs.Ytipjpdiianopcaa.Pure Go.Proofs.Ytipjpdiianopcaa.Cl Go.Proofs.Ytipjpdiianopcaa.Cby
set_option linter.unusedVariables false
def Qe:List Int→List Int→Nat→Int × Int
 | k :: l,a :: r,i=>if Cat.Vt k a=true then Qe l r (i+1) else (3,(i:Int))
 | _,_,_=>(0,0)
def GM (t:List nJ) (i:Int) (args:List Int):Int × Int :=
 if 0≤i∧i<(t.length:Int) then (if args.length=(aI t i).f2.length then Qe (aI t i).f2 args 0 else (9,-3)) else (3,-2)
theorem aT_ (t:List nJ) (i:Int) (args:List Int) (h0:0≤i) (h1:i<(t.length:Int)) (he:args.length=(aI t i).f2.length) (hl:args.length≤100000):∀ (d k j:Nat),j+d=args.length→d<k →
  eU.l0 k t (j:Int) i args=some (Qe ((aI t i).f2.drop j) (args.drop j) j):=by
 intro d
 induction d with
 | zero =>
  intro k j hj hk
  obtain ⟨k,rfl⟩:∃ k',k=k'+1:=⟨k-1,by omega⟩
  have e1:args.drop j=[]:=List.drop_eq_nil_of_le (by omega)
  rw [eU.l0,if_neg (by omega),e1]
  cases (aI t i).f2.drop j <;> rfl
 | succ d ih =>
  intro k j hj hk
  obtain ⟨k,rfl⟩:∃ k',k=k'+1:=⟨k-1,by omega⟩
  have c1:j<(aI t i).f2.length:=by omega
  have c2:j<args.length:=by omega
  have w1:wrap64 ((j:Int)+1)=((j+1:Nat):Int):=by unfold wrap64;omega
  rw [eU.l0,if_pos (by omega),if_pos h0,if_pos h1,if_pos (by omega),if_pos (by omega),Cat.aKv,Option.bind_some,aIs,Option.bind_some,w1,ih k (j+1) (by omega) (by omega),OB,Option.bind_some,drop_at _ j c1,drop_at args j c2,Qe,Nu _ j c1,Nu args j c2]
  show (if Cat.Vt (aI t i).f2[j] args[j]=true then _ else _)=_
  split <;> rfl
theorem bAD (t:List nJ) (i:Int) (args:List Int) (ht:t.length≤1000000000000000) (hl:args.length≤1000000000000000) (hk:∀ f ∈ t,f.f2.length≤100000) (k:Nat) (hkk:200000<k):eU.f k t i args=some (GM t i args):=by
 unfold eU.f GM
 have w:wrap64 ((t.length:Int)-1)=(t.length:Int)-1:=by unfold wrap64;omega
 rw [aIs,Option.bind_some,w]
 by_cases h:0≤i∧i<(t.length:Int)
 ·rw [fB h.1,fB (show i≤(t.length:Int)-1 by omega),if_pos (show (true&&true)=true from rfl),if_pos h.1,if_pos h.2,if_pos h]
  by_cases he:args.length=(aI t i).f2.length
  ·have hm:(aI t i).f2.length≤100000:=hk _ (by
    obtain ⟨n,rfl⟩:=Int.eq_ofNat_of_zero_le h.1;have hn:n<t.length:=by omega
    have e:aI t (n:Int)=t[n]:=by unfold aI;rw [Int.toNat_natCast,List.getD_eq_getElem?_getD,Nr hn];rfl
    rw [e];exact List.getElem_mem hn)
   rw [if_pos (by omega),if_pos he];have h3:=aT_ t i args h.1 h.2 he (by omega) args.length k 0 (by omega) (by omega)
   simpa using h3
  ·rw [if_neg (by omega),if_neg he,OB,Option.bind_some]
 ·have hb:(decide (0≤i)&&decide (i≤(t.length:Int)-1))=false:=by
   rw [Bool.eq_false_iff];simp only [ne_eq,Bool.and_eq_true,decide_eq_true_eq];omega
  rw [hb,if_neg (by simp),if_neg h,OB,Option.bind_some]
theorem aLn (l:List Int) (i:Int) (args:List Int) (he:args.length=l.length) (hl:args.length≤100000):∀ (d k j:Nat),j+d=args.length→d<k →
  jE.l0 k l (l.length:Int) (j:Int) i args=some (Qe (l.drop j) (args.drop j) j):=by
 intro d
 induction d with
 | zero =>
  intro k j hj hk
  obtain ⟨k,rfl⟩:∃ k',k=k'+1:=⟨k-1,by omega⟩
  have e1:args.drop j=[]:=List.drop_eq_nil_of_le (by omega)
  rw [jE.l0,if_neg (by omega),e1]
  cases l.drop j <;> rfl
 | succ d ih =>
  intro k j hj hk
  obtain ⟨k,rfl⟩:∃ k',k=k'+1:=⟨k-1,by omega⟩
  have c1:j<l.length:=by omega
  have c2:j<args.length:=by omega
  have w1:wrap64 ((j:Int)+1)=((j+1:Nat):Int):=by unfold wrap64;omega
  rw [jE.l0,if_pos (by omega),if_pos (by omega),if_pos (by omega),if_pos (by omega),Cat.aP_,Option.bind_some,w1,ih k (j+1) (by omega) (by omega),drop_at _ j c1,drop_at args j c2,Qe,Nu _ j c1,Nu args j c2]
  split <;> rfl
theorem aOb (t:List nJ) (i:Int) (args:List Int) (hl:args.length≤1000000000000000) (hk:∀ f ∈ t,f.f2.length≤100000) (k:Nat) (hkk:200000<k):jE.f k t i args=some (GM t i args):=by
 obtain ⟨k,rfl⟩:∃ k',k=k'+1:=⟨k-1,by omega⟩
 unfold jE.f GM
 by_cases h0:i<0
 ·rw [if_pos h0,jE.j0,if_pos rfl,if_neg (by omega)]
 ·rw [if_neg h0,jE.j0]
  by_cases h1:i≥(t.length:Int)
  ·rw [fB h1,if_pos rfl,if_neg (by omega)]
  ·have h:0≤i∧i<(t.length:Int):=by omega
   rw [kT h1,if_neg (by simp),if_pos h.1,if_pos h.2,if_pos h]
   by_cases he:args.length=(aI t i).f2.length
   ·have hm:(aI t i).f2.length≤100000:=hk _ (by
     obtain ⟨n,rfl⟩:=Int.eq_ofNat_of_zero_le h.1;have hn:n<t.length:=by omega
     have e:aI t (n:Int)=t[n]:=by unfold aI;rw [Int.toNat_natCast,List.getD_eq_getElem?_getD,Nr hn];rfl
     rw [e];exact List.getElem_mem hn)
    rw [if_pos (by omega),if_pos he];have h3:=aLn (aI t i).f2 i args he (by omega) args.length k 0 (by omega) (by omega)
    simpa using h3
   ·rw [if_neg (by omega),if_neg he]
end Go.Proofs.Ytipjpdiianopcaa.Ppa
