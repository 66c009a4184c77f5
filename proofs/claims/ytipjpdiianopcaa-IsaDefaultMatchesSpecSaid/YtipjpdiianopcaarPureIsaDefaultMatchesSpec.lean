/- Words and contracts for the laws. -/
import Derived.Test.YtipjpdiianopcaarBd4
import Derived.Test.YtipjpdiianopcaarPv
import Derived.KernelRfl
set_option linter.unusedSimpArgs false
namespace Go.Proofs.Ytipjpdiianopcaa.Pure
open Go.RowKit Go.Proofs.Ytipjpdiianopcaa.A Go.Proofs.Ytipjpdiianopcaa.E Go.Proofs.Ytipjpdiianopcaa.Cd Go.Proofs.Ytipjpdiianopcaa.Cf Go.Proofs.YtipjpdiianopcaaW.aZ Go.Proofs.YtipjpdiianopcaaW.dQ
set_option linter.unusedVariables false
def wM:List iJ:=qB (parts jT)
theorem wO:wM.length=59:=by decide +kernel
theorem IB:qY wM=(0,0):=by decide +kernel
theorem FN:Valid wM:=congrArg Prod.fst IB
theorem FO:aT.f 70=some wM:=by kernel_rfl
theorem Jb (k:Nat) (hk:70≤k):aT.f k=some wM:=by
 obtain ⟨d,rfl⟩:∃ d,k=70+d:=⟨k-70,by omega⟩
 clear hk
 induction d with
 | zero=>exact FO
 | succ d ih=>exact aT.mono (70+d) _ ih
def FP (n:Nat):Bool:=match bQ.f 6 (n:Int),aK.f 80 (n:Int) with
 | some a,some b=>a.2.1==0&&a.1==b
 | _,_=>false
theorem Lp:∀ n:Fin 59,FP n.val=true:=by decide +kernel
theorem OD (a:Int) (r:Int × Int × Int) (h:bQ.f 6 a=some r) (k:Nat) (hk:6≤k):bQ.f k a=some r:=by
 obtain ⟨d,rfl⟩:∃ d,k=6+d:=⟨k-6,by omega⟩
 clear hk
 induction d with
 | zero=>exact h
 | succ d ih=>exact bQ.mono a (6+d) _ ih
theorem Jc (a r:Int) (h:aK.f 80 a=some r) (k:Nat) (hk:80≤k):aK.f k a=some r:=by
 obtain ⟨d,rfl⟩:∃ d,k=80+d:=⟨k-80,by omega⟩
 clear hk
 induction d with
 | zero=>exact h
 | succ d ih=>exact aK.mono a (80+d) _ ih
theorem Lr (a:Int) (h:¬ (0≤a∧a≤58)) (k:Nat) (hk:0<k):bQ.f k a=some (0,3,-2):=by
 obtain ⟨k,rfl⟩:∃ k',k=k'+1:=⟨k-1,by omega⟩
 unfold bQ.f
 by_cases c:a<0
 ·rw [if_pos c,bQ.j0,if_pos rfl]
 ·rw [if_neg c,eH (show a≥59 by omega),bQ.j0,if_pos rfl]
theorem FQ (a0:Int):∀ (d i k:Nat),i+d=59→100≤k→aC.l0 (k+(d+1)) a0 wM wM (i:Int)=some true:=by
 intro d
 induction d with
 | zero =>
  intro i k hi hk
  have hw:wrap64 ((wM.length:Int)-1)=58:=by rw [wO];unfold wrap64;omega
  rw [aC.l0,if_neg (by rw [wO];omega),hw,Ls]
  by_cases h:0≤a0∧a0≤58
  ·obtain ⟨n,rfl⟩:=Int.eq_ofNat_of_zero_le h.1;have hf:FP n=true:=Lp ⟨n,by omega⟩;unfold FP at hf
   split at hf
   ·rename_i a b ha hb
    rw [Bool.and_eq_true] at hf;have e1:a.2.1=0:=eq_of_beq hf.1;rw [OD _ _ ha k (by omega),Option.bind_some,Option.bind_some,eH h.1,eH h.2,if_pos (show (true&&true)=true from rfl),if_pos e1,Jc _ _ hb k (by omega),Option.bind_some,hf.2]
   ·cases hf
  ·have hb:(decide (0≤a0)&&decide (a0≤58))=false:=by
    rw [Bool.eq_false_iff];simp only [ne_eq,Bool.and_eq_true,decide_eq_true_eq];exact h
   rw [Lr a0 h k (by omega),Option.bind_some,Option.bind_some,hb,if_neg (by decide),wP,Option.bind_some,if_pos (by decide)];rfl
 | succ d ih =>
  intro i k hi hk
  have hw:wrap64 ((i:Int)+1)=((i+1:Nat):Int):=by unfold wrap64;omega
  have hf:=(FN.form (i:Int) (by omega) (by rw [wO];omega)).2.2.2.1
  have hs:=zO (aG wM i) (aG wM i) (by omega) (k+(d+1)) (by omega)
  have c1:(i:Int)<(wM.length:Int):=by rw [wO];omega
  rw [show k+(d+1+1)=(k+(d+1))+1 from rfl,aC.l0,if_pos c1,if_pos (by omega),if_pos c1,if_pos rfl,hs,Option.bind_some,if_pos (by simp),hw]
  exact ih (i+1) k (by omega) hk
theorem IsaDefaultMatchesSpec (a0:Int) (h:(Lit.int .i64 a0).wf=true):∃ k,aC.f k a0=some true:=by
 refine ⟨200000+61,?_⟩
 have hn:∀ f ∈ wM,f.f0.size≤1000∧f.f2.length≤1000:=by decide +kernel
 have hft:=OE wM 1000 hn (by decide) (200000+61) (by decide)
 unfold aC.f
 rw [show kM.f=some wM from rfl,Option.bind_some,Jb _ (by decide),Option.bind_some,CY _ (by decide),Option.bind_some,if_pos rfl,if_pos rfl,hft,Option.bind_some,IB,
  show ((0:Int) != 0)=false from rfl,show 200000+61=(200000+(59+1))+1 from rfl,aC.j0,if_neg (by decide)]
 exact FQ a0 59 0 200000 rfl (by decide)
end Go.Proofs.Ytipjpdiianopcaa.Pure
