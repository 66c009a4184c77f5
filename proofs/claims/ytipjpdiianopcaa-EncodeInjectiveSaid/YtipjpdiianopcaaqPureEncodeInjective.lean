/- Words and contracts for the laws of encode. -/
import Derived.Test.YtipjpdiianopcaaqPpk
import Derived.Test.YtipjpdiianopcaaqBn10
set_option linter.unusedSimpArgs false
namespace Go.Proofs.Ytipjpdiianopcaa.Pure
open Go.RowKit Go.Proofs.YtipjpdiianopcaaW.dF Go.Proofs.YtipjpdiianopcaaW.fO Go.Proofs.Ytipjpdiianopcaa.A Go.Proofs.Ytipjpdiianopcaa.E Go.Proofs.Ytipjpdiianopcaa.Cl Go.Proofs.Ytipjpdiianopcaa.Cen Go.Proofs.Ytipjpdiianopcaa.Ppa
set_option linter.unusedVariables false
theorem bM0 (t:List nJ) (hsz:∀ f ∈ t,NK.GL f) (i:Int) (l:List Int) (hl:l.length≤1000000000000000) (j:Int) (r:List Int) (hr:r.length≤1000000000000000) (k:Nat) (hk:big k):dS.f (k+1) t i l j r=some true:=by
 have hk2:big (k+1):=by unfold big at *;omega
 unfold dS.f
 rw [VU hk2,Option.bind_some,if_pos rfl,aDb hsz i l hl hk2,Option.bind_some,aDb hsz j r hr hk2,Option.bind_some]
 by_cases h:(vS t).1=0
 ·have hv:Valid t:=h
  have ht:=hv.len
  rw [if_pos h,if_pos h]
  by_cases hi:(GM t i l).1=0
  ·rw [if_pos hi,if_pos rfl,dS.j0]
   by_cases hj:(GM t j r).1=0
   ·obtain ⟨_,h0,h1,h2,h3⟩:=OC t i l hi;obtain ⟨_,g0,g1,g2,g3⟩:=OC t j r hj;obtain ⟨m,rfl⟩:=Int.eq_ofNat_of_zero_le h0;obtain ⟨n,rfl⟩:=Int.eq_ofNat_of_zero_le g0;have hf:=hv.form (m:Int) h0 h1;have hg:=hv.form (n:Int) g0 g1;rw [if_pos hj,if_neg (by simp),aUr _ _ (aLu _ _ _) (aLu _ _ _),Option.bind_some,bM5 hk _ _ _ _ (by omega),Option.bind_some]
    congr 1
    rw [beq_iff_eq]
    by_cases e:m=n
    ·subst e;rw [fB rfl,Bool.true_and]
     by_cases e2:l=r
     ·subst e2;simp
     ·have e3:¬ EI (aI t m).f1 (aI t m).f2 l=EI (aI t m).f1 (aI t m).f2 r:=fun e4=>e2 (aUq _ _ _ _ hf.2.2.2.2 h2 g2 ((aOe _ _ 0).1 (by rw [h3])) ((aOe _ _ 0).1 (by rw [g3])) e4)
      rw [kT e2,kT e3]
    ·have e2:¬ ((m:Int)=(n:Int)):=by omega
     have e3:¬ EI (aI t m).f1 (aI t m).f2 l=EI (aI t n).f1 (aI t n).f2 r:=by
      intro e4;have e5:(aI t m).f1%256=(aI t n).f1%256:=(List.cons.inj e4).1;have a1:=hf.2.1;have a2:=hf.2.2.1;have a3:=hg.2.1;have a4:=hg.2.2.1;exact e (bNa hv m n (by omega) (by omega) (by omega))
     rw [kT e2,Bool.false_and,kT e3]
   ·rw [if_neg hj,if_pos (by simp [hj]),if_pos rfl]
  ·rw [if_neg hi,if_neg hi,dS.j0,if_pos rfl,if_neg hi];rfl
 ·rw [if_neg h,if_neg h,if_neg h,dS.j0,if_pos rfl,if_neg h]
  rfl
theorem EncodeInjective (t:List nJ) (hwf:∀ f ∈ t,NK.YN f) (hlen:t.length*48≤140737488351232) (hsz:∀ f ∈ t,NK.GL f) (i:Int) (l:List Int) (hi:(Lit.int .i64 i).wf=true∧NK.YM l) (hl:l.length*8≤140737488351232) (j:Int) (r:List Int) (hj:(Lit.int .i64 j).wf=true∧NK.YM r) (hr:r.length*8≤140737488351232):∃ k,dS.f k t i l j r=some true:=by
 obtain ⟨k,hk⟩:∃ k,big k:=⟨_,Nat.lt_succ_self _⟩
 exact ⟨_,bM0 t hsz i l (by omega) j r (by omega) k hk⟩
end Go.Proofs.Ytipjpdiianopcaa.Pure
