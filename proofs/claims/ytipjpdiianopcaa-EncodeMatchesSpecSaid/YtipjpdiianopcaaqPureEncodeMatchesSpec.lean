/- Words and contracts for the laws of encode. -/
import Derived.Test.YtipjpdiianopcaaqPpf
import Derived.Test.YtipjpdiianopcaaqBn6
set_option linter.unusedSimpArgs false
namespace Go.Proofs.Ytipjpdiianopcaa.Pure
open Go.RowKit Go.Proofs.YtipjpdiianopcaaW.dF Go.Proofs.YtipjpdiianopcaaW.fO Go.Proofs.Ytipjpdiianopcaa.A Go.Proofs.Ytipjpdiianopcaa.E Go.Proofs.Ytipjpdiianopcaa.Ppa
set_option linter.unusedVariables false
theorem aEB (l : List Int) : bF.f l l = some true := by
 unfold bF.f
 simp
theorem Qh (t : List nJ) (hlen : t.length * 48 ≤ 140737488351232) (hsz : ∀ f ∈ t, NK.GL f) (i : Int) (l : List Int) (hl : l.length ≤ 1000000000000000) (k : Nat) (hk : big k) : cZ.f (k + 1) t i l = some true := by
 have hk2 : big (k + 1) := by unfold big at *; omega
 unfold cZ.f
 rw [VU hk2, Option.bind_some, if_pos rfl, aDb hsz i l hl hk2, Option.bind_some, aOh hsz hk2, Option.bind_some]
 by_cases h : (vS t).1 = 0
 ·have hv : Valid t := h
  rw [if_pos h, if_pos h, bAD t i l (by omega) hl (fun f hf => by have := (aAm hv f hf).1; omega) (k + 1) (by unfold big at hk; omega), Option.bind_some, cZ.j0]
  by_cases hi : (GM t i l).1 = 0
  ·obtain ⟨_, h0, h1, h2, _⟩ := OC t i l hi; have hf := hv.form i h0 h1; rw [if_pos hi, if_pos hi, if_pos rfl, if_pos h0, if_pos h1, aT5 _ _ _ _ h2 (by omega) k (by unfold big at hk; omega), Option.bind_some, aEB]; rfl
  ·rw [if_neg hi, if_neg hi, if_pos (by simp)]; rfl
 ·rw [if_neg h, if_neg h, cZ.j0, if_neg h, if_pos (by simp)]
  rfl
theorem EncodeMatchesSpec (t : List nJ) (hwf : ∀ f ∈ t, NK.YN f) (hlen : t.length * 48 ≤ 140737488351232) (hsz : ∀ f ∈ t, NK.GL f) (i : Int) (l : List Int) (hi : (Lit.int .i64 i).wf = true ∧ NK.YM l) (hl : l.length * 8 ≤ 140737488351232) : ∃ k, cZ.f k t i l = some true := by
 obtain ⟨k, hk⟩ : ∃ k, big k := ⟨_, Nat.lt_succ_self _⟩
 exact ⟨_, Qh t hlen hsz i l (by omega) k hk⟩
end Go.Proofs.Ytipjpdiianopcaa.Pure
