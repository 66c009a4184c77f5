/- In a valid table each form is found at its own position: the plain law. -/
import Derived.Test.YtipjpdiianopcaaPv
import Derived.Test.YtipjpdiianopcaaEx5
namespace Go.Proofs.Ytipjpdiianopcaa.Pure
open Go.RowKit Go.Proofs.Ytipjpdiianopcaa.A Go.Proofs.Ytipjpdiianopcaa.Cv Go.Proofs.Ytipjpdiianopcaa.Cd Go.Proofs.Ytipjpdiianopcaa.E Go.Proofs.YtipjpdiianopcaaW.PrintWords Go.Proofs.YtipjpdiianopcaaW.PrintLast
set_option linter.unusedVariables false
theorem all_l0 (t : List S54) (h : Valid t) (hsz : ∀ f ∈ t, Crow.SzForm f) : ∀ (d k i : Nat), i + d = t.length → big k →
    linkhouselaw1_IsaFindsAll.l0 (k + d + 1) t (i : Int) = some true := by
  have hlen := h.len
  intro d
  induction d with
  | zero =>
    intro k i hi hk
    rw [linkhouselaw1_IsaFindsAll.l0, if_neg (show ¬ (i : Int) < (t.length : Int) by omega)]
  | succ d ih =>
    intro k i hi hk
    have hw : wrap64 ((i : Int) + 1) = ((i + 1 : Nat) : Int) := by unfold wrap64; omega
    rw [show k + (d + 1) + 1 = (k + d + 1) + 1 by omega, linkhouselaw1_IsaFindsAll.l0, if_pos (show (i : Int) < (t.length : Int) by omega), if_pos (show (0 : Int) ≤ (i : Int) by omega), find_some hsz (by unfold big at *; omega) _ _ h i (named_self h i (by omega)), Option.bind_some, if_pos rfl, if_pos rfl, hw]
    exact ih k (i + 1) (by omega) hk
theorem IsaFindsAll (t : List S54) (hwf : ∀ f ∈ t, Crow.WfForm f) (hlen : t.length * 48 ≤ 140737488351232) (hsz : ∀ f ∈ t, Crow.SzForm f) : ∃ k, linkhouselaw1_IsaFindsAll.f k t = some true := by
  obtain ⟨k, hk⟩ : ∃ k, big k := ⟨_, Nat.lt_succ_self _⟩
  have hk2 : big (k + t.length + 1) := by unfold big at *; omega
  refine ⟨k + t.length + 1, ?_⟩
  unfold linkhouselaw1_IsaFindsAll.f
  rw [example_k hk2, Option.bind_some, if_pos rfl, validate_k hsz hk2, Option.bind_some]
  by_cases h : Valid t
  · rw [h.eq, if_pos rfl]
    exact all_l0 t h hsz t.length k 0 (by omega) hk
  · unfold Valid at h
    rw [if_neg h]
end Go.Proofs.Ytipjpdiianopcaa.Pure
