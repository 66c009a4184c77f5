/- isa.Validate and isa.Size return what the reference says, for every table: the plain law. -/
import Derived.Test.YtipjpdiianopcaaPv
import Derived.Test.YtipjpdiianopcaaEx3
namespace Go.Proofs.Ytipjpdiianopcaa.Pure
open Go.RowKit Go.Proofs.Ytipjpdiianopcaa.A Go.Proofs.Ytipjpdiianopcaa.Cv Go.Proofs.Ytipjpdiianopcaa.Cd Go.Proofs.Ytipjpdiianopcaa.E Go.Proofs.YtipjpdiianopcaaW.PrintWords Go.Proofs.YtipjpdiianopcaaW.PrintLast
set_option linter.unusedVariables false
theorem IsaValidateMatchesSpec_k (t : List S54) (hlen : t.length * 48 ≤ 140737488351232) (hsz : ∀ f ∈ t, Crow.SzForm f) (i : Int) (k : Nat) (hk : big k) : linkhouselaw1_IsaValidateMatchesSpec.f (k + 2) t i = some true := by
  have hk2 : big (k + 2) := by unfold big at *; omega
  have hw : wrap64 ((t.length : Int) - 1) = (t.length : Int) - 1 := by unfold wrap64; omega
  unfold linkhouselaw1_IsaValidateMatchesSpec.f
  rw [example_k hk2, Option.bind_some, if_pos rfl, fault_k hsz hk2, Option.bind_some, validate_k hsz hk2, Option.bind_some, if_neg (by simp), hw, in_f]
  by_cases h : (tableErr t).1 = 0
  · have hv : Valid t := h
    rw [if_pos h, Option.bind_some, hv.eq]
    by_cases hi : 0 ≤ i ∧ i ≤ (t.length : Int) - 1
    · rw [decide_eq_true hi.1, decide_eq_true hi.2, linkhouselaw1_IsaValidateMatchesSpec.j0, if_neg (by simp), linkhouselaw1_IsaValidateMatchesSpec.j1, size_in hsz hk i hv hi.1 (by omega), Option.bind_some, if_pos rfl, if_pos rfl, if_pos hi.1, if_pos (by omega), formSize_k hk i hv hi.1 (by omega), Option.bind_some]
      simp
    · have hb : (decide (0 ≤ i) && decide (i ≤ (t.length : Int) - 1)) = false := by
        rw [Bool.eq_false_iff]
        simp only [ne_eq, Bool.and_eq_true, decide_eq_true_eq]
        exact hi
      rw [hb, linkhouselaw1_IsaValidateMatchesSpec.j0, if_pos (show (!false) = true from rfl), at_fv, Option.bind_some, linkhouselaw1_IsaValidateMatchesSpec.j1, size_out hsz hk i hv (by omega), Option.bind_some, if_neg (by decide), if_pos (by decide)]
      rfl
  · have hv : ¬ Valid t := h
    rw [if_neg h, linkhouselaw1_IsaValidateMatchesSpec.j0, if_neg (by simp), linkhouselaw1_IsaValidateMatchesSpec.j1, size_bad hsz hk i hv, Option.bind_some, if_neg h, if_pos (by simp)]
    rfl
theorem IsaValidateMatchesSpec (t : List S54) (hwf : ∀ f ∈ t, Crow.WfForm f) (hlen : t.length * 48 ≤ 140737488351232) (hsz : ∀ f ∈ t, Crow.SzForm f) (i : Int) (hi : (Lit.int .i64 i).wf = true) : ∃ k, linkhouselaw1_IsaValidateMatchesSpec.f k t i = some true := by
  obtain ⟨k, hk⟩ : ∃ k, big k := ⟨_, Nat.lt_succ_self _⟩
  exact ⟨_, IsaValidateMatchesSpec_k t hlen hsz i k hk⟩
end Go.Proofs.Ytipjpdiianopcaa.Pure
