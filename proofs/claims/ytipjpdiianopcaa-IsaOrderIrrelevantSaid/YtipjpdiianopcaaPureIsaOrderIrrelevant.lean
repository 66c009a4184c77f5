/- Whether a table is valid does not depend on the order of its forms, nor do their sizes: the plain law. -/
import Derived.Test.YtipjpdiianopcaaPv
import Derived.Test.YtipjpdiianopcaaCo
namespace Go.Proofs.Ytipjpdiianopcaa.Pure
open Go.RowKit Go.Proofs.Ytipjpdiianopcaa.A Go.Proofs.Ytipjpdiianopcaa.Cv Go.Proofs.Ytipjpdiianopcaa.Cd Go.Proofs.Ytipjpdiianopcaa.E Go.Proofs.YtipjpdiianopcaaW.PrintWords Go.Proofs.YtipjpdiianopcaaW.PrintLast
set_option linter.unusedVariables false
theorem sameF_symm (f g : S54) : sameF f g = sameF g f := by
  rw [sameF_eq f g, sameF_eq g f]
  congr 1
  · exact decide_eq_decide.2 ⟨Eq.symm, Eq.symm⟩
  · congr 1
    · by_cases h : g.f0.toList = f.f0.toList
      · rw [h]
      · rw [beq_eq_false_iff_ne.2 h, beq_eq_false_iff_ne.2 (fun e => h e.symm)]
    · exact decide_eq_decide.2 ⟨Eq.symm, Eq.symm⟩
theorem valid_iff (t : List S54) : Valid t ↔ t.length ≤ 100 ∧ (∀ f ∈ t, formErr f.f0 f.f1 f.f2 = 0) ∧ t.Pairwise (fun a b => sameF a b = false) := by
  constructor
  · intro h
    refine ⟨h.len, fun f hf => ?_, ?_⟩
    · obtain ⟨j, hj, rfl⟩ := List.getElem_of_mem hf
      have := (h.at j hj).1
      rwa [rd_nat t j hj] at this
    · rw [List.pairwise_iff_getElem]
      intro i j hi hj hij
      have h1 := (h.at j hj).2
      rw [List.any_eq_false] at h1
      have h2 := h1 t[i] (List.mem_iff_getElem.2 ⟨i, by rw [List.length_take]; omega, List.getElem_take⟩)
      rw [rd_nat t j hj] at h2
      rw [sameF_symm]
      simpa using h2
  · rintro ⟨h1, h2, h3⟩
    unfold Valid tableErr
    rw [if_neg (by omega), tf_of]
    intro j _ hj
    rw [rd_nat t j (by omega)]
    refine ⟨h2 _ (List.getElem_mem _), ?_⟩
    rw [List.any_eq_false]
    intro x hx
    obtain ⟨i, hi, rfl⟩ := List.mem_iff_getElem.1 hx
    rw [List.length_take] at hi
    rw [List.getElem_take, sameF_symm]
    have := (List.pairwise_iff_getElem.1 h3) i j (by omega) (by omega) (by omega)
    simp [this]
theorem valid_rev (t : List S54) : Valid t.reverse ↔ Valid t := by
  rw [valid_iff, valid_iff, List.length_reverse, List.pairwise_reverse]
  simp only [List.mem_reverse]
  constructor
  · rintro ⟨h1, h2, h3⟩
    exact ⟨h1, h2, h3.imp (fun h => by rw [sameF_symm]; exact h)⟩
  · rintro ⟨h1, h2, h3⟩
    exact ⟨h1, h2, h3.imp (fun h => by rw [sameF_symm]; exact h)⟩
theorem size_pos (l : List Int) : 1 ≤ sizeOf_ l := by unfold sizeOf_; omega
theorem IsaOrderIrrelevant (t : List S54) (hwf : ∀ f ∈ t, Crow.WfForm f) (hlen : t.length * 48 ≤ 140737488351232) (hsz : ∀ f ∈ t, Crow.SzForm f) : ∃ k, Co.order_ok k t := by
  obtain ⟨k, hk⟩ : ∃ k, big k := ⟨_, Nat.lt_succ_self _⟩
  have hszr : ∀ f ∈ t.reverse, Crow.SzForm f := fun f hf => hsz f (List.mem_reverse.1 hf)
  refine ⟨k, hlen, example_k hk, _, _, _, _, validate_k hsz hk, validate_k hszr hk, (valid_rev t).symm, fun h i hi => ?_⟩
  have hv : Valid t := h
  have hv2 := (valid_rev t).2 hv
  refine ⟨_, size_pos _, size_in hsz hk i hv (by omega) (by omega), ?_⟩
  rw [size_in hszr hk _ hv2 (by omega) (by rw [List.length_reverse]; omega)]
  congr 4
  rw [rd_T54_get t.reverse _ (by omega) (by rw [List.length_reverse]; omega), List.getElem_reverse, rd_nat t i hi]
  congr 1
  omega
end Go.Proofs.Ytipjpdiianopcaa.Pure
