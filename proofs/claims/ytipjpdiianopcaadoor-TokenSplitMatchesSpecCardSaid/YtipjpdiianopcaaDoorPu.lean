/- TokenSplitMatchesSpec: the plain statement. -/
import Derived.Test.YtipjpdiianopcaaDoorTs
namespace Go.Proofs.YtipjpdiianopcaaDoor.Tp
open Go.RowKit Go.Proofs.YtipjpdiianopcaaDoor.A Go.Proofs.YtipjpdiianopcaaDoor.Ct Go.Proofs.YtipjpdiianopcaaDoor.Hx Go.Proofs.YtipjpdiianopcaaW.PrintWords Go.Proofs.YtipjpdiianopcaaW.PrintLast
set_option linter.unusedVariables false
theorem example_60 : linkhouselaw1_tokenExample.f 60 = some true := by decide +kernel
theorem example_f : ∀ n : Nat, linkhouselaw1_tokenExample.f (60 + n) = some true
  | 0 => example_60
  | n + 1 => linkhouselaw1_tokenExample.mono (60 + n) true (example_f n)
theorem pure_ (a0 : ByteArray) : ∃ k, linkhouselaw1_TokenSplitMatchesSpec.f k a0 = some true := by
  refine ⟨60 + 1000000, ?_⟩
  unfold linkhouselaw1_TokenSplitMatchesSpec.f
  rewrite [example_f 1000000, Option.bind_some, if_pos rfl]
  by_cases h : (a0.size : Int) > 8000
  · rw [token_Split.f, if_pos h, Option.bind_some, if_pos h, at_f, Option.bind_some]
    rfl
  · rewrite [token_Split.f, if_neg h]
    have e : linkhouseref1_Tokens.f (60 + 1000000) a0 = linkhouseref1_Tokens.l0 (60 + 1000000) a0 [] ((0 : Nat) : Int) := rfl
    have hl := lock a0 (by omega) a0.size 0 [] (60 + 1000000) (60 + 1000000) (by omega) (Nat.le_refl _) (by omega) (by omega)
    rcases hl with ⟨ts, hts, e1, e2⟩ | ⟨q, e1, e2⟩
    · have e1 : token_Split.l0 (60 + 1000000) a0 [] 0 = some (ts, 0, 0) := e1
      rewrite [e1, Option.bind_some, if_neg h, e, e2, Option.bind_some]
      rw [if_neg (show ¬ ((-1 : Int) ≥ 0) by decide), if_pos (show (0 : Int) = 0 from rfl), same_f ts (by omega) _ (by omega), Option.bind_some]
    · have e1 : token_Split.l0 (60 + 1000000) a0 [] 0 = some ([], 1, (q : Int)) := e1
      rewrite [e1, Option.bind_some, if_neg h, e, e2, Option.bind_some]
      rw [if_pos (show ((q : Nat) : Int) ≥ 0 by omega), at_f, Option.bind_some, if_pos (by simp)]
      rfl
theorem pure : linkhouselaw1_TokenSplitMatchesSpec.Pure := fun a0 _ => pure_ a0
end Go.Proofs.YtipjpdiianopcaaDoor.Tp
