/- isa.Find returns the form with a name and kinds: the plain law. -/
import Derived.Test.YtipjpdiianopcaaPv
import Derived.Test.YtipjpdiianopcaaEx4
namespace Go.Proofs.Ytipjpdiianopcaa.Pure
open Go.RowKit Go.Proofs.Ytipjpdiianopcaa.A Go.Proofs.Ytipjpdiianopcaa.Cv Go.Proofs.Ytipjpdiianopcaa.Cd Go.Proofs.Ytipjpdiianopcaa.E Go.Proofs.YtipjpdiianopcaaW.PrintWords Go.Proofs.YtipjpdiianopcaaW.PrintLast
set_option linter.unusedVariables false
theorem same_named (s : ByteArray) (l : List Int) (g : S54) (hn : g.f2.length < 1000000000000000) (k : Nat) (hk : g.f2.length < k) : linkhouseref1_SameForm.f k g.f0 g.f1 g.f2 s 0 l = some (isNamed s l g) := sameForm_f g ⟨s, 0, l⟩ hn k hk
theorem find_l0_none (t : List S54) (ht : t.length ≤ 100) (hsz : ∀ f ∈ t, Crow.SzForm f) (s : ByteArray) (l : List Int) (hno : ∀ j : Nat, j < t.length → isNamed s l (rd_T54 t j) = false) : ∀ (d k i : Nat), i + d = t.length → big k →
    linkhouselaw1_IsaFindMatchesSpec.l0 (k + d + 1) t s l 0 (i : Int) 6 (-2) = some true := by
  intro d
  induction d with
  | zero =>
    intro k i hi hk
    rw [linkhouselaw1_IsaFindMatchesSpec.l0, if_neg (show ¬ (i : Int) < (t.length : Int) by omega), at_fv, Option.bind_some, if_pos (by decide)]
    rfl
  | succ d ih =>
    intro k i hi hk
    have hw : wrap64 ((i : Int) + 1) = ((i + 1 : Nat) : Int) := by unfold wrap64; omega
    have hm := (hsz _ (rd_mem t i (by omega))).2
    rw [show k + (d + 1) + 1 = (k + d + 1) + 1 by omega, linkhouselaw1_IsaFindMatchesSpec.l0, if_pos (show (i : Int) < (t.length : Int) by omega), if_pos (show (0 : Int) ≤ (i : Int) by omega), same_named s l _ (by omega) _ (by unfold big at hk; omega), Option.bind_some, hno i (by omega), if_neg (by simp), hw]
    exact ih k (i + 1) (by omega) hk
theorem find_l0_hit (t : List S54) (ht : t.length ≤ 100) (hsz : ∀ f ∈ t, Crow.SzForm f) (s : ByteArray) (l : List Int) (m : Nat) (hm : m < t.length) (hp : isNamed s l (rd_T54 t m) = true) (hno : ∀ j : Nat, j < m → isNamed s l (rd_T54 t j) = false) : ∀ (d k i : Nat), i + d = m → big k →
    linkhouselaw1_IsaFindMatchesSpec.l0 (k + d + 1) t s l (m : Int) (i : Int) 0 0 = some true := by
  intro d
  induction d with
  | zero =>
    intro k i hi hk
    obtain rfl : i = m := by omega
    have hm' := (hsz _ (rd_mem t i (by omega))).2
    rw [linkhouselaw1_IsaFindMatchesSpec.l0, if_pos (show (i : Int) < (t.length : Int) by omega), if_pos (show (0 : Int) ≤ (i : Int) by omega), same_named s l _ (by omega) _ (by unfold big at hk; omega), Option.bind_some, hp, if_pos rfl, if_pos rfl]
    simp
  | succ d ih =>
    intro k i hi hk
    have hw : wrap64 ((i : Int) + 1) = ((i + 1 : Nat) : Int) := by unfold wrap64; omega
    have hm' := (hsz _ (rd_mem t i (by omega))).2
    rw [show k + (d + 1) + 1 = (k + d + 1) + 1 by omega, linkhouselaw1_IsaFindMatchesSpec.l0, if_pos (show (i : Int) < (t.length : Int) by omega), if_pos (show (0 : Int) ≤ (i : Int) by omega), same_named s l _ (by omega) _ (by unfold big at hk; omega), Option.bind_some, hno i (by omega), if_neg (by simp), hw]
    exact ih k (i + 1) (by omega) hk
theorem IsaFindMatchesSpec (t : List S54) (hwf : ∀ f ∈ t, Crow.WfForm f) (hlen : t.length * 48 ≤ 140737488351232) (hsz : ∀ f ∈ t, Crow.SzForm f) (s : ByteArray) (hs : s.size ≤ 140737488351232) (l : List Int) (hl : l.length * 8 ≤ 140737488351232) (hlw : ∀ x ∈ l, (Lit.int .i64 x).wf = true) :
    ∃ k, linkhouselaw1_IsaFindMatchesSpec.f k t s l = some true := by
  obtain ⟨k, hk⟩ : ∃ k, big k := ⟨_, Nat.lt_succ_self _⟩
  have hk2 : ∀ n, big (k + n + 1) := fun n => by unfold big at *; omega
  by_cases h : Valid t
  · rcases idx_cases (isNamed s l) t with ⟨he, hno⟩ | ⟨m, he, hm, hp, hno⟩
    · refine ⟨k + t.length + 1, ?_⟩
      unfold linkhouselaw1_IsaFindMatchesSpec.f
      rw [example_k (hk2 _), Option.bind_some, if_pos rfl, find_none hsz (hk2 _) s l h he, Option.bind_some, fault_k hsz (hk2 _), Option.bind_some, h.eq, if_pos rfl]
      exact find_l0_none t h.len hsz s l hno t.length k 0 (by omega) hk
    · refine ⟨k + m + 1, ?_⟩
      unfold linkhouselaw1_IsaFindMatchesSpec.f
      rw [example_k (hk2 _), Option.bind_some, if_pos rfl, find_some hsz (hk2 _) s l h m he, Option.bind_some, fault_k hsz (hk2 _), Option.bind_some, h.eq, if_pos rfl]
      exact find_l0_hit t h.len hsz s l m hm hp hno m k 0 (by omega) hk
  · refine ⟨k + 1, ?_⟩
    unfold linkhouselaw1_IsaFindMatchesSpec.f
    rw [example_k (hk2 0), Option.bind_some, if_pos rfl, find_bad hsz (hk2 0) s l h, Option.bind_some, fault_k hsz (hk2 0), Option.bind_some]
    unfold Valid at h
    rw [if_neg h, if_pos (by simp)]
    rfl
end Go.Proofs.Ytipjpdiianopcaa.Pure
