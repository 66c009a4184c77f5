/- Names of forms: both ways of checking one answer alike. A form by itself: its error code, as isa.Validate reckons it. A table: both ways of checking it answer alike. Two lists of numbers, two forms: compared by the reference. A table, as the reference checks it. A table, as the reference checks it: the whole. The size of a form: both ways of reckoning it answer alike. The size of a form, as the reference reckons it. The examples of the document about isa hold. A valid table: what is known of it; the size of a form as isa.Size tells it. isa.Find: where a form stands; in a valid table each form is found at its own position. -/
import Derived.Test.YtipjpdiianopcaaAx5
import Derived.Test.YtipjpdiianopcaaAx8
import Derived.Test.YtipjpdiianopcaaAx6
import Derived.Test.YtipjpdiianopcaaAx9
import Derived.Test.YtipjpdiianopcaaCv
import Derived.Test.YtipjpdiianopcaaAx7
import Derived.Test.YtipjpdiianopcaaAx10
import Derived.Test.YtipjpdiianopcaaEx2
import Derived.Test.YtipjpdiianopcaaCrow
namespace Go.Proofs.Ytipjpdiianopcaa.Pure
open Go.RowKit Go.Proofs.Ytipjpdiianopcaa.A Go.Proofs.YtipjpdiianopcaaW.PrintWords Go.Proofs.YtipjpdiianopcaaW.PrintLast
def letters (s : ByteArray) : Nat → Nat → Bool
  | 0, _ => true
  | d + 1, i => decide (97 ≤ bt s i) && decide (bt s i ≤ 122) && letters s d (i + 1)
def nameOk (s : ByteArray) : Bool := letters s s.size 0 && (decide (1 ≤ s.size) && decide (s.size ≤ 16))
theorem wrap_bt (s : ByteArray) (i : Int) : wrap64 (bt s i) = bt s i := by have := bt_range s i; unfold wrap64; omega
theorem mnemonic_l0 (s : ByteArray) (hs : s.size ≤ 1000000000000000) : ∀ (d k i : Nat), i + d = s.size → d < k → isa_IsMnemonic.l0 k s (s.size : Int) (i : Int) = some (letters s d i && (decide (1 ≤ s.size) && decide (s.size ≤ 16))) := by
  intro d
  induction d with
  | zero =>
    intro k i hi hk
    obtain ⟨k, rfl⟩ : ∃ k', k = k' + 1 := ⟨k - 1, by omega⟩
    rw [isa_IsMnemonic.l0, if_neg (by omega)]
    simp only [letters, Bool.true_and]
    by_cases h : (s.size : Int) ≥ 1
    · rw [if_pos h, decide_eq_true (show 1 ≤ s.size by omega), Bool.true_and]
      congr 1
      exact decide_eq_decide.2 (by omega)
    · rw [if_neg h, decide_eq_false (show ¬ 1 ≤ s.size by omega), Bool.false_and]
  | succ d ih =>
    intro k i hi hk
    obtain ⟨k, rfl⟩ : ∃ k', k = k' + 1 := ⟨k - 1, by omega⟩
    have hw : wrap64 ((i : Int) + 1) = ((i + 1 : Nat) : Int) := by unfold wrap64; omega
    rw [isa_IsMnemonic.l0, if_pos (by omega), if_pos (by omega), if_pos (by omega)]
    simp only [letters]
    by_cases h1 : bt s i < 97
    · rw [if_pos h1, decide_eq_false (by omega)]; simp
    · rw [if_neg h1, decide_eq_true (show (97 : Int) ≤ bt s i by omega)]
      by_cases h2 : bt s i > 122
      · rw [if_pos h2, decide_eq_false (by omega)]; simp
      · rw [if_neg h2, decide_eq_true (show bt s i ≤ 122 by omega), hw, ih k (i + 1) (by omega) (by omega)]
        simp
theorem mnemonic_f (s : ByteArray) (hs : s.size ≤ 1000000000000000) (k : Nat) (hk : s.size < k) : isa_IsMnemonic.f k s = some (nameOk s) := mnemonic_l0 s hs s.size k 0 (by omega) hk
theorem in_f (a b c : Int) : linkhouseref1_In.f a b c = some (decide (b ≤ a) && decide (a ≤ c)) := by
  unfold linkhouseref1_In.f
  by_cases h : a ≥ b
  · rw [if_pos h, decide_eq_true (show b ≤ a from h), Bool.true_and]
  · rw [if_neg h, decide_eq_false (show ¬ b ≤ a from h), Bool.false_and]
theorem letters_l0 (s : ByteArray) (hs : s.size ≤ 1000000000000000) : ∀ (d k i : Nat), i + d = s.size → d < k → linkhouseref1_Letters.l0 k s (i : Int) = some (letters s d i && (decide (1 ≤ s.size) && decide (s.size ≤ 16))) := by
  intro d
  induction d with
  | zero =>
    intro k i hi hk
    obtain ⟨k, rfl⟩ : ∃ k', k = k' + 1 := ⟨k - 1, by omega⟩
    rw [linkhouseref1_Letters.l0, if_neg (by omega), in_f]
    simp only [letters, Bool.true_and, Option.bind_some]
    congr 2 <;> exact decide_eq_decide.2 (by omega)
  | succ d ih =>
    intro k i hi hk
    obtain ⟨k, rfl⟩ : ∃ k', k = k' + 1 := ⟨k - 1, by omega⟩
    have hw : wrap64 ((i : Int) + 1) = ((i + 1 : Nat) : Int) := by unfold wrap64; omega
    rw [linkhouseref1_Letters.l0, if_pos (by omega), if_pos (by omega), in_f, wrap_bt]
    simp only [letters, Option.bind_some]
    by_cases h1 : (97 : Int) ≤ bt s i
    · by_cases h2 : bt s i ≤ 122
      · rw [decide_eq_true h1, decide_eq_true h2, hw, ih k (i + 1) (by omega) (by omega)]; simp
      · rw [decide_eq_true h1, decide_eq_false h2]; simp
    · rw [decide_eq_false h1]; simp
theorem letters_f (s : ByteArray) (hs : s.size ≤ 1000000000000000) (k : Nat) (hk : s.size < k) : linkhouseref1_Letters.f k s = some (nameOk s) := letters_l0 s hs s.size k 0 (by omega) hk
end Go.Proofs.Ytipjpdiianopcaa.Pure
namespace Go.Proofs.Ytipjpdiianopcaa.Pure
open Go.RowKit Go.Proofs.Ytipjpdiianopcaa.A Go.Proofs.YtipjpdiianopcaaW.PrintWords Go.Proofs.YtipjpdiianopcaaW.PrintLast
/-- The error code of a list of kinds, n distances having come. -/
def kf : List Int → Int → Int
  | [], n => if n > 1 then 5 else 0
  | x :: r, n => if x < 1 ∨ 6 < x then 4 else kf r (if 5 ≤ x then n + 1 else n)
theorem rd_drop_ (l : List Int) (i : Nat) (h : i < l.length) : l.drop i = rd l (i : Int) :: l.drop (i + 1) := by
  rw [List.drop_eq_getElem_cons h]
  congr 1
  unfold rd
  rw [Int.toNat_natCast, List.getD_eq_getElem?_getD, List.getElem?_eq_getElem h]
  rfl
theorem form_l0 (l : List Int) (hl : l.length ≤ 4) : ∀ (d k i : Nat) (n : Int), i + d = l.length → 2 * d < k → 0 ≤ n → n ≤ i → isa_form.l0 k n l (l.length : Int) (i : Int) = some (kf (l.drop i) n) := by
  intro d
  induction d with
  | zero =>
    intro k i n hi hk _ _
    obtain ⟨k, rfl⟩ : ∃ k', k = k' + 1 := ⟨k - 1, by omega⟩
    rw [isa_form.l0, if_neg (by omega), List.drop_of_length_le (by omega), kf]
    by_cases h : n > 1
    · rw [if_pos h, if_pos h]
    · rw [if_neg h, if_neg h]
  | succ d ih =>
    intro k i n hi hk h0 h1
    obtain ⟨k, rfl⟩ : ∃ k', k = k' + 1 + 1 := ⟨k - 2, by omega⟩
    have hw : wrap64 ((i : Int) + 1) = ((i + 1 : Nat) : Int) := by unfold wrap64; omega
    have hn : wrap64 (n + 1) = n + 1 := by unfold wrap64; omega
    rw [isa_form.l0, if_pos (by omega), if_pos (by omega), if_pos (by omega), rd_drop_ l i (by omega), kf]
    generalize rd l (i : Int) = x
    by_cases hx : x < 1
    · rw [if_pos hx, isa_form.j2, if_pos rfl, if_pos (Or.inl hx)]
    · rw [if_neg hx]
      by_cases hy : x > 6
      · rw [decide_eq_true hy, isa_form.j2, if_pos rfl, if_pos (Or.inr hy)]
      · rw [decide_eq_false hy, isa_form.j2, if_neg (show ¬ (false = true) by simp), if_neg (show ¬ (x < 1 ∨ 6 < x) by omega), hw]
        by_cases hz : x ≥ 5
        · rw [if_pos hz, if_pos (show 5 ≤ x from hz), hn]
          exact ih k (i + 1) (n + 1) (by omega) (by omega) (by omega) (by omega)
        · rw [if_neg hz, if_neg (show ¬ 5 ≤ x from hz)]
          exact ih k (i + 1) n (by omega) (by omega) (by omega) (by omega)
/-- The error code of a form by itself. -/
def formErr (s : ByteArray) (c : Int) (l : List Int) : Int := if nameOk s = true then (if c < 0 ∨ 255 < c then 3 else if l.length > 4 then 2 else kf l 0) else 12
theorem form_f (s : ByteArray) (c : Int) (l : List Int) (hs : s.size ≤ 1000000000000000) (k : Nat) (hk : s.size + 20 < k) : isa_form.f k s c l = some (formErr s c l) := by
  unfold isa_form.f formErr
  rw [mnemonic_f s hs k (by omega), Option.bind_some]
  by_cases h : nameOk s = true
  · rw [if_pos h, if_pos h]
    obtain ⟨k, rfl⟩ : ∃ k', k = k' + 1 := ⟨k - 1, by omega⟩
    by_cases h1 : c < 0
    · rw [if_pos h1, if_pos (Or.inl h1), isa_form.j0, if_pos rfl]
    · rw [if_neg h1]
      by_cases h2 : c > 255
      · rw [decide_eq_true h2, if_pos (Or.inr h2), isa_form.j0, if_pos rfl]
      · rw [decide_eq_false h2, isa_form.j0, if_neg (show ¬ (false = true) by simp), if_neg (show ¬ (c < 0 ∨ 255 < c) by omega)]
        by_cases h3 : l.length > 4
        · rw [if_pos (show (l.length : Int) > 4 by omega), if_pos h3]
        · rw [if_neg (show ¬ (l.length : Int) > 4 by omega), if_neg h3]
          exact form_l0 l (by omega) l.length k 0 0 (by omega) (by omega) (by omega) (by omega)
  · rw [if_neg h, if_neg h]
end Go.Proofs.Ytipjpdiianopcaa.Pure
namespace Go.Proofs.Ytipjpdiianopcaa.Pure
open Go.RowKit Go.Proofs.Ytipjpdiianopcaa.A Go.Proofs.Ytipjpdiianopcaa.Cv Go.Proofs.YtipjpdiianopcaaW.PrintWords Go.Proofs.YtipjpdiianopcaaW.PrintLast
/-- From form i on: the first fault of a table. -/
def tf (t : List S54) : Nat → Nat → Int × Int
  | 0, _ => (0, 0)
  | d + 1, i => if formErr (rd_T54 t i).f0 (rd_T54 t i).f1 (rd_T54 t i).f2 = 0 then (if (t.take i).any (sameF (rd_T54 t i)) = true then (7, (i : Int)) else tf t d (i + 1)) else (formErr (rd_T54 t i).f0 (rd_T54 t i).f1 (rd_T54 t i).f2, (i : Int))
def tableErr (t : List S54) : Int × Int := if t.length > 100 then (2, -1) else tf t t.length 0
theorem rd_mem (t : List S54) (i : Nat) (h : i < t.length) : rd_T54 t (i : Int) ∈ t := by
  unfold rd_T54
  rw [Int.toNat_natCast, List.getD_eq_getElem?_getD, List.getElem?_eq_getElem h]
  exact List.getElem_mem h
theorem validate_l0 (t : List S54) (ht : t.length ≤ 100) (N : Nat) (hN : ∀ f ∈ t, f.f0.size ≤ N) (hN2 : N ≤ 1000000000000000) : ∀ (d k i : Nat), i + d = t.length → d + N + 30 < k → isa_Validate.l0 k t (i : Int) = some (tf t d i) := by
  intro d
  induction d with
  | zero =>
    intro k i hi hk
    obtain ⟨k, rfl⟩ : ∃ k', k = k' + 1 := ⟨k - 1, by omega⟩
    rw [isa_Validate.l0, if_neg (show ¬ (i : Int) < (t.length : Int) by omega), tf]
  | succ d ih =>
    intro k i hi hk
    obtain ⟨k, rfl⟩ : ∃ k', k = k' + 1 := ⟨k - 1, by omega⟩
    have hw : wrap64 ((i : Int) + 1) = ((i + 1 : Nat) : Int) := by unfold wrap64; omega
    have hm := hN _ (rd_mem t i (by omega))
    rw [isa_Validate.l0, if_pos (show (i : Int) < (t.length : Int) by omega), form_f _ _ _ (by omega) k (by omega), Option.bind_some, tf, Int.toNat_natCast]
    by_cases h : formErr (rd_T54 t i).f0 (rd_T54 t i).f1 (rd_T54 t i).f2 = 0
    · rw [if_pos h, if_pos h]
      by_cases h2 : (t.take i).any (sameF (rd_T54 t i)) = true
      · rw [if_pos h2, if_pos h2]
      · rw [if_neg h2, if_neg h2, hw]
        exact ih k (i + 1) (by omega) (by omega)
    · rw [if_neg h, if_neg h]
theorem validate_f (t : List S54) (N : Nat) (hN : ∀ f ∈ t, f.f0.size ≤ N) (hN2 : N ≤ 1000000000000000) (k : Nat) (hk : N + 200 < k) : isa_Validate.f k t = some (tableErr t) := by
  unfold isa_Validate.f tableErr
  by_cases h : t.length > 100
  · rw [if_pos (show (t.length : Int) > 100 by omega), if_pos h]
  · rw [if_neg (show ¬ (t.length : Int) > 100 by omega), if_neg h]
    exact validate_l0 t (by omega) N hN hN2 t.length k 0 (by omega) (by omega)
end Go.Proofs.Ytipjpdiianopcaa.Pure
namespace Go.Proofs.Ytipjpdiianopcaa.Pure
open Go.RowKit Go.Proofs.Ytipjpdiianopcaa.A Go.Proofs.Ytipjpdiianopcaa.Cv Go.Proofs.YtipjpdiianopcaaW.PrintWords Go.Proofs.YtipjpdiianopcaaW.PrintLast
theorem ints_l0_any (a b : List Int) (hl : a.length = b.length) (hn : a.length < 1000000000000000) : ∀ (d k i : Nat), i + d = a.length → d < k → linkhouseref1_Ints.l0 k a b (i : Int) = some (decide (a.drop i = b.drop i)) := by
  intro d
  induction d with
  | zero =>
    intro k i hi hk
    obtain ⟨k, rfl⟩ : ∃ k', k = k' + 1 := ⟨k - 1, by omega⟩
    rw [linkhouseref1_Ints.l0, if_neg (show ¬ (i : Int) < (a.length : Int) by omega), List.drop_of_length_le (by omega), List.drop_of_length_le (by omega)]
    rfl
  | succ d ih =>
    intro k i hi hk
    obtain ⟨k, rfl⟩ : ∃ k', k = k' + 1 := ⟨k - 1, by omega⟩
    have hw : wrap64 ((i : Int) + 1) = ((i + 1 : Nat) : Int) := by unfold wrap64; omega
    rw [linkhouseref1_Ints.l0, if_pos (show (i : Int) < (a.length : Int) by omega), if_pos (show (0 : Int) ≤ (i : Int) by omega), if_pos (show (i : Int) < (b.length : Int) by omega), rd_drop_ a i (by omega), rd_drop_ b i (by omega)]
    by_cases h : rd a (i : Int) = rd b (i : Int)
    · rw [if_pos h, hw, ih k (i + 1) (by omega) (by omega), h]
      simp
    · rw [if_neg h]
      simp [h]
theorem ints_any (a b : List Int) (hn : a.length < 1000000000000000) (k : Nat) (hk : a.length < k) : linkhouseref1_Ints.f k a b = some (decide (a = b)) := by
  unfold linkhouseref1_Ints.f
  by_cases h : a.length = b.length
  · rw [if_pos (show (a.length : Int) = (b.length : Int) by omega)]
    exact ints_l0_any a b h hn a.length k 0 (by omega) hk
  · rw [if_neg (show ¬ (a.length : Int) = (b.length : Int) by omega), decide_eq_false (fun e => h (by rw [e]))]
theorem sameForm_f (f g : S54) (hn : f.f2.length < 1000000000000000) (k : Nat) (hk : f.f2.length < k) : linkhouseref1_SameForm.f k f.f0 f.f1 f.f2 g.f0 g.f1 g.f2 = some (f.f0.toList == g.f0.toList && decide (f.f2 = g.f2)) := by
  unfold linkhouseref1_SameForm.f
  by_cases h : f.f0.toList = g.f0.toList
  · rw [if_pos h, ints_any _ _ hn k hk]
    simp [h]
  · rw [if_neg h]
    simp [h]
end Go.Proofs.Ytipjpdiianopcaa.Pure
namespace Go.Proofs.Ytipjpdiianopcaa.Pure
open Go.RowKit Go.Proofs.Ytipjpdiianopcaa.A Go.Proofs.Ytipjpdiianopcaa.Cv Go.Proofs.YtipjpdiianopcaaW.PrintWords Go.Proofs.YtipjpdiianopcaaW.PrintLast
/-- One of the d forms from j on is the same as f. -/
def dup (t : List S54) (f : S54) : Nat → Nat → Bool
  | 0, _ => false
  | d + 1, j => sameF f (rd_T54 t j) || dup t f d (j + 1)
theorem at_fv (x y : Int) : linkhouseref1_At.f x y = some (x, y) := rfl
theorem sameF_eq (f g : S54) : sameF f g = (decide (g.f1 = f.f1) || (g.f0.toList == f.f0.toList && decide (g.f2 = f.f2))) := by
  unfold sameF
  have e1 : (f.f1 == g.f1) = decide (g.f1 = f.f1) := by
    by_cases h : g.f1 = f.f1
    · rw [decide_eq_true h, h]; exact beq_self_eq_true _
    · rw [decide_eq_false h]; exact beq_eq_false_iff_ne.2 (fun e => h e.symm)
  have e2 : (f.f0.toList == g.f0.toList) = (g.f0.toList == f.f0.toList) := by
    by_cases h : g.f0.toList = f.f0.toList
    · rw [h]
    · rw [beq_eq_false_iff_ne.2 h, beq_eq_false_iff_ne.2 (fun e => h e.symm)]
  have e3 : decide (f.f2 = g.f2) = decide (g.f2 = f.f2) := decide_eq_decide.2 ⟨Eq.symm, Eq.symm⟩
  rw [e1, e2, e3]
theorem fault_l2 (t : List S54) (N : Nat) (hN : ∀ f ∈ t, f.f2.length ≤ N) (hN2 : N < 1000000000000000) (ht : t.length ≤ 100) (f : S54) (i : Nat) (hi : i < t.length) : ∀ (d k j : Nat), j + d = i → N < k →
    linkhouseref1_TableFault.l2 (k + d + 1) t (i : Int) (j : Int) f.f0 f.f1 f.f2 = if dup t f d j = true then some (7, (i : Int)) else linkhouseref1_TableFault.l0 k t ((i + 1 : Nat) : Int) := by
  intro d
  induction d with
  | zero =>
    intro k j hj hk
    have hw : wrap64 ((i : Int) + 1) = ((i + 1 : Nat) : Int) := by unfold wrap64; omega
    rw [linkhouseref1_TableFault.l2, if_neg (show ¬ (j : Int) < (i : Int) by omega), hw, dup, if_neg (by simp)]
  | succ d ih =>
    intro k j hj hk
    have hw : wrap64 ((j : Int) + 1) = ((j + 1 : Nat) : Int) := by unfold wrap64; omega
    have hm := hN _ (rd_mem t j (by omega))
    rw [show k + (d + 1) + 1 = (k + d + 1) + 1 from by omega, linkhouseref1_TableFault.l2, if_pos (show (j : Int) < (i : Int) by omega), if_pos (show (0 : Int) ≤ (j : Int) by omega), if_pos (show (j : Int) < (t.length : Int) by omega), dup, sameF_eq]
    by_cases h : (rd_T54 t j).f1 = f.f1
    · rw [if_pos h, at_fv]
      simp [h]
    · rw [if_neg h, sameForm_f _ f (by omega) _ (by omega), Option.bind_some, decide_eq_false h, Bool.false_or, hw]
      by_cases h2 : ((rd_T54 t j).f0.toList == f.f0.toList && decide ((rd_T54 t j).f2 = f.f2)) = true
      · rw [if_pos h2, h2, at_fv]
        simp
      · rw [if_neg h2, Bool.eq_false_iff.2 h2, Bool.false_or]
        exact ih k (j + 1) (by omega) hk
theorem fault_l1 (t : List S54) (f : S54) (i : Nat) (hi : i < 1000) (hl : f.f2.length ≤ 4) : ∀ (d k j : Nat) (n : Int), j + d = f.f2.length → 0 ≤ n → n ≤ j →
    linkhouseref1_TableFault.l1 (k + d + 1) t (i : Int) n (j : Int) f.f0 f.f1 f.f2 = if kf (f.f2.drop j) n = 0 then linkhouseref1_TableFault.l2 k t (i : Int) 0 f.f0 f.f1 f.f2 else some (kf (f.f2.drop j) n, (i : Int)) := by
  intro d
  induction d with
  | zero =>
    intro k j n hj h0 h1
    rw [linkhouseref1_TableFault.l1, if_neg (show ¬ (j : Int) < (f.f2.length : Int) by omega), List.drop_of_length_le (by omega), kf]
    by_cases h : n > 1
    · rw [if_pos h, if_pos h, at_fv]
      rfl
    · rw [if_neg h, if_neg h, if_pos rfl]
  | succ d ih =>
    intro k j n hj h0 h1
    have hw : wrap64 ((j : Int) + 1) = ((j + 1 : Nat) : Int) := by unfold wrap64; omega
    have hn : wrap64 (n + 1) = n + 1 := by unfold wrap64; omega
    rw [show k + (d + 1) + 1 = (k + d + 1) + 1 from by omega, linkhouseref1_TableFault.l1, if_pos (show (j : Int) < (f.f2.length : Int) by omega), if_pos (show (0 : Int) ≤ (j : Int) by omega), in_f, Option.bind_some, rd_drop_ _ j (by omega), kf]
    generalize rd f.f2 (j : Int) = x
    by_cases hx : x < 1 ∨ 6 < x
    · rw [if_pos hx, if_neg (by simp; omega), at_fv]
      rfl
    · rw [if_neg hx, if_pos (by simp; omega), hw, hn]
      by_cases hz : x ≥ 5
      · rw [if_pos hz, if_pos (show 5 ≤ x from hz)]
        exact ih k (j + 1) (n + 1) (by omega) (by omega) (by omega)
      · rw [if_neg hz, if_neg (show ¬ 5 ≤ x from hz)]
        exact ih k (j + 1) n (by omega) (by omega) (by omega)
end Go.Proofs.Ytipjpdiianopcaa.Pure
namespace Go.Proofs.Ytipjpdiianopcaa.Pure
open Go.RowKit Go.Proofs.Ytipjpdiianopcaa.A Go.Proofs.Ytipjpdiianopcaa.Cv Go.Proofs.YtipjpdiianopcaaW.PrintWords Go.Proofs.YtipjpdiianopcaaW.PrintLast
set_option linter.unusedVariables false
theorem rd_nat (t : List S54) (j : Nat) (h : j < t.length) : rd_T54 t (j : Int) = t[j] := by
  unfold rd_T54
  rw [Int.toNat_natCast, List.getD_eq_getElem?_getD, List.getElem?_eq_getElem h]
  rfl
theorem dup_any (t : List S54) (f : S54) (i : Nat) (hi : i ≤ t.length) : ∀ (d j : Nat), j + d = i → dup t f d j = ((t.take i).drop j).any (sameF f) := by
  intro d
  induction d with
  | zero =>
    intro j hj
    rw [dup, List.drop_of_length_le (by rw [List.length_take]; omega)]
    rfl
  | succ d ih =>
    intro j hj
    have hl : j < (t.take i).length := by rw [List.length_take]; omega
    rw [dup, ih (j + 1) (by omega), List.drop_eq_getElem_cons hl, List.any_cons, rd_nat t j (by omega)]
    congr 2
    simp
theorem fault_l0 (t : List S54) (ht : t.length ≤ 100) (N : Nat) (hN : ∀ f ∈ t, f.f0.size ≤ N ∧ f.f2.length ≤ N) (hN2 : N < 1000000000000000) : ∀ (d k i : Nat), i + d = t.length → d * 200 + N + 200 < k → linkhouseref1_TableFault.l0 k t (i : Int) = some (tf t d i) := by
  intro d
  induction d with
  | zero =>
    intro k i hi hk
    obtain ⟨k, rfl⟩ : ∃ k', k = k' + 1 := ⟨k - 1, by omega⟩
    rw [linkhouseref1_TableFault.l0, if_neg (show ¬ (i : Int) < (t.length : Int) by omega), tf]
  | succ d ih =>
    intro k i hi hk
    obtain ⟨k, rfl⟩ : ∃ k', k = k' + 1 := ⟨k - 1, by omega⟩
    have hm := hN _ (rd_mem t i (by omega))
    rw [linkhouseref1_TableFault.l0, if_pos (show (i : Int) < (t.length : Int) by omega), if_pos (show (0 : Int) ≤ (i : Int) by omega), letters_f _ (by omega) k (by omega), Option.bind_some, tf]
    generalize hf : rd_T54 t (i : Int) = f at hm ⊢
    unfold formErr
    by_cases h1 : nameOk f.f0 = true
    · rw [if_pos h1, if_pos h1, in_f, Option.bind_some]
      by_cases h2 : f.f1 < 0 ∨ 255 < f.f1
      · rw [if_pos h2, if_neg (by simp; omega), at_fv, if_neg (by decide)]
        rfl
      · rw [if_neg h2, if_pos (by simp; omega)]
        by_cases h3 : f.f2.length > 4
        · rw [if_pos (show (f.f2.length : Int) > 4 by omega), if_pos h3, at_fv, if_neg (by decide)]
          rfl
        · rw [if_neg (show ¬ (f.f2.length : Int) > 4 by omega), if_neg h3]
          obtain ⟨k1, rfl⟩ : ∃ k1, k = ((k1 + i + 1) + f.f2.length + 1) := ⟨k - (i + f.f2.length + 2), by omega⟩
          have e := fault_l1 t f i (by omega) (by omega) f.f2.length (k1 + i + 1) 0 0 (by omega) (by omega) (by omega)
          rw [show ((0 : Nat) : Int) = 0 from rfl, List.drop_zero] at e
          rw [e]
          by_cases h4 : kf f.f2 0 = 0
          · rw [if_pos h4, if_pos h4]
            have e2 := fault_l2 t N (fun g hg => (hN g hg).2) hN2 ht f i (by omega) i k1 0 (by omega) (by omega)
            rw [show ((0 : Nat) : Int) = 0 from rfl] at e2
            rw [e2, dup_any t f i (by omega) i 0 (by omega), List.drop_zero]
            by_cases h5 : (t.take i).any (sameF f) = true
            · rw [if_pos h5, if_pos h5]
            · rw [if_neg h5, if_neg h5]
              exact ih k1 (i + 1) (by omega) (by omega)
          · rw [if_neg h4, if_neg h4]
    · rw [if_neg h1, if_neg h1, at_fv, if_neg (by decide)]
      rfl
theorem fault_f (t : List S54) (N : Nat) (hN : ∀ f ∈ t, f.f0.size ≤ N ∧ f.f2.length ≤ N) (hN2 : N < 1000000000000000) (k : Nat) (hk : 30000 + N < k) : linkhouseref1_TableFault.f k t = some (tableErr t) := by
  unfold linkhouseref1_TableFault.f tableErr
  by_cases h : t.length > 100
  · rw [if_pos (show (t.length : Int) > 100 by omega), if_pos h, at_fv]
    rfl
  · rw [if_neg (show ¬ (t.length : Int) > 100 by omega), if_neg h]
    exact fault_l0 t (by omega) N hN hN2 t.length k 0 (by omega) (by omega)
end Go.Proofs.Ytipjpdiianopcaa.Pure
namespace Go.Proofs.Ytipjpdiianopcaa.Pure
open Go.RowKit Go.Proofs.Ytipjpdiianopcaa.A Go.Proofs.Ytipjpdiianopcaa.Cv Go.Proofs.YtipjpdiianopcaaW.PrintWords Go.Proofs.YtipjpdiianopcaaW.PrintLast
set_option linter.unusedVariables false
/-- How many of the kinds are registers; the bytes of a kind; of all of them. -/
def regs : List Int → Nat
  | [] => 0
  | x :: r => (if x = 1 ∨ x = 2 then 1 else 0) + regs r
def by1 (x : Int) : Nat := if x = 3 ∨ x = 5 then 1 else if x = 6 then 2 else if x = 4 then 4 else 0
def bys : List Int → Nat
  | [] => 0
  | x :: r => by1 x + bys r
theorem regs_le : ∀ l : List Int, regs l ≤ l.length
  | [] => Nat.le_refl _
  | x :: r => by have := regs_le r; simp only [regs, List.length_cons]; split <;> omega
theorem by1_le (x : Int) : by1 x ≤ 4 := by unfold by1; split; omega; split; omega; split <;> omega
theorem bys_le : ∀ l : List Int, bys l ≤ 4 * l.length
  | [] => Nat.le_refl _
  | x :: r => by have := bys_le r; have := by1_le x; simp only [bys, List.length_cons]; omega
def sizeOf_ (l : List Int) : Int := ((1 + (regs l + 1) / 2 + bys l : Nat) : Int)
theorem regs_l0 (l : List Int) (hl : l.length < 1000000) : ∀ (d k i n : Nat), i + d = l.length → d < k → n ≤ i → isa_Registers.l0 k (n : Int) l (l.length : Int) (i : Int) = some ((n + regs (l.drop i) : Nat) : Int) := by
  intro d
  induction d with
  | zero =>
    intro k i n hi hk hn
    obtain ⟨k, rfl⟩ : ∃ k', k = k' + 1 := ⟨k - 1, by omega⟩
    rw [isa_Registers.l0, if_neg (show ¬ (i : Int) < (l.length : Int) by omega), List.drop_of_length_le (by omega), regs]
    rfl
  | succ d ih =>
    intro k i n hi hk hn
    obtain ⟨k, rfl⟩ : ∃ k', k = k' + 1 := ⟨k - 1, by omega⟩
    have hw : wrap64 ((i : Int) + 1) = ((i + 1 : Nat) : Int) := by unfold wrap64; omega
    have hn1 : wrap64 ((n : Int) + 1) = ((n + 1 : Nat) : Int) := by unfold wrap64; omega
    rw [isa_Registers.l0, if_pos (show (i : Int) < (l.length : Int) by omega), if_pos (show (0 : Int) ≤ (i : Int) by omega), if_pos (show (i : Int) < (l.length : Int) by omega), rd_drop_ l i (by omega), regs, hw, hn1]
    generalize rd l (i : Int) = x
    have h1 := ih k (i + 1) (n + 1) (by omega) (by omega) (by omega)
    have h0 := ih k (i + 1) n (by omega) (by omega) (by omega)
    by_cases e1 : x = 1
    · rw [if_pos e1, if_pos (Or.inl e1), h1]; congr 2; omega
    · rw [if_neg e1]
      by_cases e2 : x = 2
      · rw [if_pos e2, if_pos (Or.inr e2), h1]; congr 2; omega
      · rw [if_neg e2, if_neg (by omega), h0]; congr 2; omega
theorem bytes_k (k : Nat) (hk : 0 < k) (x : Int) : isa_Bytes.f k x = some (by1 x : Int) := by
  obtain ⟨k, rfl⟩ : ∃ k', k = k' + 1 := ⟨k - 1, by omega⟩
  unfold isa_Bytes.f by1
  by_cases e1 : x = 3
  · subst e1; rfl
  · rw [if_neg e1]
    by_cases e2 : x = 5
    · subst e2; rfl
    · rw [show (x == 5) = false from beq_eq_false_iff_ne.2 e2, isa_Bytes.j0, if_neg (show ¬ (false = true) by simp), if_neg (show ¬ (x = 3 ∨ x = 5) by omega)]
      by_cases e3 : x = 6
      · rw [if_pos e3, if_pos e3]; rfl
      · rw [if_neg e3, if_neg e3]
        by_cases e4 : x = 4
        · rw [if_pos e4, if_pos e4]; rfl
        · rw [if_neg e4, if_neg e4]; rfl
theorem length_l0 (l : List Int) (hl : l.length < 1000000) : ∀ (d k i n : Nat), i + d = l.length → d + 1 < k → n ≤ 1000000 + 4 * i → isa_Length.l0 k (n : Int) l (l.length : Int) (i : Int) = some ((n + bys (l.drop i) : Nat) : Int) := by
  intro d
  induction d with
  | zero =>
    intro k i n hi hk hn
    obtain ⟨k, rfl⟩ : ∃ k', k = k' + 1 := ⟨k - 1, by omega⟩
    rw [isa_Length.l0, if_neg (show ¬ (i : Int) < (l.length : Int) by omega), List.drop_of_length_le (by omega), bys]
    rfl
  | succ d ih =>
    intro k i n hi hk hn
    obtain ⟨k, rfl⟩ : ∃ k', k = k' + 1 := ⟨k - 1, by omega⟩
    have hw : wrap64 ((i : Int) + 1) = ((i + 1 : Nat) : Int) := by unfold wrap64; omega
    have hb := by1_le (rd l (i : Int))
    have hn1 : wrap64 ((n : Int) + (by1 (rd l (i : Int)) : Int)) = ((n + by1 (rd l (i : Int)) : Nat) : Int) := by unfold wrap64; omega
    rw [isa_Length.l0, if_pos (show (i : Int) < (l.length : Int) by omega), if_pos (show (0 : Int) ≤ (i : Int) by omega), if_pos (show (i : Int) < (l.length : Int) by omega), bytes_k k (by omega), Option.bind_some, hw, hn1, ih k (i + 1) _ (by omega) (by omega) (by omega), rd_drop_ l i (by omega), bys]
    congr 2
    omega
theorem length_f (s : ByteArray) (c : Int) (l : List Int) (hl : l.length < 1000000) (k : Nat) (hk : l.length + 2 < k) : isa_Length.f k s c l = some (sizeOf_ l) := by
  have hr := regs_le l
  unfold isa_Length.f isa_Registers.f
  have e := regs_l0 l hl l.length k 0 0 (by omega) (by omega) (by omega)
  rw [show ((0 : Nat) : Int) = 0 from rfl, List.drop_zero, Nat.zero_add] at e
  rw [e, Option.bind_some]
  have h1 : wrap64 ((regs l : Int) + 1) = ((regs l + 1 : Nat) : Int) := by unfold wrap64; omega
  have h2 : Int.tdiv ((regs l + 1 : Nat) : Int) 2 = (((regs l + 1) / 2 : Nat) : Int) := by rw [Int.tdiv_eq_ediv_of_nonneg (by omega)]; omega
  have h3 : wrap64 (1 + wrap64 (((regs l + 1) / 2 : Nat) : Int)) = ((1 + (regs l + 1) / 2 : Nat) : Int) := by unfold wrap64; omega
  rw [h1, h2, h3]
  have e2 := length_l0 l hl l.length k 0 (1 + (regs l + 1) / 2) (by omega) (by omega) (by omega)
  rw [show ((0 : Nat) : Int) = 0 from rfl, List.drop_zero] at e2
  exact e2
end Go.Proofs.Ytipjpdiianopcaa.Pure
namespace Go.Proofs.Ytipjpdiianopcaa.Pure
open Go.RowKit Go.Proofs.Ytipjpdiianopcaa.A Go.Proofs.Ytipjpdiianopcaa.Cv Go.Proofs.YtipjpdiianopcaaW.PrintWords Go.Proofs.YtipjpdiianopcaaW.PrintLast
set_option linter.unusedVariables false
theorem fs_round (k : Nat) (h n i : Int) (s : ByteArray) (c : Int) (l : List Int) (h0 : i < (l.length : Int)) (h1 : 0 ≤ i) :
    ∃ k', k ≤ k' ∧ linkhouseref1_FormSize.l0 (k + 3) h n i s c l = linkhouseref1_FormSize.l0 k' (if rd l i = 1 ∨ rd l i = 2 then wrap64 (h + 1) else h) (if rd l i = 3 ∨ rd l i = 5 then wrap64 (n + 1) else if rd l i = 6 then wrap64 (n + 2) else if rd l i = 4 then wrap64 (n + 4) else n) (wrap64 (i + 1)) s c l := by
  rw [linkhouseref1_FormSize.l0, if_pos h0, if_pos h1]
  generalize rd l i = x
  by_cases e1 : x = 1
  · subst e1
    refine ⟨k + 1, by omega, ?_⟩
    rw [if_pos rfl, linkhouseref1_FormSize.j1, if_pos (show ((1 : Int) == 1) = true from rfl), if_pos (Or.inl rfl), if_neg (by decide), if_neg (by decide), if_neg (by decide)]
  · rw [if_neg e1]
    by_cases e2 : x = 2
    · subst e2
      refine ⟨k + 1, by omega, ?_⟩
      rw [linkhouseref1_FormSize.j1, if_pos (show ((2 : Int) == 2) = true from rfl), if_pos (Or.inr rfl), if_neg (by decide), if_neg (by decide), if_neg (by decide)]
    · have b2 : (x == 2) = false := beq_eq_false_iff_ne.2 e2
      rw [b2, linkhouseref1_FormSize.j1, if_neg (show ¬ (false = true) by simp), if_neg (show ¬ (x = 1 ∨ x = 2) by omega)]
      clear b2 e1 e2
      refine ⟨k, Nat.le_refl _, ?_⟩
      by_cases e3 : x = 3
      · subst e3
        rw [if_pos rfl, linkhouseref1_FormSize.j2, if_pos (show ((3 : Int) == 3) = true from rfl), if_pos (Or.inl rfl)]
      · rw [if_neg e3]
        by_cases e5 : x = 5
        · subst e5
          rw [linkhouseref1_FormSize.j2, if_pos (show ((5 : Int) == 5) = true from rfl), if_pos (Or.inr rfl)]
        · have b5 : (x == 5) = false := beq_eq_false_iff_ne.2 e5
          rw [b5, linkhouseref1_FormSize.j2, if_neg (show ¬ (false = true) by simp), if_neg (show ¬ (x = 3 ∨ x = 5) by omega)]
          by_cases e6 : x = 6
          · rw [if_pos e6, if_pos e6]
          · rw [if_neg e6, if_neg e6]
            by_cases e4 : x = 4
            · rw [if_pos e4, if_pos e4]
            · rw [if_neg e4, if_neg e4]
theorem fs_h (h : Nat) (hh : h ≤ 1000000) (x : Int) : (if x = 1 ∨ x = 2 then wrap64 ((h : Int) + 1) else (h : Int)) = ((h + (if x = 1 ∨ x = 2 then 1 else 0) : Nat) : Int) := by
  by_cases e : x = 1 ∨ x = 2
  · rw [if_pos e, if_pos e]; unfold wrap64; omega
  · rw [if_neg e, if_neg e]; rfl
theorem fs_n (n : Nat) (hn : n ≤ 10000000) (x : Int) : (if x = 3 ∨ x = 5 then wrap64 ((n : Int) + 1) else if x = 6 then wrap64 ((n : Int) + 2) else if x = 4 then wrap64 ((n : Int) + 4) else (n : Int)) = ((n + by1 x : Nat) : Int) := by
  unfold by1
  by_cases e : x = 3 ∨ x = 5
  · rw [if_pos e, if_pos e]; unfold wrap64; omega
  · rw [if_neg e, if_neg e]
    by_cases e6 : x = 6
    · rw [if_pos e6, if_pos e6]; unfold wrap64; omega
    · rw [if_neg e6, if_neg e6]
      by_cases e4 : x = 4
      · rw [if_pos e4, if_pos e4]; unfold wrap64; omega
      · rw [if_neg e4, if_neg e4]; rfl
theorem formSize_l0 (s : ByteArray) (c : Int) (l : List Int) (hl : l.length < 1000000) : ∀ (d k i h n : Nat), i + d = l.length → 3 * d < k → h ≤ i → n ≤ 1 + 4 * i →
    linkhouseref1_FormSize.l0 k (h : Int) (n : Int) (i : Int) s c l = some ((n + bys (l.drop i) + (h + regs (l.drop i)) / 2 + (h + regs (l.drop i)) % 2 : Nat) : Int) := by
  intro d
  induction d with
  | zero =>
    intro k i h n hi hk hh hn
    obtain ⟨k, rfl⟩ : ∃ k', k = k' + 1 := ⟨k - 1, by omega⟩
    rw [linkhouseref1_FormSize.l0, if_neg (show ¬ (i : Int) < (l.length : Int) by omega), List.drop_of_length_le (by omega), bys, regs]
    rw [Int.tdiv_eq_ediv_of_nonneg (by omega), Int.tmod_eq_emod_of_nonneg (by omega)]
    congr 1
    unfold wrap64
    omega
  | succ d ih =>
    intro k i h n hi hk hh hn
    obtain ⟨k, rfl⟩ : ∃ k', k = k' + 3 := ⟨k - 3, by omega⟩
    have hw : wrap64 ((i : Int) + 1) = ((i + 1 : Nat) : Int) := by unfold wrap64; omega
    obtain ⟨k', hk', e⟩ := fs_round k h n i s c l (by omega) (by omega)
    have hb := by1_le (rd l (i : Int))
    have hr : (if rd l (i : Int) = 1 ∨ rd l (i : Int) = 2 then 1 else 0) ≤ 1 := by split <;> omega
    rw [e, fs_h h (by omega), fs_n n (by omega), hw, ih k' (i + 1) _ _ (by omega) (by omega) (by omega) (by omega), rd_drop_ l i (by omega)]
    simp only [regs, bys]
    rw [Nat.add_assoc n, Nat.add_assoc h]
theorem formSize_f (s : ByteArray) (c : Int) (l : List Int) (hl : l.length < 1000000) (k : Nat) (hk : 3 * l.length < k) : linkhouseref1_FormSize.f k s c l = some (sizeOf_ l) := by
  unfold linkhouseref1_FormSize.f
  have e := formSize_l0 s c l hl l.length k 0 0 1 (by omega) (by omega) (by omega) (by omega)
  rw [show ((0 : Nat) : Int) = 0 from rfl, show ((1 : Nat) : Int) = 1 from rfl, List.drop_zero] at e
  rw [e]
  unfold sizeOf_
  congr 1
  omega
end Go.Proofs.Ytipjpdiianopcaa.Pure
namespace Go.Proofs.Ytipjpdiianopcaa.Pure
open Go.RowKit Go.Proofs.Ytipjpdiianopcaa.A Go.Proofs.Ytipjpdiianopcaa.Cv Go.Proofs.Ytipjpdiianopcaa.Cd Go.Proofs.Ytipjpdiianopcaa.Cf Go.Proofs.Ytipjpdiianopcaa.E Go.Proofs.YtipjpdiianopcaaW.PrintWords Go.Proofs.YtipjpdiianopcaaW.PrintLast
theorem isaExample_40 : linkhouselaw1_isaExample.f 40 = some true := by decide +kernel
theorem isaExample_f (k : Nat) (hk : 40 ≤ k) : linkhouselaw1_isaExample.f k = some true := by
  obtain ⟨d, rfl⟩ : ∃ d, k = 40 + d := ⟨k - 40, by omega⟩
  clear hk
  induction d with
  | zero => exact isaExample_40
  | succ d ih => exact linkhouselaw1_isaExample.mono (40 + d) _ ih
end Go.Proofs.Ytipjpdiianopcaa.Pure
namespace Go.Proofs.Ytipjpdiianopcaa.Pure
open Go.RowKit Go.Proofs.Ytipjpdiianopcaa.A Go.Proofs.Ytipjpdiianopcaa.Cv Go.Proofs.Ytipjpdiianopcaa.Cd Go.Proofs.Ytipjpdiianopcaa.E Go.Proofs.YtipjpdiianopcaaW.PrintWords Go.Proofs.YtipjpdiianopcaaW.PrintLast
set_option linter.unusedVariables false
def Valid (t : List S54) : Prop := (tableErr t).1 = 0
theorem tf_ok (t : List S54) : ∀ (d i : Nat), (tf t d i).1 = 0 → tf t d i = (0, 0) ∧ ∀ j : Nat, i ≤ j → j < i + d → formErr (rd_T54 t j).f0 (rd_T54 t j).f1 (rd_T54 t j).f2 = 0 ∧ (t.take j).any (sameF (rd_T54 t j)) = false := by
  intro d
  induction d with
  | zero => intro i _; exact ⟨rfl, fun j h1 h2 => by omega⟩
  | succ d ih =>
    intro i h
    rw [tf] at h ⊢
    by_cases h1 : formErr (rd_T54 t i).f0 (rd_T54 t i).f1 (rd_T54 t i).f2 = 0
    · rw [if_pos h1] at h ⊢
      by_cases h2 : (t.take i).any (sameF (rd_T54 t i)) = true
      · rw [if_pos h2] at h
        exact absurd h (show ¬ ((7 : Int) = 0) by decide)
      · rw [if_neg h2] at h ⊢
        obtain ⟨e, hr⟩ := ih (i + 1) h
        refine ⟨e, fun j h3 h4 => ?_⟩
        by_cases he : j = i
        · subst he
          exact ⟨h1, Bool.eq_false_iff.2 h2⟩
        · exact hr j (by omega) (by omega)
    · rw [if_neg h1] at h
      exact absurd h h1
theorem tf_of (t : List S54) : ∀ (d i : Nat), (∀ j : Nat, i ≤ j → j < i + d → formErr (rd_T54 t j).f0 (rd_T54 t j).f1 (rd_T54 t j).f2 = 0 ∧ (t.take j).any (sameF (rd_T54 t j)) = false) → tf t d i = (0, 0) := by
  intro d
  induction d with
  | zero => intro i _; rfl
  | succ d ih =>
    intro i h
    have h0 := h i (Nat.le_refl _) (by omega)
    rw [tf, if_pos h0.1, if_neg (by rw [h0.2]; simp)]
    exact ih (i + 1) fun j h1 h2 => h j (by omega) (by omega)
theorem Valid.eq {t : List S54} (h : Valid t) : tableErr t = (0, 0) := by
  unfold Valid tableErr at *
  by_cases c : t.length > 100
  · rw [if_pos c] at h; exact absurd h (by decide)
  · rw [if_neg c] at h ⊢; exact (tf_ok t _ _ h).1
theorem Valid.len {t : List S54} (h : Valid t) : t.length ≤ 100 := by
  unfold Valid tableErr at h
  by_cases c : t.length > 100
  · rw [if_pos c] at h; exact absurd h (by decide)
  · omega
theorem Valid.at {t : List S54} (h : Valid t) (j : Nat) (hj : j < t.length) : formErr (rd_T54 t j).f0 (rd_T54 t j).f1 (rd_T54 t j).f2 = 0 ∧ (t.take j).any (sameF (rd_T54 t j)) = false := by
  have hl := h.len
  unfold Valid tableErr at h
  rw [if_neg (by omega)] at h
  exact (tf_ok t _ _ h).2 j (Nat.zero_le _) (by omega)
theorem kf_kind : ∀ (l : List Int) (n : Int), kf l n = 0 → ∀ x ∈ l, 1 ≤ x ∧ x ≤ 6
  | [], _, _, _, hx => by cases hx
  | y :: r, n, h, x, hx => by
    rw [kf] at h
    by_cases c : y < 1 ∨ 6 < y
    · rw [if_pos c] at h; exact absurd h (by decide)
    · rw [if_neg c] at h
      rcases List.mem_cons.1 hx with hx | hx
      · subst hx; omega
      · exact kf_kind r _ h x hx
/-- What is known of a form without a fault. -/
theorem formErr_ok {s : ByteArray} {c : Int} {l : List Int} (h : formErr s c l = 0) : nameOk s = true ∧ 0 ≤ c ∧ c ≤ 255 ∧ l.length ≤ 4 ∧ ∀ x ∈ l, 1 ≤ x ∧ x ≤ 6 := by
  unfold formErr at h
  by_cases h1 : nameOk s = true
  · rw [if_pos h1] at h
    by_cases h2 : c < 0 ∨ 255 < c
    · rw [if_pos h2] at h; exact absurd h (by decide)
    · rw [if_neg h2] at h
      by_cases h3 : l.length > 4
      · rw [if_pos h3] at h; exact absurd h (by decide)
      · rw [if_neg h3] at h
        exact ⟨h1, by omega, by omega, by omega, kf_kind l 0 h⟩
  · rw [if_neg h1] at h; exact absurd h (by decide)
theorem Valid.form {t : List S54} (h : Valid t) (i : Int) (h0 : 0 ≤ i) (h1 : i < (t.length : Int)) : nameOk (rd_T54 t i).f0 = true ∧ 0 ≤ (rd_T54 t i).f1 ∧ (rd_T54 t i).f1 ≤ 255 ∧ (rd_T54 t i).f2.length ≤ 4 ∧ ∀ x ∈ (rd_T54 t i).f2, 1 ≤ x ∧ x ≤ 6 := by
  have h2 := (h.at i.toNat (by omega)).1
  rw [Int.toNat_of_nonneg h0] at h2
  exact formErr_ok h2
/-- The bound of all rounds. -/
def big (k : Nat) : Prop := 140737488500000 < k
theorem szN {t : List S54} (hsz : ∀ f ∈ t, Crow.SzForm f) : ∀ f ∈ t, f.f0.size ≤ 140737488351232 ∧ f.f2.length ≤ 140737488351232 := fun f hf => ⟨(hsz f hf).1, by have := (hsz f hf).2; omega⟩
theorem fault_k {t : List S54} (hsz : ∀ f ∈ t, Crow.SzForm f) {k : Nat} (hk : big k) : linkhouseref1_TableFault.f k t = some (tableErr t) := fault_f t 140737488351232 (szN hsz) (by decide) k (by unfold big at hk; omega)
theorem validate_k {t : List S54} (hsz : ∀ f ∈ t, Crow.SzForm f) {k : Nat} (hk : big k) : isa_Validate.f k t = some (tableErr t) := validate_f t 140737488351232 (fun f hf => (szN hsz f hf).1) (by decide) k (by unfold big at hk; omega)
theorem size_bad {t : List S54} (hsz : ∀ f ∈ t, Crow.SzForm f) {k : Nat} (hk : big k) (i : Int) (h : ¬ Valid t) : isa_Size.f k t i = some (0, (tableErr t).1, (tableErr t).2) := by
  unfold isa_Size.f
  unfold Valid at h
  have e0 : ((tableErr t).1 == 0) = false := beq_eq_false_iff_ne.2 h
  rw [validate_k hsz hk, Option.bind_some, e0, Bool.false_and, if_neg (by simp)]
  obtain ⟨k, rfl⟩ : ∃ k', k = k' + 1 := ⟨k - 1, by unfold big at hk; omega⟩
  rw [isa_Size.j0, if_neg (by simp), e0, if_pos (by simp)]
theorem size_out {t : List S54} (hsz : ∀ f ∈ t, Crow.SzForm f) {k : Nat} (hk : big k) (i : Int) (h : Valid t) (hi : i < 0 ∨ (t.length : Int) ≤ i) : isa_Size.f k t i = some (0, 3, -2) := by
  unfold isa_Size.f
  rw [validate_k hsz hk, Option.bind_some, h.eq, if_pos (by decide)]
  obtain ⟨k, rfl⟩ : ∃ k', k = k' + 1 := ⟨k - 1, by unfold big at hk; omega⟩
  by_cases c : i < 0
  · rw [if_pos c, isa_Size.j0, if_pos rfl]
  · rw [if_neg c, decide_eq_true (show i ≥ (t.length : Int) by omega), isa_Size.j0, if_pos rfl]
theorem size_in {t : List S54} (hsz : ∀ f ∈ t, Crow.SzForm f) {k : Nat} (hk : big k) (i : Int) (h : Valid t) (h0 : 0 ≤ i) (h1 : i < (t.length : Int)) : isa_Size.f k t i = some (sizeOf_ (rd_T54 t i).f2, 0, 0) := by
  unfold isa_Size.f
  have hf := (h.form i h0 h1).2.2.2.1
  rw [validate_k hsz hk, Option.bind_some, h.eq, if_pos (by decide)]
  obtain ⟨k, rfl⟩ : ∃ k', k = k' + 1 := ⟨k - 1, by unfold big at hk; omega⟩
  rw [if_neg (show ¬ i < 0 by omega), decide_eq_false (show ¬ i ≥ (t.length : Int) by omega), isa_Size.j0, if_neg (by simp), if_neg (by simp), if_pos h0, if_pos h1, length_f _ _ _ (by omega) k (by unfold big at hk; omega), Option.bind_some]
theorem formSize_k {t : List S54} {k : Nat} (hk : big k) (i : Int) (h : Valid t) (h0 : 0 ≤ i) (h1 : i < (t.length : Int)) : linkhouseref1_FormSize.f k (rd_T54 t i).f0 (rd_T54 t i).f1 (rd_T54 t i).f2 = some (sizeOf_ (rd_T54 t i).f2) := by
  have hf := (h.form i h0 h1).2.2.2.1
  exact formSize_f _ _ _ (by omega) k (by unfold big at hk; omega)
theorem example_k {k : Nat} (hk : big k) : linkhouselaw1_isaExample.f k = some true := isaExample_f k (by unfold big at hk; omega)
end Go.Proofs.Ytipjpdiianopcaa.Pure
namespace Go.Proofs.Ytipjpdiianopcaa.Pure
open Go.RowKit Go.Proofs.Ytipjpdiianopcaa.A Go.Proofs.Ytipjpdiianopcaa.Cv Go.Proofs.Ytipjpdiianopcaa.Cd Go.Proofs.Ytipjpdiianopcaa.E Go.Proofs.YtipjpdiianopcaaW.PrintWords Go.Proofs.YtipjpdiianopcaaW.PrintLast
set_option linter.unusedVariables false
theorem idx_cases (p : S54 → Bool) (t : List S54) : (idxF p t = -1 ∧ ∀ j : Nat, j < t.length → p (rd_T54 t j) = false) ∨ ∃ m : Nat, idxF p t = (m : Int) ∧ m < t.length ∧ p (rd_T54 t m) = true ∧ ∀ j : Nat, j < m → p (rd_T54 t j) = false := by
  unfold idxF
  cases e : t.findIdx? p with
  | none =>
    refine .inl ⟨rfl, fun j hj => ?_⟩
    rw [List.findIdx?_eq_none_iff] at e
    exact e _ (rd_mem t j hj)
  | some m =>
    rw [List.findIdx?_eq_some_iff_getElem] at e
    obtain ⟨hm, hp, hn⟩ := e
    refine .inr ⟨m, rfl, hm, by rw [rd_nat t m hm]; exact hp, fun j hj => ?_⟩
    have := hn j hj
    rw [rd_nat t j (by omega)]
    simpa using this
theorem find_bad {t : List S54} (hsz : ∀ f ∈ t, Crow.SzForm f) {k : Nat} (hk : big k) (s : ByteArray) (l : List Int) (h : ¬ Valid t) : isa_Find.f k t s l = some (0, (tableErr t).1, (tableErr t).2) := by
  unfold isa_Find.f
  unfold Valid at h
  have e0 : ((tableErr t).1 == 0) = false := beq_eq_false_iff_ne.2 h
  rw [validate_k hsz hk, Option.bind_some, e0, if_pos (by simp)]
theorem find_none {t : List S54} (hsz : ∀ f ∈ t, Crow.SzForm f) {k : Nat} (hk : big k) (s : ByteArray) (l : List Int) (h : Valid t) (hi : idxF (isNamed s l) t = -1) : isa_Find.f k t s l = some (0, 6, -2) := by
  unfold isa_Find.f
  rw [validate_k hsz hk, Option.bind_some, h.eq, if_neg (by decide), hi, if_pos (by decide)]
theorem find_some {t : List S54} (hsz : ∀ f ∈ t, Crow.SzForm f) {k : Nat} (hk : big k) (s : ByteArray) (l : List Int) (h : Valid t) (m : Nat) (hi : idxF (isNamed s l) t = (m : Int)) : isa_Find.f k t s l = some ((m : Int), 0, 0) := by
  unfold isa_Find.f
  rw [validate_k hsz hk, Option.bind_some, h.eq, if_neg (by decide), hi, if_neg (by omega)]
theorem named_self {t : List S54} (h : Valid t) (m : Nat) (hm : m < t.length) : idxF (isNamed (rd_T54 t m).f0 (rd_T54 t m).f2) t = (m : Int) := by
  refine idx_hit _ t m (by omega) (by omega) (by simp [isNamed]) fun j hj => ?_
  have h1 := (h.at m hm).2
  rw [List.any_eq_false] at h1
  have hj' : j < m := by omega
  have h2 := h1 (rd_T54 t j) (by
    rw [rd_nat t j (by omega)]
    exact List.mem_iff_getElem.2 ⟨j, by rw [List.length_take]; omega, List.getElem_take⟩)
  rw [sameF_eq] at h2
  unfold isNamed
  simp only [Bool.or_eq_true, not_or, Bool.not_eq_true] at h2
  exact h2.2
end Go.Proofs.Ytipjpdiianopcaa.Pure
