/- Tokens: what the program's and the reference's functions compute, in plain words. -/
import Derived.Test.YtipjpdiianopcaaDoorTx14
namespace Go.Proofs.YtipjpdiianopcaaDoor.Tp
open Go.RowKit Go.Proofs.YtipjpdiianopcaaDoor.A Go.Proofs.YtipjpdiianopcaaDoor.Ct Go.Proofs.YtipjpdiianopcaaDoor.Hx Go.Proofs.YtipjpdiianopcaaW.PrintWords Go.Proofs.YtipjpdiianopcaaW.PrintLast
set_option linter.unusedVariables false
theorem in_f (a b c : Int) : linkhouseref1_In.f a b c = some (decide (b ≤ a) && decide (a ≤ c)) := by
  unfold linkhouseref1_In.f
  by_cases h : a ≥ b
  · rw [if_pos h, decide_eq_true (show b ≤ a from h), Bool.true_and]
  · rw [if_neg h, decide_eq_false (show ¬ b ≤ a from h), Bool.false_and]
theorem at_f (x y : Int) : linkhouseref1_At.f x y = some (x, y) := rfl
theorem wb (s : ByteArray) (i : Int) : wrap64 (bt s i) = bt s i := by have := bt_range s i; unfold wrap64; omega
/-- May a byte occur in a name? -/
def nb (c : Int) : Bool := (decide (97 ≤ c) && decide (c ≤ 122)) || ((decide (65 ≤ c) && decide (c ≤ 90)) || ((decide (48 ≤ c) && decide (c ≤ 57)) || ((c == 46) || ((c == 95) || (c == 36)))))
theorem nb_all : ∀ c : Fin 256, token_isNameByte.f (c.val : Int) = some (nb c.val) ∧ linkhouseref1_NameByte.f (c.val : Int) = some (nb c.val) ∧ token_isDigit.f (c.val : Int) = some (decide (48 ≤ (c.val : Int)) && decide ((c.val : Int) ≤ 57)) := by decide +kernel
theorem bt_fin (s : ByteArray) (i : Int) : ∃ c : Fin 256, bt s i = (c.val : Int) := by
  have h := bt_range s i
  obtain ⟨n, hn⟩ := Int.eq_ofNat_of_zero_le h.1
  exact ⟨⟨n, by omega⟩, hn⟩
theorem isNameByte_f (s : ByteArray) (i : Int) : token_isNameByte.f (bt s i) = some (nb (bt s i)) := by
  obtain ⟨c, hc⟩ := bt_fin s i
  rw [hc]; exact (nb_all c).1
theorem nameByte_f (s : ByteArray) (i : Int) : linkhouseref1_NameByte.f (bt s i) = some (nb (bt s i)) := by
  obtain ⟨c, hc⟩ := bt_fin s i
  rw [hc]; exact (nb_all c).2.1
theorem isDigit_f (s : ByteArray) (i : Int) : token_isDigit.f (bt s i) = some (decide (48 ≤ bt s i) && decide (bt s i ≤ 57)) := by
  obtain ⟨c, hc⟩ := bt_fin s i
  rw [hc]; exact (nb_all c).2.2
/-! names -/
/-- Are all bytes from i on, d of them, name bytes? -/
def allNb (s : ByteArray) : Nat → Nat → Bool
  | 0, _ => true
  | d + 1, i => nb (bt s i) && allNb s d (i + 1)
def isDg (c : Int) : Bool := decide (48 ≤ c) && decide (c ≤ 57)
def nameOk (s : ByteArray) : Bool := allNb s s.size 0 && (!(isDg (bt s 0)) && (decide (1 ≤ s.size) && decide (s.size ≤ 16)))
theorem isName_l0 (s : ByteArray) (hs : s.size ≤ 1000000) : ∀ (d k i : Nat), i + d = s.size → 0 < i → d < k → token_IsName.l0 k s (s.size : Int) (i : Int) = some (allNb s d i && (decide (1 ≤ s.size) && decide (s.size ≤ 16))) := by
  intro d
  induction d with
  | zero =>
    intro k i hi h0 hk
    obtain ⟨k, rfl⟩ : ∃ k', k = k' + 1 := ⟨k - 1, by omega⟩
    rw [token_IsName.l0, if_neg (by omega), if_pos (by omega), allNb, Bool.true_and, decide_eq_true (show 1 ≤ s.size by omega), Bool.true_and]
    congr 1
    exact decide_eq_decide.2 (by omega)
  | succ d ih =>
    intro k i hi h0 hk
    obtain ⟨k, rfl⟩ : ∃ k', k = k' + 1 := ⟨k - 1, by omega⟩
    have w1 : wrap64 ((i : Int) + 1) = ((i + 1 : Nat) : Int) := by unfold wrap64; omega
    rw [token_IsName.l0, if_pos (by omega), if_pos (by omega), if_pos (by omega), isNameByte_f, Option.bind_some, w1, allNb]
    by_cases h : nb (bt s i) = true
    · rw [if_pos h, if_neg (by omega), ih k (i + 1) (by omega) (by omega) (by omega), h, Bool.true_and]
    · rw [if_neg h, Bool.eq_false_iff.2 h, Bool.false_and, Bool.false_and]
theorem isName_f (s : ByteArray) (hs : s.size ≤ 1000000) (k : Nat) (hk : s.size + 1 < k) : token_IsName.f k s = some (nameOk s) := by
  unfold token_IsName.f nameOk
  obtain ⟨k, rfl⟩ : ∃ k', k = k' + 1 := ⟨k - 1, by omega⟩
  by_cases h0 : s.size = 0
  · rw [token_IsName.l0, if_neg (by omega), if_neg (by omega), decide_eq_false (show ¬ 1 ≤ s.size by omega)]
    simp
  · have w1 : wrap64 ((0 : Int) + 1) = ((1 : Nat) : Int) := by unfold wrap64; omega
    obtain ⟨d, hd⟩ : ∃ d, s.size = d + 1 := ⟨s.size - 1, by omega⟩
    rw [token_IsName.l0, if_pos (by omega), if_pos (by omega), if_pos (by omega), isNameByte_f, Option.bind_some, if_pos rfl, isDigit_f, Option.bind_some, w1, isName_l0 s hs d k 1 (by omega) (by omega) (by omega)]
    rw [show allNb s s.size 0 = (nb (bt s 0) && allNb s d 1) by rw [hd]; rfl]
    show (if nb (bt s 0) = true then (if isDg (bt s 0) = true then some false else _) else _) = _
    by_cases h1 : nb (bt s 0) = true
    · rw [if_pos h1, h1, Bool.true_and]
      by_cases h2 : isDg (bt s 0) = true
      · rw [if_pos h2, h2]; simp
      · rw [if_neg h2, Bool.eq_false_iff.2 h2]; simp
    · rw [if_neg h1, Bool.eq_false_iff.2 h1]; simp
theorem name_l0 (s : ByteArray) (hs : s.size ≤ 1000000) : ∀ (d k i : Nat), i + d = s.size → d < k → linkhouseref1_Name.l0 k s (i : Int) = some (allNb s d i && (!(isDg (bt s 0)) && (decide (1 ≤ s.size) && decide (s.size ≤ 16)))) := by
  intro d
  induction d with
  | zero =>
    intro k i hi hk
    obtain ⟨k, rfl⟩ : ∃ k', k = k' + 1 := ⟨k - 1, by omega⟩
    rw [linkhouseref1_Name.l0, if_neg (by omega), in_f, Option.bind_some, allNb, Bool.true_and, wb]
    by_cases h : 1 ≤ s.size ∧ s.size ≤ 16
    · rw [decide_eq_true (show (1 : Int) ≤ (s.size : Int) by omega), decide_eq_true (show (s.size : Int) ≤ 16 by omega), if_pos (show (true && true) = true from rfl), if_pos (by omega), in_f, Option.bind_some, decide_eq_true h.1, decide_eq_true h.2, Bool.and_true, Bool.and_true]
      rfl
    · have e1 : (decide ((1 : Int) ≤ (s.size : Int)) && decide ((s.size : Int) ≤ 16)) = false := by
        rw [Bool.eq_false_iff]; simp only [ne_eq, Bool.and_eq_true, decide_eq_true_eq]; omega
      have e2 : (decide (1 ≤ s.size) && decide (s.size ≤ 16)) = false := by
        rw [Bool.eq_false_iff]; simp only [ne_eq, Bool.and_eq_true, decide_eq_true_eq]; omega
      rw [e1, e2, if_neg (by decide), Bool.and_false]
  | succ d ih =>
    intro k i hi hk
    obtain ⟨k, rfl⟩ : ∃ k', k = k' + 1 := ⟨k - 1, by omega⟩
    have w1 : wrap64 ((i : Int) + 1) = ((i + 1 : Nat) : Int) := by unfold wrap64; omega
    rw [linkhouseref1_Name.l0, if_pos (by omega), if_pos (by omega), nameByte_f, Option.bind_some, w1, allNb]
    by_cases h : nb (bt s i) = true
    · rw [if_pos h, ih k (i + 1) (by omega) (by omega), h, Bool.true_and]
    · rw [if_neg h, Bool.eq_false_iff.2 h, Bool.false_and, Bool.false_and]
theorem name_f (s : ByteArray) (hs : s.size ≤ 1000000) (k : Nat) (hk : s.size < k) : linkhouseref1_Name.f k s = some (nameOk s) := name_l0 s hs s.size k 0 (by omega) hk
/-! numbers -/
theorem hexV_all : ∀ c : Fin 256, linkhouseref1_digit.f (c.val : Int) = some (match hexV c.val with | some d => (d : Int) | none => -1) := by decide +kernel
theorem hexV_lt (c d : Nat) (h : hexV c = some d) : d < 16 := by
  unfold hexV at h
  split at h
  · injection h with h; omega
  · split at h
    · injection h with h; omega
    · split at h
      · injection h with h; omega
      · cases h
/-- The byte at a place, as a list's entry. -/
theorem bt_list (s : ByteArray) (i : Nat) (h : i < s.size) : ∃ c : UInt8, s.data.toList.drop i = c :: s.data.toList.drop (i + 1) ∧ bt s (i : Int) = (c.toNat : Int) := by
  have hl : i < s.data.toList.length := by rw [Array.length_toList]; exact h
  refine ⟨s.data.toList[i], List.drop_eq_getElem_cons hl, ?_⟩
  unfold bt
  rw [dif_pos (by simpa using h)]
  rfl
theorem digit_f (c : UInt8) : linkhouseref1_digit.f ((c.toNat : Nat) : Int) = some (match hexV c.toNat with | some d => (d : Int) | none => -1) := hexV_all ⟨c.toNat, c.toNat_lt⟩
/-- What Denoted answers behind its loop. -/
def dend (s : ByteArray) (B f : Int) (r : Go.Lib.NumEnd Nat) : Int × Bool :=
  match r with
  | .ok v => ((v : Int), decide ((s.size : Int) > f) && (B == 16 || noLead s))
  | _ => (0, false)
theorem ws1 (i : Nat) (h : i ≤ 1000000) : wrap64 ((i : Int) + 1) = ((i + 1 : Nat) : Int) := by unfold wrap64; omega
theorem mw16 (acc v : Nat) (ha : acc ≤ 4294967295) (hv : v < 16) : wrap64 ((wrap64 ((acc : Int) * 16)) + (v : Int)) = ((acc * 16 + v : Nat) : Int) := by unfold wrap64; omega
theorem mw10 (acc v : Nat) (ha : acc ≤ 4294967295) (hv : v < 10) : wrap64 ((wrap64 ((acc : Int) * 10)) + (v : Int)) = ((acc * 10 + v : Nat) : Int) := by unfold wrap64; omega
theorem den16 (s : ByteArray) (hs : s.size ≤ 1000000) : ∀ (d k i acc : Nat), i + d = s.size → acc ≤ 4294967295 → 2 * d + 1 < k →
    linkhouseref1_Denoted.l0 k s 16 2 (acc : Int) (i : Int) = some (dend s 16 2 (hexM acc (s.data.toList.drop i))) := by
  intro d
  induction d with
  | zero =>
    intro k i acc hi ha hk
    obtain ⟨k, rfl⟩ : ∃ k', k = k' + 1 := ⟨k - 1, by omega⟩
    rw [linkhouseref1_Denoted.l0, if_neg (by omega), List.drop_eq_nil_of_le (by rw [Array.length_toList]; show s.size ≤ i; omega), hexM, dend]
    by_cases h : (s.size : Int) > 2
    · rw [if_pos h, if_pos rfl, decide_eq_true h]; rfl
    · rw [if_neg h, decide_eq_false h]; rfl
  | succ d ih =>
    intro k i acc hi ha hk
    obtain ⟨k, rfl⟩ : ∃ k', k = k' + 2 := ⟨k - 2, by omega⟩
    obtain ⟨c, hc, hb⟩ := bt_list s i (by omega)
    rw [linkhouseref1_Denoted.l0, if_pos (by omega), if_pos (by omega), hb, digit_f, Option.bind_some, hc, hexM]
    cases hv : hexV c.toNat with
    | none =>
      rw [if_pos (by decide), linkhouseref1_Denoted.j3, if_pos rfl]
      rfl
    | some v =>
      have hv16 := hexV_lt _ _ hv
      simp only
      rw [if_neg (by omega), decide_eq_false (show ¬ (v : Int) ≥ 16 by omega), linkhouseref1_Denoted.j3, if_neg (by decide), mw16 acc v ha hv16, ws1 i (by omega)]
      by_cases ho : 4294967295 < acc * 16 + v
      · rw [if_pos (by omega), if_pos ho]
        rfl
      · rw [if_neg (by omega), if_neg ho]
        exact ih k (i + 1) (acc * 16 + v) (by omega) (by omega) (by omega)
theorem den10 (s : ByteArray) (hs : s.size ≤ 1000000) : ∀ (d k i acc : Nat), i + d = s.size → acc ≤ 4294967295 → 2 * d + 1 < k →
    linkhouseref1_Denoted.l0 k s 10 0 (acc : Int) (i : Int) = some (dend s 10 0 (Go.Lib.parseUintM 4294967295 acc (s.data.toList.drop i))) := by
  intro d
  induction d with
  | zero =>
    intro k i acc hi ha hk
    obtain ⟨k, rfl⟩ : ∃ k', k = k' + 1 := ⟨k - 1, by omega⟩
    rw [linkhouseref1_Denoted.l0, if_neg (by omega), List.drop_eq_nil_of_le (by rw [Array.length_toList]; show s.size ≤ i; omega), Go.Lib.parseUintM, dend]
    by_cases h : (s.size : Int) > 0
    · rw [if_pos h, if_neg (by decide), decide_eq_true h]
      unfold noLead
      by_cases h1 : s.size = 1
      · rw [if_pos (by omega), h1]; rfl
      · rw [if_neg (by omega), if_pos (by omega), beq_eq_false_iff_ne.2 h1]
        simp [bne]
    · rw [if_neg h, decide_eq_false h]; rfl
  | succ d ih =>
    intro k i acc hi ha hk
    obtain ⟨k, rfl⟩ : ∃ k', k = k' + 2 := ⟨k - 2, by omega⟩
    obtain ⟨c, hc, hb⟩ := bt_list s i (by omega)
    rw [linkhouseref1_Denoted.l0, if_pos (by omega), if_pos (by omega), hb, digit_f, Option.bind_some, hc, Go.Lib.parseUintM]
    by_cases hd : 48 ≤ c.toNat ∧ c.toNat ≤ 57
    · have hv : hexV c.toNat = some (c.toNat - 48) := by unfold hexV; rw [if_pos hd]
      rw [hv]
      simp only
      rw [if_neg (by omega), decide_eq_false (show ¬ ((c.toNat - 48 : Nat) : Int) ≥ 10 by omega), linkhouseref1_Denoted.j3, if_neg (by decide), mw10 acc (c.toNat - 48) ha (by omega), ws1 i (by omega), if_pos hd, if_neg (show ¬ 1844674407370955162 ≤ acc by omega)]
      by_cases ho : 4294967295 < acc * 10 + (c.toNat - 48)
      · rw [if_pos (by omega), if_pos ho]
        rfl
      · rw [if_neg (by omega), if_neg ho]
        exact ih k (i + 1) (acc * 10 + (c.toNat - 48)) (by omega) (by omega) (by omega)
    · rw [if_neg hd]
      cases hv : hexV c.toNat with
      | none =>
        rw [if_pos (by decide), linkhouseref1_Denoted.j3, if_pos rfl]
        rfl
      | some v =>
        have hv10 : 10 ≤ v := by
          unfold hexV at hv
          rw [if_neg hd] at hv
          split at hv
          · injection hv with hv; omega
          · split at hv
            · injection hv with hv; omega
            · cases hv
        simp only
        rw [if_neg (by omega), decide_eq_true (show (v : Int) ≥ 10 by omega), linkhouseref1_Denoted.j3, if_pos rfl]
        rfl
end Go.Proofs.YtipjpdiianopcaaDoor.Tp
