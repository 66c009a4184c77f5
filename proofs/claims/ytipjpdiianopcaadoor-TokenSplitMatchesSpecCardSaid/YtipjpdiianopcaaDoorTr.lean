/- Tokens: what the program's next token and the reference's are, of one run. -/
import Derived.Test.YtipjpdiianopcaaDoorTq
namespace Go.Proofs.YtipjpdiianopcaaDoor.Tp
open Go.RowKit Go.Proofs.YtipjpdiianopcaaDoor.A Go.Proofs.YtipjpdiianopcaaDoor.Ct Go.Proofs.YtipjpdiianopcaaDoor.Hx Go.Proofs.YtipjpdiianopcaaW.PrintWords Go.Proofs.YtipjpdiianopcaaW.PrintLast
set_option linter.unusedVariables false
theorem den_j1 (s : ByteArray) (b f : Int) (k : Nat) : linkhouseref1_Denoted.j1 (k + 1) s b f = linkhouseref1_Denoted.l0 k s b f 0 f := by rw [linkhouseref1_Denoted.j1]
theorem den_hex (s : ByteArray) (hs : s.size ≤ 1000000) (h2 : 2 < s.size) (k : Nat) (hk : 2 * s.size + 8 < k) : linkhouseref1_Denoted.j0 k s 10 0 true = some (dend s 16 2 (hexM 0 (s.data.toList.drop 2))) := by
  obtain ⟨k, rfl⟩ : ∃ k', k = k' + 2 := ⟨k - 2, by omega⟩
  rw [linkhouseref1_Denoted.j0, if_pos rfl, den_j1]
  exact den16 s hs (s.size - 2) k 2 0 (by omega) (by omega) (by omega)
theorem den_dec (s : ByteArray) (hs : s.size ≤ 1000000) (k : Nat) (hk : 2 * s.size + 8 < k) : linkhouseref1_Denoted.j0 k s 10 0 false = some (dend s 10 0 (Go.Lib.parseUintM 4294967295 0 s.data.toList)) := by
  obtain ⟨k, rfl⟩ : ∃ k', k = k' + 2 := ⟨k - 2, by omega⟩
  rw [linkhouseref1_Denoted.j0, if_neg (by decide), den_j1]
  exact den10 s hs s.size k 0 0 (by omega) (by omega) (by omega)
/-- Does 0x begin s? -/
theorem pre_is (s : ByteArray) : Go.Lib.hasPrefix s.data.toList [48, 120] = true ↔ 2 ≤ s.size ∧ bt s 0 = 48 ∧ bt s 1 = 120 := by
  unfold Go.Lib.hasPrefix
  by_cases h : 2 ≤ s.size
  · obtain ⟨c, hc, hb⟩ := bt_list s 0 (by omega)
    obtain ⟨d, hd, hb2⟩ := bt_list s 1 (by omega)
    rw [List.drop_zero, Nat.zero_add] at hc
    rw [hc, hd]
    rw [show bt s 0 = (c.toNat : Int) from hb, show bt s 1 = (d.toNat : Int) from hb2]
    simp only [List.isPrefixOf, Bool.and_true, Bool.and_eq_true, beq_iff_eq]
    constructor
    · rintro ⟨rfl, rfl⟩; exact ⟨h, rfl, rfl⟩
    · rintro ⟨-, u, v⟩
      exact ⟨UInt8.toNat_inj.1 (by show (48 : Nat) = c.toNat; omega), UInt8.toNat_inj.1 (by show (120 : Nat) = d.toNat; omega)⟩
  · constructor
    · intro hp
      have := (List.isPrefixOf_iff_prefix.1 hp).length_le
      rw [Array.length_toList] at this
      exact absurd (show 2 ≤ s.size from this) h
    · rintro ⟨h', -⟩; exact absurd h' h
theorem drop_data (s : ByteArray) (i : Nat) : (s.extract i s.size).data.toList = s.data.toList.drop i := by
  rw [ByteArray.data_extract, Array.toList_extract, List.extract_eq_take_drop]
  exact List.take_of_length_le (by rw [List.length_drop, Array.length_toList]; exact Nat.le_refl _)
theorem dec_nil : Go.Lib.parseUintM 4294967295 0 [] = .ok 0 := rfl
theorem hx_x : hexV 120 = none := by decide
/-- A decimal numeral that is no list of digits. -/
theorem m_x (c d : UInt8) (l : List UInt8) (hc : c = 48) (hd : d = 120) : Go.Lib.parseUintM 4294967295 0 (c :: d :: l) = Go.Lib.NumEnd.syntax := by
  subst hc hd
  rw [Go.Lib.parseUintM, if_pos (by decide)]
  rw [if_neg (by decide), if_neg (by decide), Go.Lib.parseUintM, if_neg (by decide)]
theorem den_f (s : ByteArray) (hs : s.size ≤ 1000000) (k : Nat) (hk : 2 * s.size + 8 < k) : ∃ v, linkhouseref1_Denoted.f k s = some (v, (numOf s).2) ∧ ((numOf s).2 = true → v = (numOf s).1 ∧ 0 < s.size) := by
  by_cases hp : Go.Lib.hasPrefix s.data.toList [48, 120] = true
  · obtain ⟨h2, h0, h1⟩ := (pre_is s).1 hp
    unfold numOf
    rw [if_pos hp]
    by_cases h3 : 2 < s.size
    · have e : hexB (s.extract 2 s.size).data.toList = hexM 0 (s.data.toList.drop 2) := by
        rw [drop_data, hexB, if_neg]
        intro hn
        have := congrArg List.length hn
        rw [List.length_drop, Array.length_toList] at this
        have h4 : s.data.size = s.size := rfl
        simp only [List.length_nil] at this
        omega
      have hv : linkhouseref1_Denoted.f k s = some (dend s 16 2 (hexM 0 (s.data.toList.drop 2))) := by
        rw [linkhouseref1_Denoted.f, if_pos (by omega), if_pos (by omega), if_pos h0, if_pos (by omega), h1, show ((120 : Int) == 120) = true from rfl, den_hex s hs h3 k hk]
      rw [hv, e]
      unfold dend
      rw [decide_eq_true (show (s.size : Int) > 2 by omega)]
      cases hexM 0 (s.data.toList.drop 2) with
      | ok u => exact ⟨_, rfl, fun _ => ⟨rfl, by omega⟩⟩
      | range => exact ⟨_, rfl, fun h => absurd (show false = true from h) (by decide)⟩
      | _ => exact ⟨_, rfl, fun h => absurd (show false = true from h) (by decide)⟩
    · have hl : (s.extract 2 s.size).data.toList = [] := by
        rw [drop_data]; exact List.drop_eq_nil_of_le (by rw [Array.length_toList]; show s.size ≤ 2; omega)
      rw [hl]
      obtain ⟨c, hc, hb⟩ := bt_list s 0 (by omega)
      obtain ⟨d, hd, hb2⟩ := bt_list s 1 (by omega)
      rw [List.drop_zero, Nat.zero_add] at hc
      have hc48 : c = 48 := UInt8.toNat_inj.1 (by show c.toNat = (48 : Nat); have : bt s 0 = (c.toNat : Int) := hb; omega)
      have hd120 : d = 120 := UInt8.toNat_inj.1 (by show d.toNat = (120 : Nat); have : bt s 1 = (d.toNat : Int) := hb2; omega)
      refine ⟨0, ?_, fun h => absurd (show false = true from h) (by decide)⟩
      rw [linkhouseref1_Denoted.f, if_neg (by omega), den_dec s hs k hk, hc, hd, m_x c d _ hc48 hd120]
      rfl
  · have hf : linkhouseref1_Denoted.f k s = linkhouseref1_Denoted.j0 k s 10 0 false := by
      rw [linkhouseref1_Denoted.f]
      by_cases h2 : (s.size : Int) > 2
      · rw [if_pos h2, if_pos (by omega)]
        by_cases h0 : bt s 0 = 48
        · rw [if_pos h0, if_pos (by omega)]
          rw [show (bt s 1 == 120) = false from beq_eq_false_iff_ne.2 fun h1 => hp ((pre_is s).2 ⟨by omega, h0, h1⟩)]
        · rw [if_neg h0]
      · rw [if_neg h2]
    rw [hf, den_dec s hs k hk]
    unfold numOf
    rw [if_neg hp]
    unfold Go.Lib.parseUintB
    by_cases hn : s.data.toList = []
    · have h0 : s.size = 0 := by have := congrArg List.length hn; rw [Array.length_toList] at this; exact this
      rw [if_pos hn, hn, dec_nil]
      refine ⟨0, ?_, fun h => absurd (show false = true from h) (by decide)⟩
      unfold dend
      rw [decide_eq_false (show ¬ (s.size : Int) > 0 by omega)]
      rfl
    · have h0 : 0 < s.size := by
        rcases Nat.eq_zero_or_pos s.size with h | h
        · exact absurd (List.length_eq_zero_iff.1 (by rw [Array.length_toList]; exact h)) hn
        · exact h
      rw [if_neg hn, show (2 ^ 32 - 1 : Nat) = 4294967295 from rfl]
      unfold dend
      rw [decide_eq_true (show (s.size : Int) > 0 by omega), show ((10 : Int) == 16) = false from rfl, Bool.false_or, Bool.true_and]
      cases Go.Lib.parseUintM 4294967295 0 s.data.toList with
      | ok u => exact ⟨_, rfl, fun _ => ⟨rfl, h0⟩⟩
      | range => exact ⟨_, rfl, fun h => absurd (show false = true from h) (by decide)⟩
      | _ => exact ⟨_, rfl, fun h => absurd (show false = true from h) (by decide)⟩
/-! the reference's token of a run -/
/-- A token's kind, text and number, and whether it is one: no sign. -/
def tokR (t : ByteArray) : Option (Int × ByteArray × Int) := if (numOf t).2 = true then some (2, (⟨#[]⟩ : ByteArray), (numOf t).1) else if nameOk t = true then some (1, t, 0) else none
theorem tokenOf_sign (t : ByteArray) (h : signL t.toList = true) (k : Nat) (hk : 20 < k) : linkhouseref1_TokenOf.f k t = some (3, t, 0, 0, true) := by
  rw [linkhouseref1_TokenOf.f, sign_f t k hk, Option.bind_some, h, if_pos rfl]
theorem tokenOf_run (t : ByteArray) (ht : t.size ≤ 1000000) (h : signL t.toList = false) (k : Nat) (hk : 2 * t.size + 30 < k) :
    linkhouseref1_TokenOf.f k t = some (match tokR t with | some r => (r.1, r.2.1, r.2.2, 0, true) | none => (0, (⟨#[]⟩ : ByteArray), 0, 0, false)) := by
  obtain ⟨v, hv, hv2⟩ := den_f t ht k (by omega)
  rw [linkhouseref1_TokenOf.f, sign_f t k (by omega), Option.bind_some, h, if_neg (by decide), hv, Option.bind_some]
  unfold tokR
  by_cases hn : (numOf t).2 = true
  · rw [if_pos hn, if_pos hn, (hv2 hn).1]
  · rw [if_neg hn, if_neg hn, name_f t ht k (by omega), Option.bind_some]
    by_cases hm : nameOk t = true
    · rw [if_pos hm, if_pos hm]
    · rw [if_neg hm, if_neg hm]
/-! the program's next token -/
theorem next_sign (s t : ByteArray) (hs : 0 < s.size) (k : Nat) (hk : 0 < k) (h : (if two s = true then s.extract 0 2 else if one (bc s 0) = true then s.extract 0 1 else (⟨#[]⟩ : ByteArray)) = t) (ht : 0 < t.size) : token_next.f k s = some (3, t, 0, 0, (t.size : Int)) := by
  rw [token_next.f, psign_f s hs k hk, Option.bind_some, h, if_neg]
  intro hn
  have := len_toList t
  rw [hn] at this
  simp at this
  omega
theorem next_run (s : ByteArray) (hs : 0 < s.size) (hmax : s.size ≤ 1000000) (h2 : two s = false) (h1 : one (bc s 0) = false) (k : Nat) (hk : 2 * s.size + 30 < k) :
    token_next.f k s = some (match tokR (s.extract 0 (runE s s.size 0)) with | some r => (r.1, r.2.1, r.2.2, 0, ((runE s s.size 0 : Nat) : Int)) | none => (0, (⟨#[]⟩ : ByteArray), 0, 0, 0)) := by
  rw [token_next.f, psign_f s hs k (by omega), Option.bind_some, h2, h1, if_neg (show ¬ (false = true) by decide), if_neg (show ¬ (false = true) by decide), if_pos (by decide +kernel)]
  obtain ⟨k', hk', e⟩ := next_l0 s hmax s.size k 0 (by omega) (by omega)
  have hr := runE_le s s.size 0
  have e' : token_next.l0 k s 0 = token_next.j1 k' s ((runE s s.size 0 : Nat) : Int) := e
  rw [e']
  obtain ⟨k', rfl⟩ : ∃ k2, k' = k2 + 2 := ⟨k' - 2, by omega⟩
  generalize hn : runE s s.size 0 = n at *
  have hsz : (s.extract 0 n).size = n := by rw [ext_size s 0 n (by omega)]; omega
  have hnum : token_number.f (s.extract 0 n) = some (numOf (s.extract 0 n)) := by unfold token_number.f; rw [if_pos (by omega)]
  obtain ⟨v, hv, hv2⟩ := den_f (s.extract 0 n) (by omega) (2 * n + 9) (by omega)
  rw [token_next.j1, if_pos (by omega), if_pos (by omega), Int.toNat_natCast, hnum, Option.bind_some]
  unfold tokR
  by_cases hb : (numOf (s.extract 0 n)).2 = true
  · have := (hv2 hb).2
    rw [if_pos hb, if_pos hb, decide_eq_true (show (n : Int) > 0 by omega), token_next.j2, if_pos rfl]
  · rw [if_neg hb, if_neg hb, token_next.j2, if_neg (by decide), if_pos (by omega), if_pos (by omega), Int.toNat_natCast, isName_f _ (by omega) k' (by omega), Option.bind_some]
    by_cases hm : nameOk (s.extract 0 n) = true
    · rw [if_pos hm, if_pos hm]
    · rw [if_neg hm, if_neg hm]
end Go.Proofs.YtipjpdiianopcaaDoor.Tp
