/- Plain laws: what the reference's Taken and NumbersOf compute, and what the readers read. -/
import Derived.Test.YtipjpdiianopcaaCq
namespace Go.Proofs.Ytipjpdiianopcaa.Cp
open Go.RowKit Go.Proofs.YtipjpdiianopcaaW.PrintWords Go.Proofs.YtipjpdiianopcaaW.PrintLast Go.Proofs.YtipjpdiianopcaaW.PrintMore Go.Proofs.Ytipjpdiianopcaa.A Go.Proofs.Ytipjpdiianopcaa.Cw Go.Proofs.Ytipjpdiianopcaa.Cr
set_option linter.unusedVariables false
set_option linter.unusedSimpArgs false

theorem wone (q : Nat) (h : q < 9223372036854775808) : wrap64 (IntKind.u64.wrap (q : Int)) = q := by
  have h1 : IntKind.u64.wrap (q : Int) = q := by rw [IntKind.wrap_u64]; omega
  rw [h1]; unfold wrap64; omega
theorem wpair (q : Nat) (h : q < 9223372036854775808) : wrap64 (wrap64 (-wrap64 (IntKind.u64.wrap (q : Int))) - 1) = -(q : Int) - 1 := by
  rw [wone q h]
  have h1 : wrap64 (-(q : Int)) = -(q : Int) := by unfold wrap64; omega
  rw [h1]; unfold wrap64; omega
theorem wrap64_i64 (x : Int) : I64 (wrap64 x) := by unfold wrap64 I64; omega
theorem taken_j2 (b : List Int) (hb : Bt b) (hl : b.length < 1000000000000) (k i : Nat) (n : Int) (hn : I64 n) (hi : i < b.length) (hk : 12 ≤ k) :
    linkhouseref1_Taken.j2 k b (i : Int) n = some (if nb n = b.take (i + 1) then (n, ((i + 1 : Nat) : Int)) else (0, 0)) := by
  obtain ⟨k, rfl⟩ : ∃ m, k = m + 1 := ⟨k - 1, by omega⟩
  simp only [linkhouseref1_Taken.j2]
  have w : wrap64 ((i : Int) + 1) = ((i + 1 : Nat) : Int) := by unfold wrap64; omega
  rw [numberCode_f k n hn (by omega), w]
  simp only [Option.bind_some]
  rw [if_pos (by omega), if_pos (by omega), Int.toNat_natCast, bytes_f _ _ (nb_bt n) (bt_take hb _)]
  simp only [Option.bind_some, decide_eq_true_eq]
  split <;> rfl
/-- What Taken answers is what stands there, or nothing. -/
theorem taken_l0_any (b : List Int) (hb : Bt b) (hl : b.length < 1000000000000) : ∀ (d k i : Nat) (u : Int), 10 - i = d → i ≤ 10 → 3 * d + 16 ≤ k →
    ∃ x s, linkhouseref1_Taken.l0 k b u (i : Int) = some (x, s) ∧ ((x = 0 ∧ s = 0) ∨ ∃ s' : Nat, s = s' ∧ 0 < s' ∧ s' ≤ b.length ∧ I64 x ∧ nb x = b.take s') := by
  intro d
  induction d with
  | zero =>
    intro k i u hd hi hk
    obtain ⟨k, rfl⟩ : ∃ m, k = m + 2 := ⟨k - 2, by omega⟩
    refine ⟨0, 0, ?_, .inl ⟨rfl, rfl⟩⟩
    simp only [linkhouseref1_Taken.l0, linkhouseref1_Taken.j1]
    rw [decide_eq_false (by omega)]
    split <;> simp
  | succ d ih =>
    intro k i u hd hi hk
    obtain ⟨k, rfl⟩ : ∃ m, k = m + 2 := ⟨k - 2, by omega⟩
    simp only [linkhouseref1_Taken.l0, linkhouseref1_Taken.j1]
    by_cases c : (i : Int) < (b.length : Int)
    · rw [if_pos c, decide_eq_true (show (i : Int) < 10 by omega), if_pos rfl, if_pos (by omega), if_pos c]
      have w7 : wrap64 (7 * (i : Int)) = ((7 * i : Nat) : Int) := by unfold wrap64; omega
      rw [w7, if_pos (by rw [IntKind.wrap_u64]; omega)]
      have fin : ∀ n, I64 n → ∃ x s, linkhouseref1_Taken.j2 k b (i : Int) n = some (x, s) ∧ ((x = 0 ∧ s = 0) ∨ ∃ s' : Nat, s = s' ∧ 0 < s' ∧ s' ≤ b.length ∧ I64 x ∧ nb x = b.take s') := by
        intro n hn
        rw [taken_j2 b hb hl k i n hn (by omega) (by omega)]
        by_cases e : nb n = b.take (i + 1)
        · rw [if_pos e]; exact ⟨n, _, rfl, .inr ⟨i + 1, rfl, by omega, by omega, hn, e⟩⟩
        · rw [if_neg e]; exact ⟨0, 0, rfl, .inl ⟨rfl, rfl⟩⟩
      split
      · split
        · exact fin _ (wrap64_i64 _)
        · exact fin _ (wrap64_i64 _)
      · have w : wrap64 ((i : Int) + 1) = ((i + 1 : Nat) : Int) := by unfold wrap64; omega
        rw [w]
        exact ih k (i + 1) _ (by omega) (by omega) (by omega)
    · rw [if_neg c, if_neg (by simp)]
      exact ⟨0, 0, rfl, .inl ⟨rfl, rfl⟩⟩
theorem ar1 (u v i : Nat) (hv : u + v * 2 ^ (7 * i) < 18446744073709551616) (c : ¬ v < 128) (hi : i < 10) : i < 9 := by
  rcases Nat.lt_or_ge i 9 with h | h
  · exact h
  · have : i = 9 := by omega
    subst this
    omega
theorem ar2 (u v i : Nat) : u + v % 128 * 2 ^ (7 * i) + v / 128 * 2 ^ (7 * (i + 1)) = u + v * 2 ^ (7 * i) := by
  have hpow : 2 ^ (7 * (i + 1)) = 128 * 2 ^ (7 * i) := by rw [show 7 * (i + 1) = 7 + 7 * i by omega, Nat.pow_add]
  rw [hpow, ← Nat.mul_assoc, Nat.add_assoc, ← Nat.add_mul]
  congr 2
  have := Nat.div_add_mod v 128; omega
theorem ar3 (u v i : Nat) (hu : u < 2 ^ (7 * i)) : u + v % 128 * 2 ^ (7 * i) < 2 ^ (7 * (i + 1)) := by
  have hpow : 2 ^ (7 * (i + 1)) = 128 * 2 ^ (7 * i) := by rw [show 7 * (i + 1) = 7 + 7 * i by omega, Nat.pow_add]
  rw [hpow]
  have h127 : v % 128 * 2 ^ (7 * i) ≤ 127 * 2 ^ (7 * i) := Nat.mul_le_mul_right _ (by omega)
  omega
theorem taken_step (u i c : Nat) (hi : i < 10) (hcb : c % 128 * 2 ^ (7 * i) + u < 18446744073709551616) : IntKind.u64.wrap ((u : Int) + shl .u64 (IntKind.u64.wrap (Int.tmod (c : Int) 128)) ((7 * i : Nat) : Int)) = ((u + c % 128 * 2 ^ (7 * i) : Nat) : Int) := by
  unfold shl
  have h1 : IntKind.u64.wrap (Int.tmod (c : Int) 128) = ((c % 128 : Nat) : Int) := by
    rw [IntKind.wrap_u64, Int.tmod_eq_emod_of_nonneg (by omega)]; omega
  have h2 : min (((7 * i : Nat) : Int)).toNat IntKind.u64.bits = 7 * i := by
    have : IntKind.u64.bits = 64 := rfl
    rw [this]; omega
  rw [h1, h2]
  have h4 : ((c % 128 : Nat) : Int) * 2 ^ (7 * i) = ((c % 128 * 2 ^ (7 * i) : Nat) : Int) := by rw [Int.natCast_mul, Int.natCast_pow]; rfl
  rw [h4]
  generalize c % 128 * 2 ^ (7 * i) = q at hcb ⊢
  rw [IntKind.wrap_u64, IntKind.wrap_u64]
  omega
theorem hV_mod (V : Nat) : Int.tmod (V : Int) 2 = ((V % 2 : Nat) : Int) := by rw [Int.tmod_eq_emod_of_nonneg (by omega)]; omega
theorem hV_div (V : Nat) : Int.tdiv (V : Int) 2 = ((V / 2 : Nat) : Int) := by rw [Int.tdiv_eq_ediv_of_nonneg (by omega)]; omega
set_option maxHeartbeats 2000000 in
theorem taken_yes_l0 (b : List Int) (hb : Bt b) (hl : b.length < 1000000000000) (rest : List Int) (n : Int) (hn : I64 n) : ∀ (d k i u v : Nat), 10 - i = d → i < 10 → 3 * d + 16 ≤ k → u < 2 ^ (7 * i) → u + v * 2 ^ (7 * i) < 18446744073709551616 →
    b.drop i = vb v ++ rest → n = uz (u + v * 2 ^ (7 * i)) → nb n = b.take i ++ vb v → linkhouseref1_Taken.l0 k b (u : Int) (i : Int) = some (n, ((i + (vb v).length : Nat) : Int)) := by
  intro d
  induction d with
  | zero => intro k i u v hd hi; omega
  | succ d ih =>
    intro k i u v hd hi hk hu hv hdr hn1 hn2
    obtain ⟨k, rfl⟩ : ∃ m, k = m + 2 := ⟨k - 2, by omega⟩
    have ed : 10 - (i + 1) = d := by omega
    have ek : 3 * d + 16 ≤ k := by omega
    have ek2 : 12 ≤ k := by omega
    simp only [linkhouseref1_Taken.l0, linkhouseref1_Taken.j1]
    have hlt : i < b.length := by
      rcases Nat.lt_or_ge i b.length with h | h
      · exact h
      · rw [List.drop_eq_nil_of_le h] at hdr
        have : 0 < (vb v).length := by rw [vb]; split <;> simp
        have h2 := congrArg List.length hdr
        simp at h2; omega
    have hc := rd_drop b i hlt
    rw [if_pos (by omega), decide_eq_true (show (i : Int) < 10 by omega), if_pos rfl, if_pos (by omega), if_pos (by omega)]
    have w7 : wrap64 (7 * (i : Int)) = ((7 * i : Nat) : Int) := by unfold wrap64; omega
    have w8 : IntKind.u64.wrap ((7 * i : Nat) : Int) = ((7 * i : Nat) : Int) := by rw [IntKind.wrap_u64]; omega
    rw [w7, w8, if_pos (by omega)]
    rw [hc] at hdr
    by_cases c : v < 128
    · rw [vb_small v c, List.singleton_append] at hdr
      injection hdr with hd1 hd2
      rw [hd1, if_pos (by omega), taken_step u i v hi (by rw [Nat.mod_eq_of_lt c, Nat.add_comm]; exact hv), Nat.mod_eq_of_lt c]
      have hV := hv
      generalize hG : u + v * 2 ^ (7 * i) = V at hn1 hV ⊢
      rw [hV_mod, hV_div]
      have htake : nb n = b.take (i + 1) := by
        rw [hn2, vb_small v c, List.take_succ_eq_append_getElem hlt]
        have : rd b (i : Int) = b[i] := by simp [rd, List.getD_eq_getElem?_getD, List.getElem?_eq_getElem hlt]
        rw [← this, hd1]
      have fin : linkhouseref1_Taken.j2 k b (i : Int) n = some (n, ((i + (vb v).length : Nat) : Int)) := by
        rw [taken_j2 b hb hl k i n hn hlt ek2, if_pos htake, vb_small v c]; rfl
      by_cases p : V % 2 = 0
      · rw [if_neg (by omega)]
        rw [wone (V / 2) (by omega)]
        have : ((V / 2 : Nat) : Int) = n := by rw [hn1]; unfold uz; rw [if_pos p]
        rw [this]; exact fin
      · rw [if_pos (by omega)]
        rw [wpair (V / 2) (by omega)]
        have : -((V / 2 : Nat) : Int) - 1 = n := by rw [hn1]; unfold uz; rw [if_neg p]
        rw [this]; exact fin
    · rw [vb_great v c, List.cons_append] at hdr
      injection hdr with hd1 hd2
      have hmm : (v % 128 + 128) % 128 = v % 128 := by omega
      have hle : v % 128 * 2 ^ (7 * i) + u < 18446744073709551616 := by
        have := ar2 u v i
        generalize v / 128 * 2 ^ (7 * (i + 1)) = q at this
        generalize v % 128 * 2 ^ (7 * i) = q2 at this ⊢
        generalize v * 2 ^ (7 * i) = q3 at this hv
        omega
      have hs := taken_step u i (v % 128 + 128) hi (by rw [hmm]; exact hle)
      rw [hmm] at hs
      rw [hd1, if_neg (by omega), hs]
      have hj9 := ar1 u v i hv c hi
      have heq := ar2 u v i
      have hlt2 := ar3 u v i hu
      have w : wrap64 ((i : Int) + 1) = ((i + 1 : Nat) : Int) := by unfold wrap64; omega
      rw [w, ih k (i + 1) (u + v % 128 * 2 ^ (7 * i)) (v / 128) ed (Nat.succ_lt_succ hj9) ek hlt2 (by rw [heq]; exact hv) hd2 (by rw [heq]; exact hn1) (by
        rw [hn2, vb_great v c, List.take_succ_eq_append_getElem hlt, List.append_assoc, List.singleton_append]
        have : rd b (i : Int) = b[i] := by simp [rd, List.getD_eq_getElem?_getD, List.getElem?_eq_getElem hlt]
        rw [← this, hd1])]
      rw [vb_great v c]
      congr 2
      simp; omega
theorem taken_yes (b : List Int) (hb : Bt b) (hl : b.length < 1000000000000) (n : Int) (hn : I64 n) (rest : List Int) (k : Nat) (hk : 50 ≤ k) (h : b = nb n ++ rest) : linkhouseref1_Taken.f k b = some (n, ((nb n).length : Int)) := by
  have hr := zg_range n
  have h1 := taken_yes_l0 b hb hl rest n hn 10 k 0 0 (zg n).toNat rfl (by omega) (by omega) (by simp) (by simp; omega) (by rw [List.drop_zero]; exact h) (by simp; exact (uz_zg n hn).symm) (by rw [List.take_zero, List.nil_append]; rfl)
  unfold linkhouseref1_Taken.f
  rw [show ((0 : Nat) : Int) = 0 from rfl] at h1
  rw [h1]
  simp only [Nat.zero_add]
  rfl
/-- Taken, off the reader's reading. -/
theorem taken_f (b : List Int) (hb : Bt b) (hl : b.length < 1000000000000) (i : Nat) (hi : i ≤ b.length) (k : Nat) (hk : 50 ≤ k) :
    linkhouseref1_Taken.f k (b.drop i) = some (if (rN b (i : Int)).2.2 = true then (0, 0) else ((rN b (i : Int)).1, (rN b (i : Int)).2.1 - i)) := by
  obtain ⟨v, a', bd, hr⟩ : ∃ v a' bd, rN b (i : Int) = (v, a', bd) := ⟨_, _, _, rfl⟩
  rw [hr]
  cases bd with
  | false =>
    obtain ⟨i', rfl, h1, h2, h3, h4, h5⟩ := rN_only b hb i v a' hr
    rw [taken_yes (b.drop i) (bt_drop hb i) (by simp; omega) v h3 (b.drop i') k hk h4]
    simp; omega
  | true =>
    simp only [if_true]
    obtain ⟨x, s, h1, h2⟩ := taken_l0_any (b.drop i) (bt_drop hb i) (by simp; omega) 10 k 0 0 rfl (by omega) (by omega)
    unfold linkhouseref1_Taken.f
    rw [show ((0 : Nat) : Int) = 0 from rfl] at h1
    rw [h1]
    rcases h2 with ⟨rfl, rfl⟩ | ⟨s', rfl, h3, h4, h5, h6⟩
    · rfl
    · exfalso
      have := rN_yes b hb x h5 i ((b.drop i).drop s') (by rw [h6, List.take_append_drop])
      rw [hr] at this
      simp at this
end Go.Proofs.Ytipjpdiianopcaa.Cp
