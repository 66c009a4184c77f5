/- Plain laws on the encodings of numbers: the bits of a number and back; what is read is what was written. -/
import Derived.Test.YtipjpdiianopcaaCw
import Derived.Test.YtipjpdiianopcaaCg
namespace Go.Proofs.Ytipjpdiianopcaa.Cp
open Go.RowKit Go.Proofs.YtipjpdiianopcaaW.PrintWords Go.Proofs.YtipjpdiianopcaaW.PrintLast Go.Proofs.YtipjpdiianopcaaW.PrintMore Go.Proofs.Ytipjpdiianopcaa.A Go.Proofs.Ytipjpdiianopcaa.Cw Go.Proofs.Ytipjpdiianopcaa.Cr
set_option linter.unusedVariables false
set_option linter.unusedSimpArgs false

/-- A number of 64 bits. -/
def I64 (n : Int) : Prop := -9223372036854775808 ≤ n ∧ n ≤ 9223372036854775807
/-- Bytes alone. -/
def Bt (b : List Int) : Prop := ∀ x ∈ b, 0 ≤ x ∧ x ≤ 255

theorem xor_ones (a : Nat) (h : a < 18446744073709551616) : a ^^^ 18446744073709551615 = 18446744073709551615 - a := by
  have h1 : (BitVec.ofNat 64 a ^^^ BitVec.allOnes 64).toNat = (~~~ BitVec.ofNat 64 a).toNat := by rw [BitVec.xor_allOnes]
  rw [BitVec.toNat_xor, BitVec.toNat_not, BitVec.toNat_ofNat, BitVec.toNat_allOnes, Nat.mod_eq_of_lt (by omega)] at h1
  simpa using h1
theorem zg_eq (n : Int) (h : I64 n) : zg n = if 0 ≤ n then 2 * n else -2 * n - 1 := by
  obtain ⟨h1, h2⟩ := h
  unfold zg
  rw [IntKind.wrap_u64, IntKind.wrap_u64, IntKind.wrap_u64]
  split
  · rename_i h0
    have e1 : n % 18446744073709551616 * 2 % 18446744073709551616 = ((2 * n).toNat : Int) := by omega
    have e2 : n / 9223372036854775808 % 18446744073709551616 = ((0 : Nat) : Int) := by omega
    rw [e1, e2, bits_xor_u64_nat _ _ (by omega) (by omega)]
    simp; omega
  · rename_i h0
    have e1 : n % 18446744073709551616 * 2 % 18446744073709551616 = ((2 * n + 18446744073709551616).toNat : Int) := by omega
    have e2 : n / 9223372036854775808 % 18446744073709551616 = ((18446744073709551615 : Nat) : Int) := by omega
    rw [e1, e2, bits_xor_u64_nat _ _ (by omega) (by omega), xor_ones _ (by omega)]
    omega
/-- The value of the bits that were read, plain. -/
def uz (u : Nat) : Int := if u % 2 = 0 then ((u / 2 : Nat) : Int) else -((u / 2 : Nat) : Int) - 1
theorem uz_i64 (u : Nat) (h : u < 18446744073709551616) : I64 (uz u) := by
  unfold I64 uz; split <;> omega
theorem zg_uz (u : Nat) (h : u < 18446744073709551616) : zg (uz u) = u := by
  rw [zg_eq _ (uz_i64 u h)]
  unfold uz
  split <;> split <;> omega
theorem uz_zg (n : Int) (h : I64 n) : uz (zg n).toNat = n := by
  have h1 := zg_eq n h
  obtain ⟨h2, h3⟩ := h
  rw [h1]
  unfold uz
  split <;> split <;> omega
theorem and_one : ∀ u : Nat, u &&& 1 = u % 2 := fun u => by rw [Nat.and_one_is_mod]
theorem i64_xor_0 (a : Int) (h : 0 ≤ a ∧ a < 9223372036854775808) : Go.bits .xor .i64 a 0 = a := by
  obtain ⟨m, rfl⟩ := Int.eq_ofNat_of_zero_le h.1
  show IntKind.i64.wrap ((BitVec.ofInt 64 (m : Int) ^^^ BitVec.ofInt 64 0).toNat : Int) = _
  have e : BitVec.ofInt 64 0 = 0#64 := by decide
  rw [e, BitVec.xor_zero, BitVec.ofInt_natCast, BitVec.toNat_ofNat, Nat.mod_eq_of_lt (by omega), IntKind.wrap_i64]
  omega
theorem ofInt_nat64 (a : Nat) : BitVec.ofInt 64 (a : Int) = BitVec.ofNat 64 a := BitVec.ofInt_natCast ..
theorem i64_xor_m1 (a : Int) (h : 0 ≤ a ∧ a < 9223372036854775808) : Go.bits .xor .i64 a (-1) = -a - 1 := by
  obtain ⟨m, rfl⟩ := Int.eq_ofNat_of_zero_le h.1
  show IntKind.i64.wrap ((BitVec.ofInt 64 (m : Int) ^^^ BitVec.ofInt 64 (-1)).toNat : Int) = _
  have e : BitVec.ofInt 64 (-1) = BitVec.allOnes 64 := by decide
  rw [e, BitVec.xor_allOnes, ofInt_nat64, BitVec.toNat_not, BitVec.toNat_ofNat, Nat.mod_eq_of_lt (by omega), IntKind.wrap_i64]
  omega
theorem unz_eq (u : Nat) (h : u < 18446744073709551616) : unz u = uz u := by
  unfold unz
  have h1 : Go.bits .and .u64 (u : Int) 1 = ((u % 2 : Nat) : Int) := by
    have h2 := u64_and_nat u 1 h (by omega)
    rw [show (1 : Int) = ((1 : Nat) : Int) from rfl, h2, and_one]
  rw [h1]
  have h2 : wrap64 ((u : Int) / 2) = ((u / 2 : Nat) : Int) := by unfold wrap64; omega
  rw [h2]
  unfold uz
  by_cases c : u % 2 = 0
  · rw [if_pos c]
    have h3 : wrap64 (-(wrap64 ((u % 2 : Nat) : Int))) = 0 := by unfold wrap64; omega
    rw [h3]
    exact i64_xor_0 _ (by omega)
  · rw [if_neg c]
    have h3 : wrap64 (-(wrap64 ((u % 2 : Nat) : Int))) = -1 := by unfold wrap64; omega
    rw [h3]
    exact i64_xor_m1 _ (by omega)
theorem or_shift (a r s : Nat) (h : a < 2 ^ s) : a ||| r * 2 ^ s = a + r * 2 ^ s := by
  rw [Nat.or_comm, Nat.mul_comm, ← Nat.two_pow_add_eq_or_of_lt h]; omega
theorem more_eq (a c s : Nat) (hs : s ≤ 63) (ha : a < 2 ^ s) (hc : c < 256) (hb : c % 128 * 2 ^ s + a < 18446744073709551616) : more a c s = ((a + c % 128 * 2 ^ s : Nat) : Int) := by
  unfold more shl
  have h1 : Go.bits .and .u8 (c : Int) 127 = ((c % 128 : Nat) : Int) := by
    have h := u8_and_nat c 127 hc (by omega)
    rw [show (127 : Int) = ((127 : Nat) : Int) from rfl, h]
    congr 1
    exact Nat.and_two_pow_sub_one_eq_mod c 7
  rw [h1]
  have h2 : IntKind.u64.wrap ((c % 128 : Nat) : Int) = ((c % 128 : Nat) : Int) := by rw [IntKind.wrap_u64]; omega
  rw [h2]
  have h3 : min ((s : Int)).toNat IntKind.u64.bits = s := by
    have : IntKind.u64.bits = 64 := rfl
    rw [this]; omega
  rw [h3]
  have h4 : ((c % 128 : Nat) : Int) * 2 ^ s = ((c % 128 * 2 ^ s : Nat) : Int) := by rw [Int.natCast_mul, Int.natCast_pow]; rfl
  rw [h4, IntKind.wrap_u64]
  have h5 : ((c % 128 * 2 ^ s : Nat) : Int) % 18446744073709551616 = ((c % 128 * 2 ^ s : Nat) : Int) := by omega
  rw [h5]
  have h6 : (2 : Nat) ^ s ≤ 2 ^ 63 := Nat.pow_le_pow_right (by omega) hs
  rw [u64_or_nat _ _ (by omega) (by omega), or_shift _ _ _ ha]
theorem rd_drop (b : List Int) (i : Nat) (h : i < b.length) : b.drop i = rd b (i : Int) :: b.drop (i + 1) := by
  rw [List.drop_eq_getElem_cons h]
  simp [rd, List.getD_eq_getElem?_getD, List.getElem?_eq_getElem h]
theorem rd_bt (b : List Int) (hb : Bt b) (i : Nat) (h : i < b.length) : ∃ c : Nat, rd b (i : Int) = c ∧ c < 256 := by
  have h1 : rd b (i : Int) = b[i] := by simp [rd, List.getD_eq_getElem?_getD, List.getElem?_eq_getElem h]
  have h2 := hb b[i] (List.getElem_mem h)
  exact ⟨b[i].toNat, by rw [h1]; omega, by omega⟩

/-- What stands there is read. -/
theorem pn_yes (b : List Int) (hb : Bt b) (rest : List Int) : ∀ (j m : Nat) (a u i : Nat), m = 10 - j → j < 10 → a < 2 ^ (7 * j) → a + u * 2 ^ (7 * j) < 18446744073709551616 → (0 < j → 0 < u) → b.drop i = vb u ++ rest →
    pn m (a : Int) ((7 * j : Nat) : Int) b (i : Int) = (uz (a + u * 2 ^ (7 * j)), ((i + (vb u).length : Nat) : Int), false) := by
  intro j m
  induction m generalizing j with
  | zero => intro a u i h1 h2; omega
  | succ m ih =>
    intro a u i hm hj ha hu hp hd
    have hlt : i < b.length := by
      rcases Nat.lt_or_ge i b.length with h | h
      · exact h
      · rw [List.drop_eq_nil_of_le h] at hd
        have : 0 < (vb u).length := by rw [vb]; split <;> simp
        have h2 := congrArg List.length hd
        simp at h2; omega
    have hc := rd_drop b i hlt
    rw [hc] at hd
    have hs63 : (7 * j : Nat) ≤ 63 := by omega
    unfold pn
    rw [if_neg (by omega)]
    by_cases c : u < 128
    · rw [vb_small u c, List.singleton_append] at hd
      injection hd with hd1 hd2
      rw [hd1]
      have hn : ¬ ((((7 * j : Nat) : Int) = 63 ∧ (u : Int) > 1) ∨ (((7 * j : Nat) : Int) > 0 ∧ (u : Int) = 0)) := by
        rintro (⟨h1, h2⟩ | ⟨h1, h2⟩)
        · have : j = 9 := by omega
          subst this
          omega
        · have := hp (by omega); omega
      rw [if_neg hn, if_pos (by omega), vb_small u c]
      have hm2 : more (a : Int) (u : Int) ((7 * j : Nat) : Int) = ((a + u * 2 ^ (7 * j) : Nat) : Int) := by
        have h := more_eq a u (7 * j) hs63 ha (by omega) (by rw [Nat.mod_eq_of_lt c]; omega)
        rw [Nat.mod_eq_of_lt c] at h
        exact h
      rw [hm2, unz_eq _ hu]
      rfl
    · rw [vb_great u c, List.cons_append] at hd
      injection hd with hd1 hd2
      rw [hd1]
      have hj9 : j < 9 := by
        rcases Nat.lt_or_ge j 9 with h | h
        · exact h
        · have : j = 9 := by omega
          subst this
          omega
      have hn : ¬ ((((7 * j : Nat) : Int) = 63 ∧ ((u % 128 + 128 : Nat) : Int) > 1) ∨ (((7 * j : Nat) : Int) > 0 ∧ ((u % 128 + 128 : Nat) : Int) = 0)) := by
        rintro (⟨h1, h2⟩ | ⟨h1, h2⟩) <;> omega
      rw [if_neg hn, if_neg (by omega)]
      have hpow : 2 ^ (7 * (j + 1)) = 128 * 2 ^ (7 * j) := by rw [show 7 * (j + 1) = 7 + 7 * j by omega, Nat.pow_add]
      have hmm : (u % 128 + 128) % 128 = u % 128 := by omega
      have hle : u % 128 * 2 ^ (7 * j) ≤ u * 2 ^ (7 * j) := Nat.mul_le_mul_right _ (Nat.mod_le _ _)
      have hm2 : more (a : Int) ((u % 128 + 128 : Nat) : Int) ((7 * j : Nat) : Int) = ((a + u % 128 * 2 ^ (7 * j) : Nat) : Int) := by
        have h := more_eq a (u % 128 + 128) (7 * j) hs63 ha (by omega) (by rw [hmm]; omega)
        rw [hmm] at h
        exact h
      rw [hm2]
      have heq : a + u % 128 * 2 ^ (7 * j) + u / 128 * 2 ^ (7 * (j + 1)) = a + u * 2 ^ (7 * j) := by
        rw [hpow, ← Nat.mul_assoc, Nat.add_assoc, ← Nat.add_mul]
        congr 2
        have := Nat.div_add_mod u 128; omega
      have hlt2 : a + u % 128 * 2 ^ (7 * j) < 2 ^ (7 * (j + 1)) := by
        rw [hpow]
        have h127 : u % 128 * 2 ^ (7 * j) ≤ 127 * 2 ^ (7 * j) := Nat.mul_le_mul_right _ (by omega)
        omega
      have hr := ih (j + 1) (a + u % 128 * 2 ^ (7 * j)) (u / 128) (i + 1) (by omega) (by omega) hlt2 (by rw [heq]; exact hu) (fun _ => by omega) hd2
      rw [heq] at hr
      have e1 : ((7 * (j + 1) : Nat) : Int) = ((7 * j : Nat) : Int) + 7 := by omega
      have e2 : ((i + 1 : Nat) : Int) = (i : Int) + 1 := by omega
      rw [e1, e2] at hr
      rw [hr, vb_great u c]
      congr 2
      simp; omega
/-- What is read stands there. -/
theorem pn_only (b : List Int) (hb : Bt b) : ∀ (m j : Nat) (a i : Nat) (v a' : Int), m = 10 - j → a < 2 ^ (7 * j) →
    pn m (a : Int) ((7 * j : Nat) : Int) b (i : Int) = (v, a', false) → ∃ (u i' : Nat), a' = i' ∧ i < i' ∧ i' ≤ b.length ∧ b.drop i = vb u ++ b.drop i' ∧ a + u * 2 ^ (7 * j) < 18446744073709551616 ∧ v = uz (a + u * 2 ^ (7 * j)) ∧ (0 < j → 0 < u) ∧ (vb u).length = i' - i := by
  intro m
  induction m with
  | zero =>
    intro j a i v a' hm ha h
    simp [pn] at h
  | succ m ih =>
    intro j a i v a' hm ha h
    unfold pn at h
    have hs63 : (7 * j : Nat) ≤ 63 := by omega
    by_cases c1 : (i : Int) ≥ (b.length : Int)
    · rw [if_pos c1] at h; simp at h
    · rw [if_neg c1] at h
      have hlt : i < b.length := by omega
      obtain ⟨c, hc, hc256⟩ := rd_bt b hb i hlt
      have hd := rd_drop b i hlt
      rw [hc] at h hd
      by_cases c2 : (((7 * j : Nat) : Int) = 63 ∧ (c : Int) > 1) ∨ (((7 * j : Nat) : Int) > 0 ∧ (c : Int) = 0)
      · rw [if_pos c2] at h; simp at h
      · rw [if_neg c2] at h
        have hP : 2 ^ (7 * j) ≤ 9223372036854775808 := Nat.le_trans (Nat.pow_le_pow_right (by omega) hs63) (by decide)
        have hc63 : j = 9 → c ≤ 1 := fun e => by subst e; omega
        by_cases c3 : (c : Int) < 128
        · rw [if_pos c3] at h
          have hmod : c % 128 = c := Nat.mod_eq_of_lt (by omega)
          have hbound : c * 2 ^ (7 * j) + a < 18446744073709551616 := by
            by_cases e : j = 9
            · have := hc63 e
              subst e
              have : c * 2 ^ (7 * 9) ≤ 1 * 2 ^ (7 * 9) := Nat.mul_le_mul_right _ this
              omega
            · have h56 : 2 ^ (7 * j) ≤ 2 ^ 56 := Nat.pow_le_pow_right (by omega) (by omega)
              have : c * 2 ^ (7 * j) ≤ 127 * 2 ^ (7 * j) := Nat.mul_le_mul_right _ (by omega)
              omega
          have hm2 := more_eq a c (7 * j) hs63 ha hc256 (by rw [hmod]; exact hbound)
          rw [hmod] at hm2
          rw [hm2, unz_eq _ (by omega)] at h
          simp only [Prod.mk.injEq, and_true] at h
          refine ⟨c, i + 1, by omega, by omega, by omega, ?_, by omega, h.1.symm, fun hj => ?_, by rw [vb_small c (by omega)]; simp⟩
          · rw [vb_small c (by omega)]; exact hd
          · rcases Nat.eq_zero_or_pos c with e | e
            · exact absurd (.inr ⟨by omega, by omega⟩) c2
            · exact e
        · rw [if_neg c3] at h
          have hj9 : j < 9 := by
            rcases Nat.lt_or_ge j 9 with e | e
            · exact e
            · have := hc63 (by omega); omega
          have hpow : 2 ^ (7 * (j + 1)) = 128 * 2 ^ (7 * j) := by rw [show 7 * (j + 1) = 7 + 7 * j by omega, Nat.pow_add]
          have h56 : 2 ^ (7 * j) ≤ 2 ^ 56 := Nat.pow_le_pow_right (by omega) (by omega)
          have h127 : c % 128 * 2 ^ (7 * j) ≤ 127 * 2 ^ (7 * j) := Nat.mul_le_mul_right _ (by omega)
          have hm2 := more_eq a c (7 * j) hs63 ha hc256 (by omega)
          have e1 : ((7 * j : Nat) : Int) + 7 = ((7 * (j + 1) : Nat) : Int) := by omega
          have e2 : (i : Int) + 1 = ((i + 1 : Nat) : Int) := by omega
          rw [hm2, e1, e2] at h
          obtain ⟨u, i', ha', hi1, hi2, hdr, hub, hv, hup, hul⟩ := ih (j + 1) (a + c % 128 * 2 ^ (7 * j)) (i + 1) v a' (by omega) (by rw [hpow]; omega) h
          have hu0 := hup (by omega)
          have hmod : (c % 128 + 128 * u) % 128 + 128 = c := by omega
          have hdiv : (c % 128 + 128 * u) / 128 = u := by omega
          have heq : a + (c % 128 + 128 * u) * 2 ^ (7 * j) = a + c % 128 * 2 ^ (7 * j) + u * 2 ^ (7 * (j + 1)) := by
            rw [hpow, Nat.add_mul, ← Nat.mul_assoc u, Nat.mul_comm 128 u]; omega
          have hvb : vb (c % 128 + 128 * u) = (c : Int) :: vb u := by rw [vb_great _ (by omega), hmod, hdiv]
          refine ⟨c % 128 + 128 * u, i', ha', by omega, hi2, ?_, by rw [heq]; exact hub, by rw [heq]; exact hv, fun _ => by omega, ?_⟩
          · rw [hd, hdr, hvb]; rfl
          · rw [hvb, List.length_cons, hul]; omega

/-! ### numbers -/
theorem nb_ne (n : Int) : 0 < (nb n).length := by unfold nb; rw [vb]; split <;> simp
theorem rN_yes (b : List Int) (hb : Bt b) (n : Int) (hn : I64 n) (i : Nat) (rest : List Int) (h : b.drop i = nb n ++ rest) : rN b (i : Int) = (n, ((i + (nb n).length : Nat) : Int), false) := by
  have hr := zg_range n
  have h1 := pn_yes b hb rest 0 10 0 (zg n).toNat i rfl (by omega) (by simp) (by simp; omega) (by omega) h
  unfold rN
  simp only [Nat.mul_zero, Nat.pow_zero, Nat.mul_one, Nat.zero_add] at h1
  rw [show ((0 : Nat) : Int) = 0 from rfl] at h1
  rw [h1, uz_zg n hn]
  rfl
theorem rN_only (b : List Int) (hb : Bt b) (i : Nat) (v a' : Int) (h : rN b (i : Int) = (v, a', false)) : ∃ i' : Nat, a' = i' ∧ i < i' ∧ i' ≤ b.length ∧ I64 v ∧ b.drop i = nb v ++ b.drop i' ∧ (nb v).length = i' - i := by
  obtain ⟨u, i', h1, h2, h3, h4, h5, h6, _, h7⟩ := pn_only b hb 10 0 0 i v a' rfl (by simp) h
  simp only [Nat.mul_zero, Nat.pow_zero, Nat.mul_one, Nat.zero_add] at h5 h6
  have hz := zg_uz u h5
  have e : nb v = vb u := by unfold nb; rw [h6, hz]; rfl
  exact ⟨i', h1, h2, h3, by rw [h6]; exact uz_i64 u h5, by rw [e]; exact h4, by rw [e]; exact h7⟩
end Go.Proofs.Ytipjpdiianopcaa.Cp
