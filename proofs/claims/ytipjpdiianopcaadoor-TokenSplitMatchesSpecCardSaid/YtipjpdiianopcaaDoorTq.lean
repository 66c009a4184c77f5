/- Tokens: the program's next token is the reference's. -/
import Derived.Test.YtipjpdiianopcaaDoorTp
namespace Go.Proofs.YtipjpdiianopcaaDoor.Tp
open Go.RowKit Go.Proofs.YtipjpdiianopcaaDoor.A Go.Proofs.YtipjpdiianopcaaDoor.Ct Go.Proofs.YtipjpdiianopcaaDoor.Hx Go.Proofs.YtipjpdiianopcaaW.PrintWords Go.Proofs.YtipjpdiianopcaaW.PrintLast
set_option linter.unusedVariables false
/-! bytes of a string -/
theorem toList_loop (s : ByteArray) : ∀ (d i : Nat) (r : List UInt8), s.size - i = d → ByteArray.toList.loop s i r = r.reverse ++ s.data.toList.drop i := by
  intro d
  induction d with
  | zero =>
    intro i r h
    unfold ByteArray.toList.loop
    rw [if_neg (by omega), List.drop_eq_nil_of_le (by rw [Array.length_toList]; show s.size ≤ i; omega), List.append_nil]
  | succ d ih =>
    intro i r h
    unfold ByteArray.toList.loop
    rw [if_pos (by omega), ih (i + 1) _ (by omega)]
    have hl : i < s.data.toList.length := by rw [Array.length_toList]; show i < s.size; omega
    rw [List.drop_eq_getElem_cons hl, List.reverse_cons, List.append_assoc]
    have hg : s.get! i = s.data.toList[i] := by
      have hl' : i < s.data.size := by rw [Array.length_toList] at hl; exact hl
      cases s with
      | mk d => simp only [ByteArray.get!]; rw [getElem!_pos d i hl']; simp
    rw [hg]; rfl
theorem toList_data (s : ByteArray) : s.toList = s.data.toList := by
  unfold ByteArray.toList
  rw [toList_loop s (s.size - 0) 0 [] rfl]; simp
theorem len_toList (s : ByteArray) : s.toList.length = s.size := by rw [toList_data, Array.length_toList]; rfl
def bc (s : ByteArray) (i : Int) : UInt8 := UInt8.ofNat (bt s i).toNat
theorem list_one (s : ByteArray) (h : s.size = 1) : s.toList = [bc s 0] := by
  obtain ⟨c, hc, hb⟩ := bt_list s 0 (by omega)
  have e : s.data.toList.drop 1 = [] := List.drop_eq_nil_of_le (by rw [Array.length_toList]; show s.size ≤ 1; omega)
  rw [List.drop_zero, Nat.zero_add, e] at hc
  rw [toList_data, hc]
  unfold bc
  rw [show bt s 0 = (c.toNat : Int) from hb]
  simp
theorem list_two (s : ByteArray) (h : s.size = 2) : s.toList = [bc s 0, bc s 1] := by
  obtain ⟨c, hc, hb⟩ := bt_list s 0 (by omega)
  obtain ⟨d, hd, hb2⟩ := bt_list s 1 (by omega)
  have e : s.data.toList.drop 2 = [] := List.drop_eq_nil_of_le (by rw [Array.length_toList]; show s.size ≤ 2; omega)
  rw [List.drop_zero, Nat.zero_add] at hc
  rw [show 1 + 1 = 2 from rfl, e] at hd
  rw [toList_data, hc, hd]
  unfold bc
  rw [show bt s 0 = (c.toNat : Int) from hb, show bt s 1 = (d.toNat : Int) from hb2]
  simp
theorem ext_size (x : ByteArray) (a b : Nat) (hb : b ≤ x.size) : (x.extract a b).size = b - a := by
  rw [ByteArray.size_extract]; omega
theorem bt_ext (x : ByteArray) (a b i : Nat) (hb : b ≤ x.size) (hi : a + i < b) : bt (x.extract a b) (i : Int) = bt x ((a + i : Nat) : Int) := by
  have h1 : ((i : Nat) : Int).toNat < (x.extract a b).size := by rw [ext_size x a b hb]; omega
  have h2 : (((a + i : Nat) : Nat) : Int).toNat < x.size := by omega
  unfold bt
  rw [dif_pos h1, dif_pos h2]
  simp only [Int.toNat_natCast, ByteArray.getElem_extract]
theorem ext_ext (x : ByteArray) (p n : Nat) (h : p + n ≤ x.size) : (x.extract p x.size).extract 0 n = x.extract p (p + n) := by
  rw [ByteArray.extract_extract]
  congr 1
  omega
/-! signs -/
def sgs : List ByteArray := [(⟨#[60, 60]⟩ : ByteArray), (⟨#[62, 62]⟩ : ByteArray), (⟨#[43]⟩ : ByteArray), (⟨#[45]⟩ : ByteArray), (⟨#[42]⟩ : ByteArray), (⟨#[47]⟩ : ByteArray), (⟨#[37]⟩ : ByteArray), (⟨#[38]⟩ : ByteArray), (⟨#[124]⟩ : ByteArray), (⟨#[94]⟩ : ByteArray), (⟨#[126]⟩ : ByteArray), (⟨#[40]⟩ : ByteArray), (⟨#[41]⟩ : ByteArray), (⟨#[44]⟩ : ByteArray), (⟨#[58]⟩ : ByteArray), (⟨#[61]⟩ : ByteArray), (⟨#[64]⟩ : ByteArray)]
def sgl : List (List UInt8) := [[60, 60], [62, 62], [43], [45], [42], [47], [37], [38], [124], [94], [126], [40], [41], [44], [58], [61], [64]]
theorem sgs_list : sgs.map ByteArray.toList = sgl := by decide +kernel
def signL (l : List UInt8) : Bool := sgl.any fun t => t == l
theorem sign_l0 (s : ByteArray) (L : List ByteArray) (hL : L.length ≤ 1000) : ∀ (d k i : Nat), i + d = L.length → d < k → linkhouseref1_Sign.l0 k s L (i : Int) = some (((L.map ByteArray.toList).drop i).any fun t => t == s.toList) := by
  intro d
  induction d with
  | zero =>
    intro k i hi hk
    obtain ⟨k, rfl⟩ : ∃ k', k = k' + 1 := ⟨k - 1, by omega⟩
    rw [linkhouseref1_Sign.l0, if_neg (by omega), List.drop_eq_nil_of_le (by simp; omega)]
    rfl
  | succ d ih =>
    intro k i hi hk
    obtain ⟨k, rfl⟩ : ∃ k', k = k' + 1 := ⟨k - 1, by omega⟩
    have hi2 : i < L.length := by omega
    have e : rdOf ByteArray.empty L (i : Int) = L[i] := by
      unfold rdOf
      rw [Int.toNat_natCast, List.getD_eq_getElem?_getD, List.getElem?_eq_getElem hi2]; rfl
    have e2 : (L.map ByteArray.toList).drop i = L[i].toList :: (L.map ByteArray.toList).drop (i + 1) := by
      rw [List.drop_eq_getElem_cons (by simpa using hi2)]; simp
    rw [linkhouseref1_Sign.l0, if_pos (by omega), if_pos (by omega), e, e2, List.any_cons]
    by_cases h : L[i].toList = s.toList
    · rw [if_pos h, h]; simp
    · rw [if_neg h, beq_eq_false_iff_ne.2 h, Bool.false_or, ws1 i (by omega)]
      exact ih k (i + 1) (by omega) (by omega)
theorem sign_f (s : ByteArray) (k : Nat) (hk : 20 < k) : linkhouseref1_Sign.f k s = some (signL s.toList) := by
  have h := sign_l0 s sgs (by decide) 17 k 0 rfl (by omega)
  rw [sgs_list, List.drop_zero] at h
  exact h
/-- The signs of one byte. -/
def one (c : UInt8) : Bool := signL [c]
theorem one_all : ∀ c : Fin 256, decide (Go.Lib.indexByte [43, 45, 42, 47, 37, 38, 124, 94, 126, 40, 41, 44, 58, 61, 64] (UInt8.ofNat c.val) ≥ 0) = one (UInt8.ofNat c.val) ∧
    (nb (c.val : Int) = true → one (UInt8.ofNat c.val) = false ∧ UInt8.ofNat c.val ≠ 60 ∧ UInt8.ofNat c.val ≠ 62) ∧ (nb (c.val : Int) = false → hexV c.val = none) := by decide +kernel
theorem one_at (s : ByteArray) (i : Int) : decide (Go.Lib.indexByte [43, 45, 42, 47, 37, 38, 124, 94, 126, 40, 41, 44, 58, 61, 64] (bc s i) ≥ 0) = one (bc s i) ∧
    (nb (bt s i) = true → one (bc s i) = false ∧ bc s i ≠ 60 ∧ bc s i ≠ 62) ∧ (nb (bt s i) = false → hexV (bt s i).toNat = none) := by
  obtain ⟨c, hc⟩ := bt_fin s i
  have h := one_all c
  unfold bc
  rw [hc, Int.toNat_natCast]
  exact h
theorem signL_two (c d : UInt8) : signL [c, d] = ((c == 60 && d == 60) || (c == 62 && d == 62)) := by
  unfold signL sgl
  simp [List.any_cons, Bool.beq_eq_decide_eq, eq_comm]
/-- Does a sign of two bytes begin s? -/
def two (s : ByteArray) : Bool := decide (2 ≤ s.size) && signL [bc s 0, bc s 1]
theorem psign_f (s : ByteArray) (hs : 0 < s.size) (k : Nat) (hk : 0 < k) : token_sign.f k s = some (if two s = true then s.extract 0 2 else if one (bc s 0) = true then s.extract 0 1 else ⟨#[]⟩) := by
  obtain ⟨k, rfl⟩ : ∃ k', k = k' + 1 := ⟨k - 1, by omega⟩
  have hj : token_sign.j0 (k + 1) s false = some (if one (bc s 0) = true then s.extract 0 1 else ⟨#[]⟩) := by
    have hne : ¬ s.toList = ([] : List UInt8) := by
      intro h
      have := len_toList s
      rw [h] at this
      simp at this
      omega
    have hb : (bt s 0).toNat.toUInt8 = bc s 0 := rfl
    have ho := (one_at s 0).1
    rw [token_sign.j0, if_neg (by decide), if_neg hne, if_pos (by omega)]
    unfold strings_IndexByte.f
    rw [Option.bind_some, hb]
    show (if Go.Lib.indexByte [43, 45, 42, 47, 37, 38, 124, 94, 126, 40, 41, 44, 58, 61, 64] (bc s 0) ≥ 0 then _ else _) = _
    by_cases h1 : Go.Lib.indexByte [43, 45, 42, 47, 37, 38, 124, 94, 126, 40, 41, 44, 58, 61, 64] (bc s 0) ≥ 0
    · rw [decide_eq_true h1] at ho
      rw [if_pos h1, if_pos (by decide), if_pos (by omega), if_pos ho.symm]
    · rw [decide_eq_false h1] at ho
      rw [if_neg h1, if_neg (by rw [← ho]; decide)]
  unfold token_sign.f two
  by_cases h2 : 2 ≤ s.size
  · have hs2 : (s.extract 0 2).size = 2 := by rw [ext_size s 0 2 h2]
    have hl : (s.extract 0 2).toList = [bc s 0, bc s 1] := by
      rw [list_two _ hs2]
      unfold bc
      rw [show bt (s.extract 0 2) 0 = bt s 0 from bt_ext s 0 2 0 h2 (by omega), show bt (s.extract 0 2) 1 = bt s 1 from bt_ext s 0 2 1 h2 (by omega)]
    have e1 : ((⟨#[60, 60, 62, 62]⟩ : ByteArray).extract 0 2).toList = [60, 60] := by decide +kernel
    have e2 : ((⟨#[60, 60, 62, 62]⟩ : ByteArray).extract 2 (⟨#[60, 60, 62, 62]⟩ : ByteArray).size).toList = [62, 62] := by decide +kernel
    rw [if_pos (by omega), if_pos (by decide), if_pos (by omega), if_pos (by decide), hl, e1, e2, decide_eq_true h2, Bool.true_and, signL_two]
    by_cases ha : [bc s 0, bc s 1] = [60, 60]
    · have hb := List.cons.inj ha
      have hc := (List.cons.inj hb.2).1
      rw [if_pos ha, token_sign.j0, if_pos rfl, if_pos (by decide), if_pos (by omega), hb.1, hc]
      rfl
    · rw [if_neg ha]
      by_cases hb : [bc s 0, bc s 1] = [62, 62]
      · have hd := List.cons.inj hb
        have he := (List.cons.inj hd.2).1
        rw [hb, show (([62, 62] : List UInt8) == [62, 62]) = true from rfl, token_sign.j0, if_pos rfl, if_pos (by decide), if_pos (by omega), hd.1, he]
        rfl
      · rw [show ([bc s 0, bc s 1] == [62, 62]) = false from beq_eq_false_iff_ne.2 hb, hj]
        have hn : ((bc s 0 == 60 && bc s 1 == 60) || (bc s 0 == 62 && bc s 1 == 62)) = false := by
          rw [Bool.eq_false_iff]
          intro h
          rw [Bool.or_eq_true, Bool.and_eq_true, Bool.and_eq_true] at h
          rcases h with ⟨u, v⟩ | ⟨u, v⟩
          · exact ha (by rw [eq_of_beq u, eq_of_beq v])
          · exact hb (by rw [eq_of_beq u, eq_of_beq v])
        rw [hn, if_neg (show ¬ (false = true) by decide)]
  · rw [if_neg (by omega), hj, decide_eq_false h2, Bool.false_and, if_neg (show ¬ (false = true) by decide)]
/-! runs of name bytes -/
def runE (s : ByteArray) : Nat → Nat → Nat
  | 0, i => i
  | d + 1, i => if nb (bt s i) = true then runE s d (i + 1) else i
theorem runE_le (s : ByteArray) : ∀ (d i : Nat), i ≤ runE s d i ∧ runE s d i ≤ i + d
  | 0, i => ⟨Nat.le_refl _, Nat.le_refl _⟩
  | d + 1, i => by
    rw [runE]
    split
    · have := runE_le s d (i + 1); omega
    · omega
theorem next_l0 (s : ByteArray) (hs : s.size ≤ 1000000) : ∀ (d k i : Nat), i + d = s.size → d < k → ∃ k', k ≤ k' + d + 1 ∧ token_next.l0 k s (i : Int) = token_next.j1 k' s ((runE s d i : Nat) : Int) := by
  intro d
  induction d with
  | zero =>
    intro k i hi hk
    obtain ⟨k, rfl⟩ : ∃ k', k = k' + 1 := ⟨k - 1, by omega⟩
    exact ⟨k, by omega, by rw [token_next.l0, if_neg (by omega), runE]⟩
  | succ d ih =>
    intro k i hi hk
    obtain ⟨k, rfl⟩ : ∃ k', k = k' + 1 := ⟨k - 1, by omega⟩
    rw [token_next.l0, if_pos (by omega), if_pos (by omega), isNameByte_f, Option.bind_some, runE]
    by_cases h : nb (bt s i) = true
    · rw [if_pos h, if_pos h, ws1 i (by omega)]
      obtain ⟨k', hk', e⟩ := ih k (i + 1) (by omega) (by omega)
      exact ⟨k', by omega, e⟩
    · rw [if_neg h, if_neg h]
      exact ⟨k, by omega, rfl⟩
theorem tokens_l1 (x : ByteArray) (hs : x.size ≤ 1000000) (acc : List S53) (p : Int) : ∀ (d k i : Nat), i + d = x.size → d < k → ∃ k', k ≤ k' + (runE x d i - i) + 1 ∧ k' ≤ k ∧ linkhouseref1_Tokens.l1 k x acc p (i : Int) = linkhouseref1_Tokens.j4 k' x acc p ((runE x d i : Nat) : Int) := by
  intro d
  induction d with
  | zero =>
    intro k i hi hk
    obtain ⟨k, rfl⟩ : ∃ k', k = k' + 1 := ⟨k - 1, by omega⟩
    exact ⟨k, by omega, by omega, by rw [linkhouseref1_Tokens.l1, if_neg (by omega), runE]⟩
  | succ d ih =>
    intro k i hi hk
    obtain ⟨k, rfl⟩ : ∃ k', k = k' + 1 := ⟨k - 1, by omega⟩
    rw [linkhouseref1_Tokens.l1, if_pos (by omega), if_pos (by omega), nameByte_f, Option.bind_some, runE]
    by_cases h : nb (bt x i) = true
    · rw [if_pos h, if_pos h, ws1 i (by omega)]
      obtain ⟨k', hk', hk2, e⟩ := ih k (i + 1) (by omega) (by omega)
      have := runE_le x d (i + 1)
      exact ⟨k', by omega, by omega, e⟩
    · rw [if_neg h, if_neg h]
      exact ⟨k, by omega, by omega, rfl⟩
theorem runE_shift (x : ByteArray) (p : Nat) : ∀ (d i : Nat), p + i + d = x.size → p + runE (x.extract p x.size) d i = runE x d (p + i)
  | 0, i, h => rfl
  | d + 1, i, h => by
    rw [runE, runE, bt_ext x p x.size i (Nat.le_refl _) (by omega)]
    by_cases hn : nb (bt x ((p + i : Nat) : Int)) = true
    · rw [if_pos hn, if_pos hn, runE_shift x p d (i + 1) (by omega), Nat.add_assoc]
    · rw [if_neg hn, if_neg hn]
theorem runE_nb (x : ByteArray) : ∀ (d i j : Nat), i ≤ j → j < runE x d i → nb (bt x (j : Int)) = true
  | 0, i, j, h1, h2 => by rw [runE] at h2; omega
  | d + 1, i, j, h1, h2 => by
    rw [runE] at h2
    by_cases h : nb (bt x i) = true
    · rw [if_pos h] at h2
      rcases Nat.lt_or_ge i j with c | c
      · exact runE_nb x d (i + 1) j (by omega) h2
      · rw [show j = i by omega]; exact h
    · rw [if_neg h] at h2; omega
end Go.Proofs.YtipjpdiianopcaaDoor.Tp
