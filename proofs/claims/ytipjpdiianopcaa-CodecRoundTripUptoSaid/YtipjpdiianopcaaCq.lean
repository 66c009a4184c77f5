/- Plain laws on the encodings of lists, and what the reference computes of them. -/
import Derived.Test.YtipjpdiianopcaaCp
import Derived.Test.YtipjpdiianopcaaAx2
import Derived.Test.YtipjpdiianopcaaAx3
import Derived.Test.YtipjpdiianopcaaAx4
import Derived.Test.YtipjpdiianopcaaAx5
namespace Go.Proofs.Ytipjpdiianopcaa.Cp
open Go.RowKit Go.Proofs.YtipjpdiianopcaaW.PrintWords Go.Proofs.YtipjpdiianopcaaW.PrintLast Go.Proofs.YtipjpdiianopcaaW.PrintMore Go.Proofs.Ytipjpdiianopcaa.A Go.Proofs.Ytipjpdiianopcaa.Cw Go.Proofs.Ytipjpdiianopcaa.Cr
set_option linter.unusedVariables false
set_option linter.unusedSimpArgs false

/-! ### strings and bytes -/
theorem bytesOf_bt (s : ByteArray) : Bt (bytesOf s) := by
  intro x hx
  obtain ⟨c, _, rfl⟩ := List.mem_map.1 hx
  have := c.toNat_lt
  omega
theorem strOfNums_bytesOf (s : ByteArray) : strOfNums (bytesOf s) = s := by
  have h : (strOfNums (bytesOf s)).data = s.data := by
    unfold strOfNums bytesOf
    apply Array.toList_inj.1
    simp only [List.map_map]
    have : ((fun n : Int => UInt8.ofNat n.toNat) ∘ fun b : UInt8 => (b.toNat : Int)) = id := by
      funext b; simp
    rw [this]; simp
  cases hs : strOfNums (bytesOf s) with
  | mk d => rw [hs] at h; cases s; simp at h; rw [h]
theorem bytesOf_strOfNums (l : List Int) (hl : Bt l) : bytesOf (strOfNums l) = l := by
  unfold bytesOf
  rw [strOfNums_data, List.map_map]
  have : ∀ x ∈ l, ((fun b : UInt8 => (b.toNat : Int)) ∘ fun n : Int => UInt8.ofNat n.toNat) x = x := by
    intro x hx
    have h := hl x hx
    show ((UInt8.ofNat x.toNat).toNat : Int) = x
    rw [UInt8.toNat_ofNat']; omega
  rw [List.map_congr_left this]; simp
theorem bt_take {b : List Int} (h : Bt b) (n : Nat) : Bt (b.take n) := fun x hx => h x (List.mem_of_mem_take hx)
theorem bt_drop {b : List Int} (h : Bt b) (n : Nat) : Bt (b.drop n) := fun x hx => h x (List.mem_of_mem_drop hx)
theorem bt_append {a b : List Int} (h : Bt a) (k : Bt b) : Bt (a ++ b) := fun x hx => (List.mem_append.1 hx).elim (h x) (k x)
theorem vb_bt : ∀ u : Nat, Bt (vb u) := by
  intro u
  induction u using Nat.strongRecOn with
  | _ u ih =>
    by_cases c : u < 128
    · rw [vb_small u c]; intro x hx; simp at hx; omega
    · rw [vb_great u c]; intro x hx
      rcases List.mem_cons.1 hx with rfl | hx
      · omega
      · exact ih (u / 128) (by omega) x hx
theorem nb_bt (n : Int) : Bt (nb n) := vb_bt _
theorem tb_bt (s : ByteArray) : Bt (tb s) := bt_append (nb_bt _) (bytesOf_bt s)
theorem flat_bt {α : Type} (f : α → List Int) (hf : ∀ x, Bt (f x)) (l : List α) : Bt (l.flatMap f) := by
  intro x hx
  obtain ⟨y, _, hy⟩ := List.mem_flatMap.1 hx
  exact hf y x hy
theorem nsb_bt (l : List Int) : Bt (nsb l) := bt_append (nb_bt _) (flat_bt _ nb_bt l)
theorem tsb_bt (l : List ByteArray) : Bt (tsb l) := bt_append (nb_bt _) (flat_bt _ tb_bt l)
theorem toList_loop (s : ByteArray) : ∀ (d i : Nat) (r : List UInt8), s.size - i = d → ByteArray.toList.loop s i r = r.reverse ++ s.data.toList.drop i := by
  intro d
  induction d with
  | zero =>
    intro i r h
    unfold ByteArray.toList.loop
    rw [if_neg (by omega), List.drop_eq_nil_of_le (by rw [Array.length_toList]; show s.size ≤ i; omega), List.append_nil]
  | succ d ih =>
    intro i r h
    unfold ByteArray.toList.loop
    rw [if_pos (by omega), ih (i + 1) _ (by omega)]
    have hl : i < s.data.toList.length := by rw [Array.length_toList]; show i < s.size; omega
    rw [List.drop_eq_getElem_cons hl, List.reverse_cons, List.append_assoc]
    have hg : s.get! i = s.data.toList[i] := by
      have hl' : i < s.data.size := by rw [Array.length_toList] at hl; exact hl
      cases s with
      | mk d => simp only [ByteArray.get!]; rw [getElem!_pos d i hl']; simp
    rw [hg]; rfl
theorem toList_data (s : ByteArray) : s.toList = s.data.toList := by
  unfold ByteArray.toList
  rw [toList_loop s (s.size - 0) 0 [] rfl]; simp
theorem toList_strOf (l : List Int) : (strOfNums l).toList = l.map fun n => UInt8.ofNat n.toNat := by
  rw [← strOfNums_data]
  exact toList_data _
theorem bytes_f (a b : List Int) (ha : Bt a) (hb : Bt b) : linkhouseref1_Bytes.f a b = some (decide (a = b)) := by
  unfold linkhouseref1_Bytes.f
  congr 1
  by_cases e : a = b
  · subst e; simp
  · rw [decide_eq_false e]
    refine beq_eq_false_iff_ne.2 fun h => e ?_
    have h2 : strOfNums a = strOfNums b := by
      have h3 : (strOfNums a).data.toList = (strOfNums b).data.toList := by rw [strOfNums_data, strOfNums_data, ← toList_strOf, ← toList_strOf, h]
      cases hx : strOfNums a with | mk x => cases hy : strOfNums b with | mk y => rw [hx, hy] at h3; exact congrArg ByteArray.mk (Array.toList_inj.1 h3)
    rw [← bytesOf_strOfNums a ha, ← bytesOf_strOfNums b hb, h2]

/-! ### the reference's writers -/
theorem numberCode_l0 : ∀ (d k : Nat) (u : Nat) (acc : List Int), u < 128 ^ d → 0 < d → d ≤ k → u < 18446744073709551616 → acc.length + d < 140737488355328 → linkhouseref1_NumberCode.l0 k (u : Int) acc = some (acc ++ vb u)
  | 0, _, _, _, _, h, _, _, _ => by omega
  | d + 1, k, u, acc, hu, _, hk, h64, hl => by
    obtain ⟨k, rfl⟩ : ∃ m, k = m + 1 := ⟨k - 1, by omega⟩
    simp only [linkhouseref1_NumberCode.l0]
    by_cases c : u < 128
    · rw [if_neg (by omega), if_pos (by omega), vb_small u c]
      rw [show (u : Int) % 256 = u by omega]
    · rw [if_pos (by omega), if_pos (by omega), vb_great u c]
      have e1 : IntKind.u64.wrap (Int.tdiv (u : Int) 128) = ((u / 128 : Nat) : Int) := by
        rw [IntKind.wrap_u64, Int.tdiv_eq_ediv_of_nonneg (by omega)]; omega
      have e2 : (IntKind.u64.wrap ((Int.tmod (u : Int) 128) + 128)) % 256 = ((u % 128 + 128 : Nat) : Int) := by
        rw [IntKind.wrap_u64, Int.tmod_eq_emod_of_nonneg (by omega)]; omega
      rw [e1, e2]
      have hd : 0 < d := by
        rcases Nat.eq_zero_or_pos d with rfl | hd
        · simp at hu; omega
        · exact hd
      rw [numberCode_l0 d k (u / 128) _ (Nat.div_lt_of_lt_mul (by rw [Nat.pow_succ, Nat.mul_comm] at hu; exact hu)) hd (by omega) (by omega) (by rw [List.length_append, List.length_singleton]; omega)]
      rw [List.append_assoc, List.singleton_append]
theorem numberCode_f (k : Nat) (n : Int) (h : I64 n) (hk : 11 ≤ k) : linkhouseref1_NumberCode.f k n = some (nb n) := by
  have hz := zg_eq n h
  have hr := zg_range n
  obtain ⟨h1, h2⟩ := h
  obtain ⟨k, rfl⟩ : ∃ m, k = m + 1 := ⟨k - 1, by omega⟩
  have key : ∀ x : Int, x = zg n → linkhouseref1_NumberCode.j0 (k + 1) x = some (nb n) := by
    rintro x rfl
    simp only [linkhouseref1_NumberCode.j0]
    have e : zg n = ((zg n).toNat : Int) := by omega
    rw [e, numberCode_l0 10 k (zg n).toNat [] (by omega) (by omega) (by omega) (by omega) (by simp)]
    rfl
  unfold linkhouseref1_NumberCode.f
  by_cases c : n ≥ 0
  · rw [if_pos c]
    refine key _ ?_
    rw [hz, if_pos c, IntKind.wrap_u64, IntKind.wrap_u64]; omega
  · rw [if_neg c]
    refine key _ ?_
    rw [hz, if_neg (by omega)]
    have w1 : wrap64 (n + 1) = n + 1 := by unfold wrap64; omega
    have w2 : wrap64 (-(n + 1)) = -(n + 1) := by unfold wrap64; omega
    rw [w1, w2, IntKind.wrap_u64, IntKind.wrap_u64, IntKind.wrap_u64]; omega
theorem i64_len {α : Type} (l : List α) (h : l.length < 1000000000000) : I64 (l.length : Int) := ⟨by omega, by omega⟩
theorem numbersCode_l0 (l : List Int) (hl : ∀ x ∈ l, I64 x) (hn : l.length < 1000000000000) : ∀ (d k i : Nat) (acc : List Int), l.length - i = d → i ≤ l.length → d + 12 ≤ k → acc.length + 10 * d < 140737488355328 →
    linkhouseref1_NumbersCode.l0 k l acc (i : Int) = some (acc ++ (l.drop i).flatMap nb) := by
  intro d
  induction d with
  | zero =>
    intro k i acc hd hi hk ha
    obtain ⟨k, rfl⟩ : ∃ m, k = m + 1 := ⟨k - 1, by omega⟩
    simp only [linkhouseref1_NumbersCode.l0]
    rw [if_neg (by omega), List.drop_eq_nil_of_le (by omega)]; simp
  | succ d ih =>
    intro k i acc hd hi hk ha
    obtain ⟨k, rfl⟩ : ∃ m, k = m + 1 := ⟨k - 1, by omega⟩
    have hlt : i < l.length := by omega
    simp only [linkhouseref1_NumbersCode.l0]
    have e1 : rd l (i : Int) = l[i] := by simp [rd, List.getD_eq_getElem?_getD, List.getElem?_eq_getElem hlt]
    rw [if_pos (by omega), if_pos (by omega), e1, numberCode_f k _ (hl _ (List.getElem_mem hlt)) (by omega)]
    simp only [Option.bind_some]
    have hb := nb_len l[i]
    have w : wrap64 ((i : Int) + 1) = ((i + 1 : Nat) : Int) := by unfold wrap64; omega
    rw [if_pos (by omega), w, ih k (i + 1) _ (by omega) (by omega) (by omega) (by rw [List.length_append]; omega)]
    rw [List.drop_eq_getElem_cons hlt, List.flatMap_cons, List.append_assoc]
theorem numbersCode_f (k : Nat) (l : List Int) (hl : ∀ x ∈ l, I64 x) (hn : l.length < 1000000000000) (hk : l.length + 12 ≤ k) : linkhouseref1_NumbersCode.f k l = some (nsb l) := by
  unfold linkhouseref1_NumbersCode.f
  rw [numberCode_f k _ (i64_len l hn) (by omega)]
  simp only [Option.bind_some]
  have hb := nb_len (l.length : Int)
  have := numbersCode_l0 l hl hn l.length k 0 (nb l.length) (by omega) (by omega) hk (by omega)
  rw [show ((0 : Nat) : Int) = 0 from rfl] at this
  rw [this]; rfl
theorem textCode_f (k : Nat) (s : ByteArray) (hs : s.size < 100000000000000) (hk : 11 ≤ k) : linkhouseref1_TextCode.f k s = some (tb s) := by
  unfold linkhouseref1_TextCode.f
  rw [numberCode_f k _ ⟨by omega, by omega⟩ hk]
  simp only [Option.bind_some]
  have hb := nb_len (s.size : Int)
  rw [if_pos (by omega)]; rfl
theorem textsCode_l0 (l : List ByteArray) (hn : l.length < 1000000000000) : ∀ (d k i : Nat) (acc : List Int), l.length - i = d → i ≤ l.length → d + 12 ≤ k → acc.length + ((l.drop i).flatMap tb).length < 100000000000000 →
    linkhouseref1_TextsCode.l0 k l acc (i : Int) = some (acc ++ (l.drop i).flatMap tb) := by
  intro d
  induction d with
  | zero =>
    intro k i acc hd hi hk ha
    obtain ⟨k, rfl⟩ : ∃ m, k = m + 1 := ⟨k - 1, by omega⟩
    simp only [linkhouseref1_TextsCode.l0]
    rw [if_neg (by omega), List.drop_eq_nil_of_le (by omega)]; simp
  | succ d ih =>
    intro k i acc hd hi hk ha
    obtain ⟨k, rfl⟩ : ∃ m, k = m + 1 := ⟨k - 1, by omega⟩
    have hlt : i < l.length := by omega
    simp only [linkhouseref1_TextsCode.l0]
    have e1 : rdOf ByteArray.empty l (i : Int) = l[i] := by simp [rdOf, List.getD_eq_getElem?_getD, List.getElem?_eq_getElem hlt]
    rw [List.drop_eq_getElem_cons hlt, List.flatMap_cons, List.length_append] at ha
    have hts : l[i].size ≤ (tb l[i]).length := by rw [tb, List.length_append, bytesOf_length]; omega
    rw [if_pos (by omega), if_pos (by omega), e1, textCode_f k _ (by omega) (by omega)]
    simp only [Option.bind_some]
    have w : wrap64 ((i : Int) + 1) = ((i + 1 : Nat) : Int) := by unfold wrap64; omega
    rw [if_pos (by omega), w, ih k (i + 1) _ (by omega) (by omega) (by omega) (by rw [List.length_append]; omega)]
    rw [List.drop_eq_getElem_cons hlt, List.flatMap_cons, List.append_assoc]
theorem textsCode_f (k : Nat) (l : List ByteArray) (hn : l.length < 1000000000000) (ht : (tsb l).length < 100000000000000) (hk : l.length + 12 ≤ k) : linkhouseref1_TextsCode.f k l = some (tsb l) := by
  unfold linkhouseref1_TextsCode.f
  rw [numberCode_f k _ (i64_len l hn) (by omega)]
  simp only [Option.bind_some]
  have h2 : (nb l.length).length + (l.flatMap tb).length < 100000000000000 := by rw [tsb, List.length_append] at ht; exact ht
  have := textsCode_l0 l hn l.length k 0 (nb l.length) (by omega) (by omega) hk (by simpa using h2)
  rw [show ((0 : Nat) : Int) = 0 from rfl] at this
  rw [this]; rfl
theorem ints_l0 (a : List Int) : ∀ (d k i : Nat), a.length - i = d → i ≤ a.length → a.length < 1000000000000 → d < k → linkhouseref1_Ints.l0 k a a (i : Int) = some true := by
  intro d
  induction d with
  | zero =>
    intro k i hd hi hl hk
    obtain ⟨k, rfl⟩ : ∃ m, k = m + 1 := ⟨k - 1, by omega⟩
    simp only [linkhouseref1_Ints.l0]; rw [if_neg (by omega)]
  | succ d ih =>
    intro k i hd hi hl hk
    obtain ⟨k, rfl⟩ : ∃ m, k = m + 1 := ⟨k - 1, by omega⟩
    simp only [linkhouseref1_Ints.l0]
    have w : wrap64 ((i : Int) + 1) = ((i + 1 : Nat) : Int) := by unfold wrap64; omega
    rw [if_pos (by omega), if_pos (by omega), if_pos (by omega)]
    simp only [if_true]
    rw [w]; exact ih k (i + 1) (by omega) (by omega) hl (by omega)
theorem ints_f (k : Nat) (a : List Int) (hl : a.length < 1000000000000) (hk : a.length < k) : linkhouseref1_Ints.f k a a = some true := by
  unfold linkhouseref1_Ints.f
  rw [if_pos rfl]
  exact ints_l0 a a.length k 0 rfl (by omega) hl hk
theorem strings_l0 (a : List ByteArray) : ∀ (d k i : Nat), a.length - i = d → i ≤ a.length → a.length < 1000000000000 → d < k → linkhouseref1_Strings.l0 k a a (i : Int) = some true := by
  intro d
  induction d with
  | zero =>
    intro k i hd hi hl hk
    obtain ⟨k, rfl⟩ : ∃ m, k = m + 1 := ⟨k - 1, by omega⟩
    simp only [linkhouseref1_Strings.l0]; rw [if_neg (by omega)]
  | succ d ih =>
    intro k i hd hi hl hk
    obtain ⟨k, rfl⟩ : ∃ m, k = m + 1 := ⟨k - 1, by omega⟩
    simp only [linkhouseref1_Strings.l0]
    have w : wrap64 ((i : Int) + 1) = ((i + 1 : Nat) : Int) := by unfold wrap64; omega
    rw [if_pos (by omega), if_pos (by omega), if_pos (by omega)]
    simp only [beq_self_eq_true, if_true]
    rw [w]; exact ih k (i + 1) (by omega) (by omega) hl (by omega)
theorem strings_f (k : Nat) (a : List ByteArray) (hl : a.length < 1000000000000) (hk : a.length < k) : linkhouseref1_Strings.f k a a = some true := by
  unfold linkhouseref1_Strings.f
  rw [if_pos rfl]
  exact strings_l0 a a.length k 0 rfl (by omega) hl hk
end Go.Proofs.Ytipjpdiianopcaa.Cp
