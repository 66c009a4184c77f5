/- Plain laws: reading lists; the reference's NumbersOf answers as the reader does. -/
import Derived.Test.YtipjpdiianopcaaCs
namespace Go.Proofs.Ytipjpdiianopcaa.Cp
open Go.RowKit Go.Proofs.YtipjpdiianopcaaW.PrintWords Go.Proofs.YtipjpdiianopcaaW.PrintLast Go.Proofs.YtipjpdiianopcaaW.PrintMore Go.Proofs.Ytipjpdiianopcaa.A Go.Proofs.Ytipjpdiianopcaa.Cw Go.Proofs.Ytipjpdiianopcaa.Cr
set_option linter.unusedVariables false
set_option linter.unusedSimpArgs false

/-! ### lists that are read, whatever their elements -/
section
variable {α : Type} (rx : Int → α × Int × Bool) (f : α → List Int) (P : α → Prop) (b : List Int)
theorem rdl_yes (hy : ∀ (x : α) (i : Nat) (rest : List Int), P x → b.drop i = f x ++ rest → rx (i : Int) = (x, ((i + (f x).length : Nat) : Int), false)) :
    ∀ (l : List α) (i : Nat) (acc : List α) (rest : List Int), (∀ x ∈ l, P x) → b.drop i = l.flatMap f ++ rest → rdl rx l.length (i : Int) acc = (acc ++ l, ((i + (l.flatMap f).length : Nat) : Int), false)
  | [], i, acc, rest, _, _ => by simp [rdl]
  | x :: l, i, acc, rest, hp, h => by
    rw [List.flatMap_cons, List.append_assoc] at h
    have h1 := hy x i _ (hp x (by simp)) h
    have h2 : b.drop (i + (f x).length) = l.flatMap f ++ rest := by
      rw [← List.drop_drop, h, List.drop_left]
    have h3 := rdl_yes hy l (i + (f x).length) (acc ++ [x]) rest (fun y hy => hp y (List.mem_cons_of_mem _ hy)) h2
    simp only [List.length_cons, rdl, h1]
    rw [if_neg (by simp), h3, List.flatMap_cons, List.length_append, List.append_assoc, List.singleton_append, Nat.add_assoc]
theorem rdl_only (ho : ∀ (i : Nat) (x : α) (a' : Int), rx (i : Int) = (x, a', false) → ∃ i' : Nat, a' = i' ∧ i < i' ∧ i' ≤ b.length ∧ P x ∧ b.drop i = f x ++ b.drop i') :
    ∀ (m i : Nat) (acc out : List α) (a' : Int), i ≤ b.length → rdl rx m (i : Int) acc = (out, a', false) → ∃ (l : List α) (i' : Nat), out = acc ++ l ∧ l.length = m ∧ a' = i' ∧ i + m ≤ i' ∧ i' ≤ b.length ∧ (∀ x ∈ l, P x) ∧ b.drop i = l.flatMap f ++ b.drop i'
  | 0, i, acc, out, a', hi, h => by
    simp only [rdl, Prod.mk.injEq] at h
    exact ⟨[], i, by simp [h.1], rfl, h.2.1.symm, by omega, hi, by simp, by simp⟩
  | m + 1, i, acc, out, a', hi, h => by
    obtain ⟨x, a1, bd, hr⟩ : ∃ x a1 bd, rx (i : Int) = (x, a1, bd) := ⟨_, _, _, rfl⟩
    simp only [rdl, hr] at h
    cases bd with
    | true => simp at h
    | false =>
      rw [if_neg (by simp)] at h
      obtain ⟨i1, rfl, h1, h2, h3, h4⟩ := ho i x a1 hr
      obtain ⟨l, i', h5, h6, h7, h8, h9, h10, h11⟩ := rdl_only ho m i1 (acc ++ [x]) out a' h2 h
      exact ⟨x :: l, i', by rw [h5, List.append_assoc, List.singleton_append], by simp [h6], h7, by omega, h9, fun y hy => (List.mem_cons.1 hy).elim (fun e => e ▸ h3) (h10 y), by rw [h4, h11, List.flatMap_cons, List.append_assoc]⟩
theorem rdl_bad : ∀ (m : Nat) (i : Int) (acc : List α), (rdl rx m i acc).2.2 = true → (rdl rx m i acc).1 = []
  | 0, i, acc, h => by simp [rdl] at h
  | m + 1, i, acc, h => by
    simp only [rdl] at h ⊢
    split
    · rfl
    · rename_i hc
      rw [if_neg hc] at h
      exact rdl_bad m _ _ h
end
theorem rL_bad {α : Type} (rx : Int → α × Int × Bool) (b : List Int) (h : (rL rx b).2.2 = true) : (rL rx b).1 = [] := by
  unfold rL at h ⊢
  split
  · rfl
  · rename_i hc
    rw [if_neg hc] at h
    exact rdl_bad rx _ _ _ h
theorem flat_ge {α : Type} (f : α → List Int) (hf : ∀ x, 0 < (f x).length) : ∀ l : List α, l.length ≤ (l.flatMap f).length
  | [] => by simp
  | x :: l => by
    have := flat_ge f hf l
    have := hf x
    simp only [List.flatMap_cons, List.length_append, List.length_cons]; omega
theorem rL_yes {α : Type} (rx : Int → α × Int × Bool) (f : α → List Int) (P : α → Prop) (b : List Int) (hb : Bt b) (hf : ∀ x, 0 < (f x).length)
    (hy : ∀ (x : α) (i : Nat) (rest : List Int), P x → b.drop i = f x ++ rest → rx (i : Int) = (x, ((i + (f x).length : Nat) : Int), false))
    (l : List α) (hl : ∀ x ∈ l, P x) (hn : l.length < 1000000000000) (rest : List Int) (h : b = nb l.length ++ l.flatMap f ++ rest) :
    rL rx b = (l, (((nb l.length).length + (l.flatMap f).length : Nat) : Int), false) := by
  rw [List.append_assoc] at h
  have h1 := rN_yes b hb (l.length : Int) (i64_len l hn) 0 (l.flatMap f ++ rest) (by rw [List.drop_zero]; exact h)
  rw [show ((0 : Nat) : Int) = 0 from rfl, Nat.zero_add] at h1
  have h2 := rdl_yes rx f P b hy l (nb l.length).length [] rest hl (by rw [h, List.drop_left])
  have h3 := flat_ge f hf l
  have h4 : b.length = (nb l.length).length + ((l.flatMap f).length + rest.length) := by
    have := congrArg List.length h
    simpa using this
  unfold rL
  rw [h1]
  rw [if_neg (by simp; omega)]
  simp only [Int.toNat_natCast]
  rw [h2, List.nil_append]
theorem rL_only {α : Type} (rx : Int → α × Int × Bool) (f : α → List Int) (P : α → Prop) (b : List Int) (hb : Bt b)
    (ho : ∀ (i : Nat) (x : α) (a' : Int), rx (i : Int) = (x, a', false) → ∃ i' : Nat, a' = i' ∧ i < i' ∧ i' ≤ b.length ∧ P x ∧ b.drop i = f x ++ b.drop i')
    (l : List α) (a' : Int) (h : rL rx b = (l, a', false)) : ∃ i' : Nat, a' = i' ∧ i' ≤ b.length ∧ (∀ x ∈ l, P x) ∧ b = nb l.length ++ l.flatMap f ++ b.drop i' := by
  obtain ⟨n, a1, bd, hr⟩ : ∃ n a1 bd, rN b 0 = (n, a1, bd) := ⟨_, _, _, rfl⟩
  unfold rL at h
  rw [hr] at h
  cases bd with
  | true => rw [if_pos (.inl rfl)] at h; simp at h
  | false =>
    obtain ⟨i1, rfl, h1, h2, h3, h4, _⟩ := rN_only b hb 0 n a1 hr
    by_cases c : (false : Bool) = true ∨ n < 0 ∨ n > (b.length : Int) - (i1 : Int)
    · rw [if_pos c] at h; simp at h
    · rw [if_neg c] at h
      obtain ⟨l2, i', h5, h6, h7, h8, h9, h10, h11⟩ := rdl_only rx f P b ho _ i1 [] l a' h2 h
      simp only [List.nil_append] at h5
      subst h5
      have e : (l.length : Int) = n := by simp only [Bool.false_eq_true, false_or, not_or] at c; rw [h6]; exact Int.toNat_of_nonneg (by omega)
      refine ⟨i', h7, h9, h10, ?_⟩
      rw [List.drop_zero] at h4
      rw [e, List.append_assoc, ← h11]; exact h4
/-! ### numbers, texts -/
theorem num_yes (b : List Int) (hb : Bt b) : ∀ (x : Int) (i : Nat) (rest : List Int), I64 x → b.drop i = nb x ++ rest → rN b (i : Int) = (x, ((i + (nb x).length : Nat) : Int), false) := fun x i rest hx h => rN_yes b hb x hx i rest h
theorem num_only (b : List Int) (hb : Bt b) : ∀ (i : Nat) (x : Int) (a' : Int), rN b (i : Int) = (x, a', false) → ∃ i' : Nat, a' = i' ∧ i < i' ∧ i' ≤ b.length ∧ I64 x ∧ b.drop i = nb x ++ b.drop i' := fun i x a' h => by
  obtain ⟨i', h1, h2, h3, h4, h5, _⟩ := rN_only b hb i x a' h
  exact ⟨i', h1, h2, h3, h4, h5⟩
theorem tb_pos (s : ByteArray) : 0 < (tb s).length := by have := nb_ne (s.size : Int); rw [tb, List.length_append]; omega
theorem txt_yes (b : List Int) (hb : Bt b) (hl : b.length < 1000000000000) : ∀ (s : ByteArray) (i : Nat) (rest : List Int), True → b.drop i = tb s ++ rest → rT b (i : Int) = (s, ((i + (tb s).length : Nat) : Int), false) := by
  intro s i rest _ h
  rw [tb, List.append_assoc] at h
  have hlen := congrArg List.length h
  simp only [List.length_drop, List.length_append, bytesOf_length] at hlen
  have h0 := nb_ne (s.size : Int)
  have h1 := rN_yes b hb (s.size : Int) ⟨by omega, by omega⟩ i _ h
  unfold rT
  rw [h1]
  rw [if_neg (by simp; omega)]
  have e1 : (((i + (nb (s.size : Int)).length : Nat) : Int) + (s.size : Int)).toNat = i + (nb (s.size : Int)).length + s.size := by omega
  have e2 : cut b ((i + (nb (s.size : Int)).length : Nat) : Int) (s.size : Int) = s := by
    unfold cut
    rw [e1, Int.toNat_natCast, List.drop_take, ← List.drop_drop, h, List.drop_left]
    rw [show i + (nb (s.size : Int)).length + s.size - (i + (nb (s.size : Int)).length) = (bytesOf s).length by rw [bytesOf_length]; omega, List.take_left, strOfNums_bytesOf]
  simp only [e2, tb, List.length_append, bytesOf_length, Prod.mk.injEq, and_true, true_and]
  omega
theorem txt_only (b : List Int) (hb : Bt b) : ∀ (i : Nat) (s : ByteArray) (a' : Int), rT b (i : Int) = (s, a', false) → ∃ i' : Nat, a' = i' ∧ i < i' ∧ i' ≤ b.length ∧ True ∧ b.drop i = tb s ++ b.drop i' := by
  intro i s a' h
  obtain ⟨n, a1, bd, hr⟩ : ∃ n a1 bd, rN b (i : Int) = (n, a1, bd) := ⟨_, _, _, rfl⟩
  unfold rT at h
  rw [hr] at h
  cases bd with
  | true => rw [if_pos (.inl rfl)] at h; simp at h
  | false =>
    obtain ⟨i1, rfl, h1, h2, h3, h4, _⟩ := rN_only b hb i n a1 hr
    by_cases c : (false : Bool) = true ∨ n < 0 ∨ n > (b.length : Int) - (i1 : Int)
    · rw [if_pos c] at h; simp at h
    · rw [if_neg c] at h
      simp only [Bool.false_eq_true, false_or, not_or] at c
      simp only [Prod.mk.injEq, and_true] at h
      obtain ⟨hs, ha⟩ := h
      obtain ⟨N, rfl⟩ := Int.eq_ofNat_of_zero_le (show 0 ≤ n by omega)
      have e1 : ((i1 : Int) + (N : Int)).toNat = i1 + N := by omega
      unfold cut at hs
      rw [e1, Int.toNat_natCast, List.drop_take, Nat.add_sub_cancel_left] at hs
      have hsz : s.size = N := by rw [← hs, strOfNums_size, List.length_take, List.length_drop]; omega
      have hby : bytesOf s = (b.drop i1).take N := by rw [← hs]; exact bytesOf_strOfNums _ (bt_take (bt_drop hb _) _)
      refine ⟨i1 + N, by omega, by omega, by omega, trivial, ?_⟩
      rw [h4, tb, hsz, hby, List.append_assoc, ← List.drop_drop, List.take_append_drop]
/-! ### NumbersOf -/
theorem numbersOf_l0 (b : List Int) (hb : Bt b) (hl : b.length < 1000000000) : ∀ (m k i at_ N : Nat) (acc : List Int), N - i = m → i ≤ N → m + 60 ≤ k → at_ ≤ b.length → acc.length + m < 17592186044416 → N < 1000000000000 →
    linkhouseref1_NumbersOf.l0 k b (N : Int) (at_ : Int) acc (i : Int) =
      some (if (rdl (rN b) m (at_ : Int) acc).2.2 = true then ([], false) else ((rdl (rN b) m (at_ : Int) acc).1, (rdl (rN b) m (at_ : Int) acc).2.1 == (b.length : Int))) := by
  intro m
  induction m with
  | zero =>
    intro k i at_ N acc h1 h2 h3 h4 h5 h6
    obtain ⟨k, rfl⟩ : ∃ q, k = q + 1 := ⟨k - 1, by omega⟩
    simp only [linkhouseref1_NumbersOf.l0, rdl]
    rw [if_neg (by omega)]; simp
  | succ m ih =>
    intro k i at_ N acc h1 h2 h3 h4 h5 h6
    obtain ⟨k, rfl⟩ : ∃ q, k = q + 1 := ⟨k - 1, by omega⟩
    have e1 : N - (i + 1) = m := by omega
    have e2 : i + 1 ≤ N := by omega
    have e3 : m + 60 ≤ k := by omega
    have e4 : acc.length + 1 + m < 17592186044416 := by omega
    obtain ⟨v, a', bd, hr⟩ : ∃ v a' bd, rN b (at_ : Int) = (v, a', bd) := ⟨_, _, _, rfl⟩
    have e : rdl (rN b) (m + 1) (at_ : Int) acc = if bd = true then ([], a', true) else rdl (rN b) m a' (acc ++ [v]) := by simp only [rdl, hr]
    rw [e]
    clear e
    have ht := taken_f b hb (by omega) at_ h4 k (by omega)
    rw [hr] at ht
    simp only [linkhouseref1_NumbersOf.l0]
    rw [if_pos (by omega), if_pos (by omega), if_pos (by omega), Int.toNat_natCast, ht]
    simp only [Option.bind_some]
    cases bd with
    | true => simp
    | false =>
      obtain ⟨i', rfl, h7, h8, h9, h10, h11⟩ := rN_only b hb at_ v a' hr
      simp only [Bool.false_eq_true, if_false]
      rw [if_neg (by omega), if_pos (by omega)]
      have w1 : wrap64 ((at_ : Int) + ((i' : Int) - (at_ : Int))) = (i' : Int) := by unfold wrap64; omega
      have w2 : wrap64 ((i : Int) + 1) = ((i + 1 : Nat) : Int) := by unfold wrap64; omega
      rw [w1, w2]
      exact ih k (i + 1) i' N (acc ++ [v]) e1 e2 e3 h8 (by rw [List.length_append, List.length_singleton]; exact e4) h6
/-- NumbersOf, off the reader's reading of the whole. -/
theorem numbersOf_f (b : List Int) (hb : Bt b) (hl : b.length < 1000000000) (k : Nat) (hk : b.length + 100 ≤ k) :
    ∃ out ok, linkhouseref1_NumbersOf.f k b = some (out, ok) ∧ ((ok = true ∧ rL (rN b) b = (out, (b.length : Int), false)) ∨ (ok = false ∧ ((rL (rN b) b).2.2 = true ∨ (rL (rN b) b).2.1 ≠ (b.length : Int)))) := by
  obtain ⟨k, rfl⟩ : ∃ q, k = q + 1 := ⟨k - 1, by omega⟩
  unfold linkhouseref1_NumbersOf.f
  have ht := taken_f b hb (by omega) 0 (by omega) (k + 1) (by omega)
  rw [List.drop_zero, show ((0 : Nat) : Int) = 0 from rfl] at ht
  rw [ht]
  simp only [Option.bind_some]
  obtain ⟨n, a1, bd, hr⟩ : ∃ n a1 bd, rN b 0 = (n, a1, bd) := ⟨_, _, _, rfl⟩
  unfold rL
  rw [hr]
  cases bd with
  | true =>
    simp only [if_true, linkhouseref1_NumbersOf.j0]
    exact ⟨[], false, rfl, .inr ⟨rfl, .inl (by simp)⟩⟩
  | false =>
    obtain ⟨i1, rfl, h1, h2, h3, h4, h5⟩ := rN_only b hb 0 n a1 hr
    simp only [Bool.false_eq_true, if_false, false_or]
    rw [if_neg (by omega)]
    by_cases c1 : n < 0
    · rw [if_pos c1]
      simp only [linkhouseref1_NumbersOf.j0, if_true]
      exact ⟨[], false, rfl, .inr ⟨rfl, .inl (by rw [if_pos (.inl c1)])⟩⟩
    · rw [if_neg c1]
      obtain ⟨N, rfl⟩ := Int.eq_ofNat_of_zero_le (show 0 ≤ n by omega)
      by_cases c2 : (N : Int) > (b.length : Int)
      · simp only [linkhouseref1_NumbersOf.j0]
        rw [decide_eq_true c2, if_pos rfl]
        exact ⟨[], false, rfl, .inr ⟨rfl, .inl (by rw [if_pos (.inr (by omega))])⟩⟩
      · simp only [linkhouseref1_NumbersOf.j0]
        rw [decide_eq_false c2, if_neg (by simp)]
        have hz : (i1 : Int) - 0 = (i1 : Int) := by omega
        rw [hz]
        have h6 := numbersOf_l0 b hb hl N k 0 i1 N [] (by omega) (by omega) (by omega) h2 (by simp; omega) (by omega)
        rw [show ((0 : Nat) : Int) = 0 from rfl] at h6
        rw [h6]
        by_cases c3 : (N : Int) < 0 ∨ (N : Int) > (b.length : Int) - (i1 : Int)
        · rw [if_pos c3]
          -- so many numbers don't fit: the reading of them goes bad
          have hbad : (rdl (rN b) N (i1 : Int) []).2.2 = true := by
            obtain ⟨o, a', bd, hq⟩ : ∃ o a' bd, rdl (rN b) N (i1 : Int) [] = (o, a', bd) := ⟨_, _, _, rfl⟩
            cases bd with
            | true => rw [hq]
            | false =>
              obtain ⟨l, i', _, _, _, h8, h9, _⟩ := rdl_only (rN b) nb I64 b (num_only b hb) N i1 [] o a' h2 hq
              omega
          rw [if_pos hbad]
          exact ⟨[], false, rfl, .inr ⟨rfl, .inl rfl⟩⟩
        · rw [if_neg c3]
          simp only [Int.toNat_natCast]
          obtain ⟨o, a', bd, hq⟩ : ∃ o a' bd, rdl (rN b) N (i1 : Int) [] = (o, a', bd) := ⟨_, _, _, rfl⟩
          rw [hq]
          cases bd with
          | true => exact ⟨[], false, rfl, .inr ⟨rfl, .inl rfl⟩⟩
          | false =>
            simp only [Bool.false_eq_true, if_false]
            by_cases e : a' = (b.length : Int)
            · subst e; exact ⟨o, true, by simp, .inl ⟨rfl, rfl⟩⟩
            · exact ⟨o, false, by rw [beq_eq_false_iff_ne.2 e], .inr ⟨rfl, .inr e⟩⟩
end Go.Proofs.Ytipjpdiianopcaa.Cp
