/- Tokens: the program's tokens of a line are the reference's. -/
import Derived.Test.YtipjpdiianopcaaDoorTr
namespace Go.Proofs.YtipjpdiianopcaaDoor.Tp
open Go.RowKit Go.Proofs.YtipjpdiianopcaaDoor.A Go.Proofs.YtipjpdiianopcaaDoor.Ct Go.Proofs.YtipjpdiianopcaaDoor.Hx Go.Proofs.YtipjpdiianopcaaW.PrintWords Go.Proofs.YtipjpdiianopcaaW.PrintLast
set_option linter.unusedVariables false
theorem signL_len (l : List UInt8) (h : signL l = true) : l.length = 1 ∨ l.length = 2 := by
  unfold signL at h
  obtain ⟨t, ht, he⟩ := List.any_eq_true.1 h
  rw [← eq_of_beq he]
  have : ∀ t ∈ sgl, t.length = 1 ∨ t.length = 2 := by decide
  exact this t ht
theorem signL_one (t : ByteArray) (h : t.size = 1) : signL t.toList = one (bc t 0) := by rw [list_one t h]; rfl
theorem signL_t2 (t : ByteArray) (h : t.size = 2) : signL t.toList = ((bc t 0 == 60 && bc t 1 == 60) || (bc t 0 == 62 && bc t 1 == 62)) := by rw [list_two t h, signL_two]
/-- What begins with a name byte is no sign. -/
theorem signL_nb (t : ByteArray) (h : nb (bt t 0) = true) : signL t.toList = false := by
  rw [Bool.eq_false_iff]
  intro hs
  have hl := signL_len _ hs
  rw [len_toList] at hl
  obtain ⟨u, v, z⟩ := (one_at t 0).2.1 h
  rcases hl with hl | hl
  · rw [signL_one t hl, u] at hs; exact absurd hs (by decide)
  · rw [signL_t2 t hl, beq_eq_false_iff_ne.2 v, beq_eq_false_iff_ne.2 z, Bool.false_and, Bool.false_and] at hs; exact absurd hs (by decide)
theorem two_nb (s : ByteArray) (h : nb (bt s 0) = true) : two s = false ∧ one (bc s 0) = false := by
  obtain ⟨u, v, z⟩ := (one_at s 0).2.1 h
  refine ⟨?_, u⟩
  unfold two
  rw [signL_two, beq_eq_false_iff_ne.2 v, beq_eq_false_iff_ne.2 z, Bool.false_and, Bool.false_and, Bool.or_false, Bool.and_false]
/-- No token is one byte that is neither sign nor name byte. -/
theorem tokR_none (t : ByteArray) (h1 : t.size = 1) (h : nb (bt t 0) = false) : tokR t = none := by
  have hx := (one_at t 0).2.2 h
  obtain ⟨c, hc, hb⟩ := bt_list t 0 (by omega)
  have e : t.data.toList.drop 1 = [] := List.drop_eq_nil_of_le (by rw [Array.length_toList]; show t.size ≤ 1; omega)
  rw [List.drop_zero, Nat.zero_add, e] at hc
  have hb : bt t 0 = (c.toNat : Int) := hb
  have hn : (numOf t).2 = false := by
    unfold numOf
    rw [if_neg (fun hp => by have := ((pre_is t).1 hp).1; omega), hc]
    unfold Go.Lib.parseUintB
    rw [if_neg (by simp), Go.Lib.parseUintM, if_neg]
    intro hd
    rw [hb, Int.toNat_natCast] at hx
    unfold hexV at hx
    rw [if_pos hd] at hx
    cases hx
  have hm : nameOk t = false := by
    unfold nameOk
    rw [h1, allNb, show bt t ((0 : Nat) : Int) = bt t 0 from rfl, h]; rfl
  unfold tokR
  rw [hn, hm]; rfl
theorem tokR_runs (t : ByteArray) (h0 : t.size = 0) : tokR t = none := by
  have hl : t.data.toList = [] := List.length_eq_zero_iff.1 (by rw [Array.length_toList]; exact h0)
  have hn : (numOf t).2 = false := by
    unfold numOf
    rw [if_neg (fun hp => by have := ((pre_is t).1 hp).1; omega), hl]; rfl
  have hm : nameOk t = false := by
    unfold nameOk
    rw [h0, show decide (1 ≤ 0) = false by decide, Bool.false_and, Bool.and_false, Bool.and_false]
  unfold tokR
  rw [hn, hm]; rfl
theorem bc_ext (x : ByteArray) (a b i : Nat) (hb : b ≤ x.size) (hi : a + i < b) : bc (x.extract a b) (i : Int) = bc x ((a + i : Nat) : Int) := by unfold bc; rw [bt_ext x a b i hb hi]
/-- How the two loops end: the same tokens, or an error at the same place. -/
def Alike (x : ByteArray) (a : Option (List S53 × Int × Int)) (b : Option (List S53 × Int)) : Prop :=
  (∃ ts : List S53, ts.length ≤ x.size ∧ a = some (ts, 0, 0) ∧ b = some (ts, -1)) ∨ (∃ q : Nat, a = some ([], 1, (q : Int)) ∧ b = some ([], (q : Int)))
theorem sp_l0 (x : ByteArray) (acc : List S53) (p k : Nat) (hp : p < x.size) : token_Split.l0 (k + 3) x acc (p : Int) = if bt x p = 59 then some (acc, 0, 0) else if bt x p = 32 ∨ bt x p = 9 then token_Split.l0 k x acc (wrap64 (p + 1)) else
    (token_next.f k (x.extract p x.size)).bind fun r => if r.2.2.2.2 = 0 then some ([], 1, (p : Int)) else if acc.length < 3518437208883 then token_Split.l0 k x (acc ++ [(⟨r.1, r.2.1, r.2.2.1, p⟩ : S53)]) (wrap64 (p + r.2.2.2.2)) else none := by
  rw [token_Split.l0, if_pos (by omega), if_pos (by omega), token_Split.j1]
  by_cases h : bt x p = 59
  · rw [if_pos h, if_neg (by rw [h]; decide)]
  · rw [if_neg h, if_pos (bne_iff_ne.2 h), if_pos (by omega), if_pos (by omega)]
    by_cases h1 : bt x p = 32
    · rw [if_pos h1, if_pos (Or.inl h1), token_Split.j2, if_pos rfl]
    · rw [if_neg h1, token_Split.j2]
      by_cases h2 : bt x p = 9
      · rw [if_pos (beq_iff_eq.2 h2), if_pos (Or.inr h2)]
      · rw [if_neg (show ¬ ((bt x p == 9) = true) from fun h => h2 (eq_of_beq h)), if_neg (show ¬ (bt x p = 32 ∨ bt x p = 9) by omega), if_pos (by omega), if_pos (by omega), Int.toNat_natCast]
theorem rf_l0 (x : ByteArray) (acc : List S53) (p k : Nat) (hp : p < x.size) : linkhouseref1_Tokens.l0 (k + 3) x acc (p : Int) = if bt x p = 59 then some (acc, -1) else if bt x p = 32 ∨ bt x p = 9 then linkhouseref1_Tokens.l0 k x acc (wrap64 (p + 1)) else linkhouseref1_Tokens.l1 k x acc p p := by
  rw [linkhouseref1_Tokens.l0, if_pos (by omega), if_pos (by omega), linkhouseref1_Tokens.j1]
  by_cases h : bt x p = 59
  · rw [if_pos h, if_neg (by rw [h]; decide)]
  · rw [if_neg h, if_pos (bne_iff_ne.2 h), if_pos (by omega), if_pos (by omega)]
    by_cases h1 : bt x p = 32
    · rw [if_pos h1, if_pos (Or.inl h1), linkhouseref1_Tokens.j2, if_pos rfl]
    · rw [if_neg h1, linkhouseref1_Tokens.j2]
      by_cases h2 : bt x p = 9
      · rw [if_pos (beq_iff_eq.2 h2), if_pos (Or.inr h2)]
      · rw [if_neg (show ¬ ((bt x p == 9) = true) from fun h => h2 (eq_of_beq h)), if_neg (show ¬ (bt x p = 32 ∨ bt x p = 9) by omega)]
theorem ws (i n : Nat) (h : i + n ≤ 1000000) : wrap64 ((i : Int) + (n : Int)) = ((i + n : Nat) : Int) := by unfold wrap64; omega
theorem lock (x : ByteArray) (hs : x.size ≤ 8000) : ∀ (d p : Nat) (acc : List S53) (k1 k2 : Nat), p + d = x.size → acc.length ≤ p → 20 * d + 30000 ≤ k1 → 20 * d + 30000 ≤ k2 →
    Alike x (token_Split.l0 k1 x acc (p : Int)) (linkhouseref1_Tokens.l0 k2 x acc (p : Int)) := by
  intro d
  induction d using Nat.strongRecOn with
  | _ d ih =>
    intro p acc k1 k2 hp ha hk1 hk2
    obtain ⟨k1, rfl⟩ : ∃ k', k1 = k' + 3 := ⟨k1 - 3, by omega⟩
    obtain ⟨k2, rfl⟩ : ∃ k', k2 = k' + 3 := ⟨k2 - 3, by omega⟩
    by_cases hd : d = 0
    · left
      refine ⟨acc, by omega, ?_, ?_⟩
      · rw [token_Split.l0, if_neg (by omega), token_Split.j1, if_neg (by decide)]
      · rw [linkhouseref1_Tokens.l0, if_neg (by omega), linkhouseref1_Tokens.j1, if_neg (by decide)]
    rewrite [sp_l0 x acc p k1 (by omega), rf_l0 x acc p k2 (by omega)]
    by_cases h59 : bt x p = 59
    · rw [if_pos h59, if_pos h59]
      exact Or.inl ⟨acc, by omega, rfl, rfl⟩
    rewrite [if_neg h59, if_neg h59]
    by_cases hw : bt x p = 32 ∨ bt x p = 9
    · rw [if_pos hw, if_pos hw, ws1 p (by omega)]
      exact ih (d - 1) (by omega) (p + 1) acc k1 k2 (by omega) (by omega) (by omega) (by omega)
    rewrite [if_neg hw, if_neg hw]
    -- a token at p
    have step : ∀ (n : Nat) (kd : Int) (tx : ByteArray) (v : Int) (k3 : Nat), 1 ≤ n → n ≤ d → k2 ≤ k3 + n + 10 →
        Alike x (if ((n : Nat) : Int) = 0 then some ([], 1, (p : Int)) else if acc.length < 3518437208883 then token_Split.l0 k1 x (acc ++ [(⟨kd, tx, v, p⟩ : S53)]) (wrap64 (p + ((n : Nat) : Int))) else none)
          (if acc.length < 3518437208883 then linkhouseref1_Tokens.l0 k3 x (acc ++ [(⟨kd, tx, v, p⟩ : S53)]) ((p + n : Nat) : Int) else none) := by
      intro n kd tx v k3 h1 h2 h3
      rewrite [if_neg (by omega), if_pos (by omega), if_pos (by omega), ws p n (by omega)]
      exact ih (d - n) (by omega) (p + n) _ k1 k3 (by omega) (by rw [List.length_append, List.length_singleton]; omega) (by omega) (by omega)
    generalize hy : x.extract p x.size = s
    have hss : s.size = d := by rw [← hy, ext_size x p x.size (Nat.le_refl _)]; omega
    have hb0 : bt s 0 = bt x p := by rw [← hy]; exact bt_ext x p x.size 0 (Nat.le_refl _) (by omega)
    have hc0 : bc s 0 = bc x p := by unfold bc; rw [hb0]
    have hse : ∀ n, n ≤ d → s.extract 0 n = x.extract p (p + n) := fun n hn => by rw [← hy]; exact ext_ext x p n (by omega)
    obtain ⟨k4, hk4, hk4', e⟩ := tokens_l1 x (by omega) acc p d k2 p (by omega) (by omega)
    have e' : linkhouseref1_Tokens.l1 k2 x acc (p : Int) (p : Int) = linkhouseref1_Tokens.j4 k4 x acc (p : Int) ((runE x d p : Nat) : Int) := e
    rewrite [e']
    have hr := runE_le x d p
    obtain ⟨k4, rfl⟩ : ∃ k', k4 = k' + 2 := ⟨k4 - 2, by omega⟩
    rewrite [linkhouseref1_Tokens.j4]
    by_cases hn : nb (bt x p) = true
    · -- a run
      have hsh : p + runE s s.size 0 = runE x d p := by
        rw [← hy]
        have h := runE_shift x p d 0 (by omega)
        rw [show (x.extract p x.size).size = d by rw [hy]; exact hss]
        exact h
      have hgt : p < runE x d p := by
        obtain ⟨d', rfl⟩ : ∃ d', d = d' + 1 := ⟨d - 1, by omega⟩
        rw [runE, if_pos hn]
        have := runE_le x d' (p + 1)
        omega
      obtain ⟨n, hn1⟩ : ∃ n, n = runE s s.size 0 := ⟨_, rfl⟩
      have hrn : runE x d p = p + n := by omega
      have h2 := two_nb s (by rw [hb0]; exact hn)
      rewrite [hrn, if_neg (show ¬ ((p + n : Nat) : Int) = (p : Int) by omega), if_pos (show (0 : Int) ≤ (p : Int) by omega), if_pos (show (p : Int) ≤ ((p + n : Nat) : Int) by omega), if_pos (show ((p + n : Nat) : Int) ≤ (x.size : Int) by omega), Int.toNat_natCast, Int.toNat_natCast]
      rewrite [next_run s (by omega) (by omega) h2.1 h2.2 k1 (by omega), ← hn1, hse n (by omega), Option.bind_some]
      have hts : (x.extract p (p + n)).size = n := by rw [ext_size x p (p + n) (by omega)]; omega
      rewrite [tokenOf_run (x.extract p (p + n)) (by omega) (signL_nb _ (by rw [show bt (x.extract p (p + n)) 0 = bt x p from bt_ext x p (p + n) 0 (by omega) (by omega)]; exact hn)) (k4 + 1) (by omega), Option.bind_some]
      cases tokR (x.extract p (p + n)) with
      | none => exact Or.inr ⟨p, rfl, rfl⟩
      | some r => exact step n r.1 r.2.1 r.2.2 (k4 + 1) (by omega) (by omega) (by omega)
    · -- no name byte
      have hn := Bool.eq_false_iff.2 hn
      have hre : runE x d p = p := by
        obtain ⟨d', rfl⟩ : ∃ d', d = d' + 1 := ⟨d - 1, by omega⟩
        rw [runE, if_neg (by rw [hn]; decide)]
      rewrite [hre, if_pos (show ((p : Nat) : Int) = (p : Int) from rfl)]
      rewrite [show wrap64 ((p : Int) + 2) = ((p + 2 : Nat) : Int) from ws p 2 (by omega)]
      rewrite [ws1 p (by omega)]
      have key : (if ((p + 2 : Nat) : Int) ≤ (x.size : Int) then (if 0 ≤ (p : Int) then (if (p : Int) ≤ ((p + 2 : Nat) : Int) then ((linkhouseref1_Sign.f (k4 + 1) (x.extract (p : Int).toNat (((p + 2 : Nat) : Int)).toNat)).bind fun t213 => (linkhouseref1_Tokens.j5 (k4 + 1) x acc p ((p + 1 : Nat) : Int) t213)) else (none)) else (none)) else (linkhouseref1_Tokens.j5 (k4 + 1) x acc p ((p + 1 : Nat) : Int) false)) = linkhouseref1_Tokens.j5 (k4 + 1) x acc p ((p + 1 : Nat) : Int) (two s) := by
        unfold two
        rw [hss]
        by_cases h2 : 2 ≤ d
        · have hz : (x.extract p (p + 2)).size = 2 := by rw [ext_size x p (p + 2) (by omega)]; omega
          rw [if_pos (by omega), if_pos (by omega), if_pos (by omega), Int.toNat_natCast, Int.toNat_natCast, sign_f _ _ (by omega), Option.bind_some, decide_eq_true h2, Bool.true_and]
          congr 1
          rw [list_two _ hz, ← hy]
          rw [show bc (x.extract p (p + 2)) 0 = bc x ((p + 0 : Nat) : Int) from bc_ext x p (p + 2) 0 (by omega) (by omega), show bc (x.extract p (p + 2)) 1 = bc x ((p + 1 : Nat) : Int) from bc_ext x p (p + 2) 1 (by omega) (by omega), show bc (x.extract p x.size) 0 = bc x ((p + 0 : Nat) : Int) from bc_ext x p x.size 0 (by omega) (by omega), show bc (x.extract p x.size) 1 = bc x ((p + 1 : Nat) : Int) from bc_ext x p x.size 1 (by omega) (by omega)]
        · rw [if_neg (by omega), decide_eq_false h2, Bool.false_and]
      rewrite [key, linkhouseref1_Tokens.j5]
      by_cases h2 : two s = true
      · have h2d : 2 ≤ d := by
          unfold two at h2
          rw [hss, Bool.and_eq_true, decide_eq_true_eq] at h2
          exact h2.1
        have hz : (x.extract p (p + 2)).size = 2 := by rw [ext_size x p (p + 2) (by omega)]; omega
        have hsg : signL (x.extract p (p + 2)).toList = true := by
          unfold two at h2
          rw [Bool.and_eq_true] at h2
          rw [list_two _ hz, ← h2.2, ← hy]
          rw [show bc (x.extract p (p + 2)) 0 = bc x ((p + 0 : Nat) : Int) from bc_ext x p (p + 2) 0 (by omega) (by omega), show bc (x.extract p (p + 2)) 1 = bc x ((p + 1 : Nat) : Int) from bc_ext x p (p + 2) 1 (by omega) (by omega), show bc (x.extract p x.size) 0 = bc x ((p + 0 : Nat) : Int) from bc_ext x p x.size 0 (by omega) (by omega), show bc (x.extract p x.size) 1 = bc x ((p + 1 : Nat) : Int) from bc_ext x p x.size 1 (by omega) (by omega)]
        rewrite [if_pos h2, if_pos (by omega), show wrap64 ((p : Int) + 2) = ((p + 2 : Nat) : Int) from ws p 2 (by omega), if_pos (by omega), if_pos (by omega), Int.toNat_natCast, Int.toNat_natCast, tokenOf_sign _ hsg k4 (by omega), Option.bind_some, if_pos rfl]
        rewrite [next_sign s (x.extract p (p + 2)) (by omega) k1 (by omega) (by rw [if_pos h2]; exact hse 2 h2d) (by omega), Option.bind_some, hz]
        exact step 2 3 (x.extract p (p + 2)) 0 k4 (by omega) (by omega) (by omega)
      · have hz : (x.extract p (p + 1)).size = 1 := by rw [ext_size x p (p + 1) (by omega)]; omega
        have hbz : bt (x.extract p (p + 1)) 0 = bt x p := bt_ext x p (p + 1) 0 (by omega) (by omega)
        have hcz : bc (x.extract p (p + 1)) 0 = bc x p := by unfold bc; rw [hbz]
        rewrite [if_neg h2, if_pos (by omega), if_pos (by omega), if_pos (by omega), Int.toNat_natCast, Int.toNat_natCast]
        by_cases h1 : one (bc s 0) = true
        · have hsg : signL (x.extract p (p + 1)).toList = true := by rw [signL_one _ hz, hcz, ← hc0]; exact h1
          rewrite [tokenOf_sign _ hsg k4 (by omega), Option.bind_some, if_pos rfl]
          rewrite [next_sign s (x.extract p (p + 1)) (by omega) k1 (by omega) (by rw [if_neg h2, if_pos h1]; exact hse 1 (by omega)) (by omega), Option.bind_some, hz]
          exact step 1 3 (x.extract p (p + 1)) 0 k4 (by omega) (by omega) (by omega)
        · have h1 := Bool.eq_false_iff.2 h1
          have hsg : signL (x.extract p (p + 1)).toList = false := by rw [signL_one _ hz, hcz, ← hc0]; exact h1
          have hrs : runE s s.size 0 = 0 := by
            rw [hss]
            obtain ⟨d', rfl⟩ : ∃ d', d = d' + 1 := ⟨d - 1, by omega⟩
            rw [runE, show bt s ((0 : Nat) : Int) = bt s 0 from rfl, hb0, if_neg (by rw [hn]; decide)]
          have hz0 : (s.extract 0 0).size = 0 := by rw [ext_size s 0 0 (by omega)]
          rewrite [tokenOf_run _ (by omega) hsg k4 (by omega), tokR_none _ hz (by rw [hbz]; exact hn), Option.bind_some]
          rewrite [next_run s (by omega) (by omega) (Bool.eq_false_iff.2 h2) h1 k1 (by omega), hrs, tokR_runs _ hz0, Option.bind_some]
          exact Or.inr ⟨p, rfl, rfl⟩
theorem same_l0 (ts : List S53) (hs : ts.length ≤ 1000000) : ∀ (d k i : Nat), i + d = ts.length → d < k → linkhouseref1_SameTokens.l0 k ts ts true (i : Int) = some true := by
  intro d
  induction d with
  | zero =>
    intro k i hi hk
    obtain ⟨k, rfl⟩ : ∃ k', k = k' + 1 := ⟨k - 1, by omega⟩
    rw [linkhouseref1_SameTokens.l0, if_neg (by omega)]
  | succ d ih =>
    intro k i hi hk
    obtain ⟨k, rfl⟩ : ∃ k', k = k' + 1 := ⟨k - 1, by omega⟩
    rw [linkhouseref1_SameTokens.l0, if_pos (by omega), if_pos (by omega), if_pos (by omega), if_pos rfl, if_pos rfl, if_pos rfl, if_pos rfl, if_pos rfl, ws1 i (by omega)]
    exact ih k (i + 1) (by omega) (by omega)
theorem same_f (ts : List S53) (hs : ts.length ≤ 1000000) (k : Nat) (hk : ts.length < k) : linkhouseref1_SameTokens.f k ts ts true = some true := by
  rw [linkhouseref1_SameTokens.f, if_pos rfl]
  exact same_l0 ts hs ts.length k 0 (by omega) hk
end Go.Proofs.YtipjpdiianopcaaDoor.Tp
