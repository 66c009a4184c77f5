/- The readers of package codec: Number (off its printed contract), Text, Read at ints and strings, Get and GetText, each by its contract. -/
import Derived.Test.YtipjpdiianopcaaAx1
import Derived.Laws.Bits64
import Derived.Laws.BitsAllLaws
namespace Go.Proofs.Ytipjpdiianopcaa.Cr
open Go.RowKit Go.Proofs.YtipjpdiianopcaaW.PrintWords Go.Proofs.YtipjpdiianopcaaW.PrintLast Go.Proofs.YtipjpdiianopcaaW.PrintMore Go.Proofs.Ytipjpdiianopcaa.A
set_option linter.unusedVariables false
set_option linter.unusedSimpArgs false

/-- A number's value out of the bits that were read. -/
def unz (u : Int) : Int := Go.bits .xor .i64 (wrap64 (u / 2)) (wrap64 (-(wrap64 (Go.bits .and .u64 u 1))))
/-- The bits with seven more. -/
def more (u c sh : Int) : Int := Go.bits .or .u64 u (shl .u64 (IntKind.u64.wrap (Go.bits .and .u8 c 127)) sh)
/-- Reading a number: the value, the new position, whether it was bad. m: how many rounds may come. -/
def pn : Nat → Int → Int → List Int → Int → Int × Int × Bool
  | 0, _, _, _, at_ => (0, at_, true)
  | m + 1, u, sh, b, at_ =>
    if at_ ≥ (b.length : Int) then (0, at_, true)
    else if (sh = 63 ∧ rd b at_ > 1) ∨ (sh > 0 ∧ rd b at_ = 0) then (0, at_ + 1, true)
    else if rd b at_ < 128 then (unz (more u (rd b at_) sh), at_ + 1, false)
    else pn m (more u (rd b at_) sh) (sh + 7) b (at_ + 1)

theorem l0_pn (b : List Int) (hb : b.length ≤ 4611686018427387904) : ∀ (m k : Nat) (u sh at_ : Int), 0 < m → 3 * m < k → sh = 70 - 7 * m → 0 ≤ sh → 0 ≤ at_ → at_ ≤ b.length →
    codec_Reader_Number.l0 k u sh b at_ false = some (pn m u sh b at_)
  | 0, _, _, _, _, h, _, _, _, _, _ => by omega
  | m + 1, k, u, sh, at_, hm, hk, hs, h0, h1, h2 => by
    obtain ⟨k, rfl⟩ : ∃ q, k = q + 3 := ⟨k - 3, by omega⟩
    have w1 : wrap64 (at_ + 1) = at_ + 1 := by unfold wrap64; omega
    have w2 : wrap64 (at_ + 1 - 1) = at_ := by unfold wrap64; omega
    by_cases c : at_ ≥ (b.length : Int)
    · simp only [codec_Reader_Number.l0, codec_Reader_Number.j1, codec_Reader_Number.j2, codec_Reader_next.f, pn, if_pos c, Bool.false_eq_true, if_false, Option.bind_some]
      split <;> (try split) <;> (try split) <;> simp_all
    · simp only [pn, if_neg c]
      have e : codec_Reader_next.f b at_ false = some (rd b at_, at_ + 1, false) := by
        simp only [codec_Reader_next.f, Bool.false_eq_true, if_false, if_neg c, w1, w2]
        rw [if_pos h1, if_pos (by omega)]
      simp only [codec_Reader_Number.l0, e, Option.bind_some]
      by_cases c1 : (sh = 63 ∧ rd b at_ > 1) ∨ (sh > 0 ∧ rd b at_ = 0)
      · rw [if_pos c1]
        by_cases c63 : sh = 63
        · rw [if_pos c63]
          by_cases c2 : rd b at_ > 1
          · rw [if_pos c2]; simp [codec_Reader_Number.j1, codec_Reader_Number.j2]
          · rw [if_neg c2, if_pos (by omega)]
            have : rd b at_ = 0 := by omega
            simp [codec_Reader_Number.j1, codec_Reader_Number.j2, this]
        · rw [if_neg c63, if_pos (by omega)]
          have : rd b at_ = 0 := by omega
          simp [codec_Reader_Number.j1, codec_Reader_Number.j2, this]
      · rw [if_neg c1]
        have j : ∀ f, f = false → codec_Reader_Number.j1 (k + 2) u sh (rd b at_) f b (at_ + 1) false = some (if rd b at_ < 128 then (unz (more u (rd b at_) sh), at_ + 1, false) else pn m (more u (rd b at_) sh) (sh + 7) b (at_ + 1)) := by
          rintro f rfl
          simp only [codec_Reader_Number.j1, codec_Reader_Number.j2, Bool.false_eq_true, if_false, if_pos h0]
          by_cases c3 : rd b at_ < 128
          · rw [if_pos c3, if_pos c3]; rfl
          · rw [if_neg c3, if_neg c3]
            have w3 : wrap64 (sh + 7) = sh + 7 := by unfold wrap64; omega
            rw [w3]
            rcases Nat.eq_zero_or_pos m with hm0 | hm0
            · exfalso; subst hm0; omega
            · exact l0_pn b hb m k _ _ _ hm0 (by omega) (by omega) (by omega) (by omega) (by omega)
        by_cases c63 : sh = 63
        · rw [if_pos c63, if_neg (by omega)]
          by_cases c4 : sh > 0
          · rw [if_pos c4]; exact j _ (by simp; omega)
          · rw [if_neg c4]; exact j _ rfl
        · rw [if_neg c63]
          by_cases c4 : sh > 0
          · rw [if_pos c4]; exact j _ (by simp; omega)
          · rw [if_neg c4]; exact j _ rfl
/-- A number at a position. -/
def rN (b : List Int) (at_ : Int) : Int × Int × Bool := pn 10 0 0 b at_
theorem rN_f (b : List Int) (at_ : Int) (hb : b.length ≤ 4611686018427387904) (h0 : 0 ≤ at_) (h1 : at_ ≤ b.length) : codec_Reader_Number.f 40 b at_ false = some (rN b at_) :=
  l0_pn b hb 10 40 0 0 at_ (by omega) (by omega) (by omega) (by omega) h0 h1
theorem bad_f (b : List Int) (at_ : Int) : codec_Reader_Number.f 40 b at_ true = some (0, at_, true) := by
  unfold codec_Reader_Number.f
  simp [codec_Reader_Number.l0, codec_Reader_Number.j1, codec_Reader_Number.j2, codec_Reader_next.f]
theorem pn_at (b : List Int) : ∀ (m : Nat) (u sh at_ : Int), at_ ≤ b.length → at_ ≤ (pn m u sh b at_).2.1 ∧ (pn m u sh b at_).2.1 ≤ b.length
  | 0, _, _, at_, h => ⟨Int.le_refl _, h⟩
  | m + 1, u, sh, at_, h => by
    unfold pn
    split
    · exact ⟨Int.le_refl _, h⟩
    · split
      · exact ⟨by show at_ ≤ at_ + 1; omega, by show at_ + 1 ≤ _; omega⟩
      · split
        · exact ⟨by show at_ ≤ at_ + 1; omega, by show at_ + 1 ≤ _; omega⟩
        · have := pn_at b m (more u (rd b at_) sh) (sh + 7) (at_ + 1) (by omega)
          omega

/-- The bytes from a position on, as a string. -/
def cut (b : List Int) (lo n : Int) : ByteArray := strOfNums ((b.take (lo + n).toNat).drop lo.toNat)
/-- A string at a position. -/
def rT (b : List Int) (at_ : Int) : ByteArray × Int × Bool :=
  if (rN b at_).2.2 = true ∨ (rN b at_).1 < 0 ∨ (rN b at_).1 > (b.length : Int) - (rN b at_).2.1 then (⟨#[]⟩, (rN b at_).2.1, true)
  else (cut b (rN b at_).2.1 (rN b at_).1, (rN b at_).2.1 + (rN b at_).1, false)

set_option maxHeartbeats 8000000 in
set_option maxRecDepth 100000 in
theorem text_of (g : Nat) (b : List Int) (at_ : Int) (bad : Bool) (n a1 : Int) (b1 : Bool) (s : ByteArray) (a2 : Int) (b2 : Bool) (w0 w : World) (hI : IsS95 w0 w g b at_ bad) (hB : Below w0.heap.size w0 w) (hlen : b.length ≤ 1000000)
    (hf : codec_Reader_Number.f 40 b at_ bad = some (n, a1, b1)) (h0 : 0 ≤ a1) (h1 : a1 ≤ b.length)
    (hs : (s, a2, b2) = if b1 = true ∨ n < 0 ∨ n > (b.length : Int) - a1 then (⟨#[]⟩, a1, true) else (cut b a1 n, a1 + n, false)) :
    Calls Try.prog 65 #[.pointer (some ⟨g, 0, none⟩)] w fun e w' => e = .returned (.string s) ∧ IsS95 w0 w' g b a2 b2 ∧ Below w0.heap.size w0 w' ∧ KeepBut w w' g none := by
  have HI := Aside0.mk hI
  have HB := Aside0.mk hB
  have HF := Aside0.mk hf
  have HS := Aside0.mk hs
  have HLEN := Aside0.mk hlen
  clear hI hB hf hs hlen
  go_enter Try.func65, Try.ntmps65
  by_cases c1 : n < 0
  · have c1b : decide (n < 0) = true := decide_eq_true c1
    have hs := HS.out
    rw [if_pos (.inr (.inl c1))] at hs
    simp only [Prod.mk.injEq] at hs
    obtain ⟨rfl, rfl, rfl⟩ := hs
    go_wp2_with (first | (go_at_call 62; refine (codec_Reader_Number.calls 40 g b at_ bad _ _ _ w0 _ HI.out HB.out HF.out).mono ?_; rintro e w1 ⟨rfl, hi, hb, hk⟩; have HI1 := Aside0.mk hi; have HB1 := Aside0.mk hb; have HK1 := Aside0.mk hk; obtain ⟨A0, c0, HG, hgg, HC0⟩ := hi; have hc0 := cellS95_0 HG; have hc1 := cellS95_1 HG; have hc2 := cellS95_2 HG; have hf2 := blk_frozen HG 2; have hf1 := blk_frozen HG 1; have HCC := Aside0.mk HC0; have HGG := Aside0.mk HG; clear HG HC0 hb hk))
    go_quiet (fail)
    go_wp2
    go_ret
    exact ⟨rfl, IsS95.set_2 (IsS95.drewN HI1.out _) true, below_set (pw_below_drewN HB1.out _) hgg, (keep_drewN HK1.out _).set_ 2 _⟩
  · have c1b : decide (n < 0) = false := decide_eq_false c1
    have hw : wrap64 ((b.length : Int) - a1) = (b.length : Int) - a1 := by have := HLEN.out; unfold wrap64; omega
    by_cases c2 : n > (b.length : Int) - a1
    · have c2b : decide ((b.length : Int) - a1 < n) = true := decide_eq_true c2
      have hs := HS.out
      rw [if_pos (.inr (.inr c2))] at hs
      simp only [Prod.mk.injEq] at hs
      obtain ⟨rfl, rfl, rfl⟩ := hs
      clear c2
      go_wp2_with (first | (go_at_call 62; refine (codec_Reader_Number.calls 40 g b at_ bad _ _ _ w0 _ HI.out HB.out HF.out).mono ?_; rintro e w1 ⟨rfl, hi, hb, hk⟩; have HI1 := Aside0.mk hi; have HB1 := Aside0.mk hb; have HK1 := Aside0.mk hk; obtain ⟨A0, c0, HG, hgg, HC0⟩ := hi; have hc0 := cellS95_0 HG; have hc1 := cellS95_1 HG; have hc2 := cellS95_2 HG; have hf2 := blk_frozen HG 2; have hf1 := blk_frozen HG 1; have HCC := Aside0.mk HC0; have HGG := Aside0.mk HG; clear HG HC0 hb hk))
      go_quiet (fail)
      go_wp2
      go_ret
      exact ⟨rfl, IsS95.set_2 (IsS95.drewN HI1.out _) true, below_set (pw_below_drewN HB1.out _) hgg, (keep_drewN HK1.out _).set_ 2 _⟩
    · have c2b : decide ((b.length : Int) - a1 < n) = false := decide_eq_false c2
      have hs := HS.out
      cases b1 with
      | true =>
        rw [if_pos (.inl rfl)] at hs
        simp only [Prod.mk.injEq] at hs
        obtain ⟨rfl, rfl, rfl⟩ := hs
        clear c2
        go_wp2_with (first | (go_at_call 62; refine (codec_Reader_Number.calls 40 g b at_ bad _ _ _ w0 _ HI.out HB.out HF.out).mono ?_; rintro e w1 ⟨rfl, hi, hb, hk⟩; have HI1 := Aside0.mk hi; have HB1 := Aside0.mk hb; have HK1 := Aside0.mk hk; obtain ⟨A0, c0, HG, hgg, HC0⟩ := hi; have hc0 := cellS95_0 HG; have hc1 := cellS95_1 HG; have hc2 := cellS95_2 HG; have hf2 := blk_frozen HG 2; have hf1 := blk_frozen HG 1; have HCC := Aside0.mk HC0; have HGG := Aside0.mk HG; clear HG HC0 hb hk))
        go_quiet (fail)
        go_wp2
        go_ret
        exact ⟨rfl, IsS95.drewN HI1.out _, pw_below_drewN HB1.out _, keep_drewN HK1.out _⟩
      | false =>
        rw [if_neg (by simp; omega)] at hs
        simp only [Prod.mk.injEq] at hs
        obtain ⟨rfl, rfl, rfl⟩ := hs
        have p1 : 0 ≤ n := by omega
        have p2 : n ≤ 1000000 := by have := HLEN.out; omega
        have p3 : a1 ≤ 1000000 := by have := HLEN.out; omega
        have p4 : a1 + n ≤ b.length := by omega
        clear c2
        go_wp2_with (first | (go_at_call 62; refine (codec_Reader_Number.calls 40 g b at_ bad _ _ _ w0 _ HI.out HB.out HF.out).mono ?_; rintro e w1 ⟨rfl, hi, hb, hk⟩; have HI1 := Aside0.mk hi; have HB1 := Aside0.mk hb; have HK1 := Aside0.mk hk; obtain ⟨A0, c0, HG, hgg, HC0⟩ := hi; have hc0 := cellS95_0 HG; have hc1 := cellS95_1 HG; have hc2 := cellS95_2 HG; have hf2 := blk_frozen HG 2; have hf1 := blk_frozen HG 1; have HCC := Aside0.mk HC0; have HGG := Aside0.mk HG; clear HG HC0 hb hk))
        go_quiet (fail)
        go_wp2
        have hG2 := blk_put (blk_drewN HGG.out nq) 1 (.int .i64 (a1 + n)) rfl
        have HI2 := Aside0.mk (IsS95.set_1 (IsS95.drewN HI1.out nq) (a1 + n))
        have HB2 := Aside0.mk (below_set (j := 1) (v := .int .i64 (a1 + n)) (pw_below_drewN HB1.out nq) hgg)
        have HK2 := Aside0.mk ((keep_drewN HK1.out nq).set_ 1 (.int .i64 (a1 + n)))
        generalize (w1.drewN nq).setCell ⟨g, 1, none⟩ (.int .i64 (a1 + n)) = W2 at hG2 HI2 HB2 HK2 ⊢
        clear hc0 hc1 hc2 hf1 hf2
        have hd0 := cellS95_0 hG2
        have hd1 := cellS95_1 hG2
        obtain ⟨i5, hi5, hz5⟩ := Option.map_eq_some_iff.1 info5
        simp only [Prod.mk.injEq] at hz5
        obtain ⟨A', hsl, hrd, hcl⟩ := print_mid_int (P := Try.prog) (k := .u8) 25 5 Try.underlying25 hi5 hz5.2.1 A0 c0 b a1 (a1 + n) h0 (by omega) p4 HCC.out.2
        have hC2 : (Kd.int .u8).C W2 A0 b.length b := Kd.C_below HCC.out.1 HB2.out
        have hcv : ∀ m, (convert 25 9 (.slice A' ((b.take (a1 + n).toNat).drop a1.toNat).length (c0 - a1.toNat))).run Try.prog (W2.drewN m) = .ok (.string (strOfNums ((b.take (a1 + n).toNat).drop a1.toNat))) (W2.drewN m) := fun m =>
          Kd.C_string (P := Try.prog) Try.underlying25 Try.underlying5 Try.underlying9 (Kd.C_of_reads (d := (0 : Int)) (h1 := fun _ => rfl) (hrd _ (Kd.reads_of_C (Kd.C_drewN hC2 m))))
        have hwr : IntKind.i64.wrap a1 = a1 := by rw [IntKind.wrap_i64]; omega
        obtain ⟨L, hL⟩ : ∃ L, L = ((b.take (a1 + n).toNat).drop a1.toNat).length := ⟨_, rfl⟩
        obtain ⟨S, hS⟩ : ∃ S, S = strOfNums ((b.take (a1 + n).toNat).drop a1.toNat) := ⟨_, rfl⟩
        rw [← hL] at hsl
        rw [← hL, ← hS] at hcv
        have HSS := Aside0.mk hS
        clear hG2 hi5 hz5 hrd hcl hC2 hL hS
        go_quiet (fail)
        go_wp2
        go_ret
        exact ⟨by rw [HSS.out]; rfl, IsS95.drewN HI2.out _, pw_below_drewN HB2.out _, keep_drewN HK2.out _⟩

/-- Reading n values, one behind the other; a bad one ends it. -/
def rdl {α : Type} (rx : Int → α × Int × Bool) : Nat → Int → List α → List α × Int × Bool
  | 0, at_, acc => (acc, at_, false)
  | n + 1, at_, acc => if (rx at_).2.2 = true then ([], (rx at_).2.1, true) else rdl rx n (rx at_).2.1 (acc ++ [(rx at_).1])
/-- Reading a list. -/
def rL {α : Type} (rx : Int → α × Int × Bool) (b : List Int) : List α × Int × Bool :=
  if (rN b 0).2.2 = true ∨ (rN b 0).1 < 0 ∨ (rN b 0).1 > (b.length : Int) - (rN b 0).2.1 then ([], (rN b 0).2.1, true) else rdl rx (rN b 0).1.toNat (rN b 0).2.1 []

theorem rN_at (b : List Int) (a : Int) (h0 : 0 ≤ a) (h1 : a ≤ b.length) : a ≤ (rN b a).2.1 ∧ (rN b a).2.1 ≤ b.length := pn_at b 10 0 0 a h1
theorem rT_at (b : List Int) (a : Int) (h0 : 0 ≤ a) (h1 : a ≤ b.length) : a ≤ (rT b a).2.1 ∧ (rT b a).2.1 ≤ b.length := by
  have h := rN_at b a h0 h1
  unfold rT
  split
  · exact h
  · rename_i hc
    simp only [not_or] at hc
    show a ≤ (rN b a).2.1 + (rN b a).1 ∧ (rN b a).2.1 + (rN b a).1 ≤ b.length
    omega
theorem text_good (g : Nat) (b : List Int) (a : Int) (s : ByteArray) (a2 : Int) (b2 : Bool) (w0 w : World) (hI : IsS95 w0 w g b a false) (hB : Below w0.heap.size w0 w) (hlen : b.length ≤ 1000000) (h0 : 0 ≤ a) (h1 : a ≤ b.length) (hx : rT b a = (s, a2, b2)) :
    Calls Try.prog 65 #[.pointer (some ⟨g, 0, none⟩)] w fun e w' => e = .returned (.string s) ∧ IsS95 w0 w' g b a2 b2 ∧ Below w0.heap.size w0 w' ∧ KeepBut w w' g none := by
  have h := rN_at b a h0 h1
  refine text_of g b a false (rN b a).1 (rN b a).2.1 (rN b a).2.2 s a2 b2 w0 w hI hB hlen (rN_f b a (by omega) h0 h1) (by omega) h.2 ?_
  rw [← hx]
  rfl
theorem text_bad (g : Nat) (b : List Int) (a : Int) (w0 w : World) (hI : IsS95 w0 w g b a true) (hB : Below w0.heap.size w0 w) (hlen : b.length ≤ 1000000) (h0 : 0 ≤ a) (h1 : a ≤ b.length) :
    Calls Try.prog 65 #[.pointer (some ⟨g, 0, none⟩)] w fun e w' => e = .returned (.string ⟨#[]⟩) ∧ IsS95 w0 w' g b a true ∧ Below w0.heap.size w0 w' ∧ KeepBut w w' g none :=
  text_of g b a true 0 a true ⟨#[]⟩ a true w0 w hI hB hlen (bad_f b a) h0 h1 (by rw [if_pos (.inl rfl)])

set_option maxHeartbeats 8000000 in
set_option maxRecDepth 100000 in
theorem readInt (g : Nat) (b : List Int) (w0 w : World) (hI : IsS95 w0 w g b 0 false) (hB : Below w0.heap.size w0 w) (hlen : b.length ≤ 1000000) :
    Calls Try.prog 61 #[.pointer (some ⟨g, 0, none⟩), .func (.func 62) #[.pointer (some ⟨g, 0, none⟩)] #[]] w fun e w' => ∃ v_ : Value, e = .returned v_ ∧ Kd.R (Kd.int .i64) 3 w' w0.heap.size (fun k => k ≠ g) v_ (rL (rN b) b).1 ∧
      IsS95 w0 w' g b (rL (rN b) b).2.1 (rL (rN b) b).2.2 ∧ Below w0.heap.size w0 w' := by
  have HI := Aside0.mk hI
  have HB := Aside0.mk hB
  have HLEN := Aside0.mk hlen
  have h0 := (pn_at b 10 0 0 0 (by omega)).1
  have h1 := (pn_at b 10 0 0 0 (by omega)).2
  have hf := rN_f b 0 (by omega) (by omega) (by omega)
  obtain ⟨n, a1, b1, hr⟩ : ∃ n a1 b1, rN b 0 = (n, a1, b1) := ⟨_, _, _, rfl⟩
  have hr2 : pn 10 0 0 b 0 = (n, a1, b1) := hr
  rw [hr2] at h0 h1
  rw [hr] at hf
  have hres : rL (rN b) b = if b1 = true ∨ n < 0 ∨ n > (b.length : Int) - a1 then ([], a1, true) else rdl (rN b) n.toNat a1 [] := by unfold rL; rw [hr]
  obtain ⟨rl, ra, rb, hfin⟩ : ∃ rl ra rb, rL (rN b) b = (rl, ra, rb) := ⟨_, _, _, rfl⟩
  rw [hfin]
  rw [hfin] at hres
  have HF := Aside0.mk hf
  have HRES := Aside0.mk hres
  have h0' : 0 ≤ a1 := h0
  have h1' : a1 ≤ b.length := h1
  clear hI hB hf hr hr2 hres hfin hlen h0 h1
  go_enter Try.func61, Try.ntmps61
  go_upto_region 2 with (first | (go_at_call 62; refine (codec_Reader_Number.calls 40 g b 0 false _ _ _ w0 _ HI.out HB.out HF.out).mono ?_; rintro e w1 ⟨rfl, hi, hb, hk⟩; have HI1 := Aside0.mk hi; have HB1 := Aside0.mk hb; obtain ⟨A0, c0, HG, hgg, HC0⟩ := hi; have hc0 := cellS95_0 HG; have hc1 := cellS95_1 HG; clear HG HC0 hb hk))
  go_cut [25] (fun v25 wc => ∃ b3 : Bool, v25 = .bool b3 ∧ Aside0 (b3 = true ↔ n < 0 ∨ n > (b.length : Int) - a1) ∧ Aside0 (IsS95 w0 wc g b a1 b1) ∧ Aside0 (Below w0.heap.size w0 wc))
  case first =>
    by_cases c1 : n < 0
    · have c1b : decide (n < 0) = true := decide_eq_true c1
      go_quiet (fail)
      go_wp2
      go_meet
      case rel => exact ⟨true, rfl, ⟨by simp [c1]⟩, ⟨IsS95.drewN HI1.out _⟩, ⟨pw_below_drewN HB1.out _⟩⟩
    · have c1b : decide (n < 0) = false := decide_eq_false c1
      have hw : wrap64 ((b.length : Int) - a1) = (b.length : Int) - a1 := by have := HLEN.out; unfold wrap64; omega
      by_cases c2 : n > (b.length : Int) - a1
      · have c2b : decide ((b.length : Int) - a1 < n) = true := decide_eq_true c2
        have C2 := Aside0.mk c2
        clear c2
        go_quiet (fail)
        go_wp2
        go_meet
        case rel => exact ⟨true, rfl, ⟨by have := C2.out; simp; omega⟩, ⟨IsS95.drewN HI1.out _⟩, ⟨pw_below_drewN HB1.out _⟩⟩
      · have c2b : decide ((b.length : Int) - a1 < n) = false := decide_eq_false c2
        have C2 := Aside0.mk c2
        clear c2
        go_quiet (fail)
        go_wp2
        go_meet
        case rel => exact ⟨false, rfl, ⟨by have := C2.out; simp; omega⟩, ⟨IsS95.drewN HI1.out _⟩, ⟨pw_below_drewN HB1.out _⟩⟩
  case rest =>
    obtain ⟨b3, rfl, HB3, HI1, HB1⟩ := hcut
    go_upto_if 25 with (fail)
    go_cut [] (fun wc => ∃ bd : Bool, Aside0 (bd = true ↔ b1 = true ∨ n < 0 ∨ n > (b.length : Int) - a1) ∧ Aside0 (IsS95 w0 wc g b a1 bd) ∧ Aside0 (Below w0.heap.size w0 wc))
    case first =>
      cases b3 with
      | true =>
        have hi := HI1.out
        obtain ⟨A0, c0, HG, hgg, HC0⟩ := hi
        have hc2 := cellS95_2 HG
        have hf2 := blk_frozen HG 2
        clear HG HC0
        go_wp2
        go_meet
        case rel => exact ⟨true, ⟨by have := HB3.out; simp only [true_iff] at this; exact iff_of_true rfl (.inr this)⟩, ⟨IsS95.set_2 HI1.out true⟩, ⟨below_set HB1.out hgg⟩⟩
      | false =>
        go_wp2
        go_meet
        case rel => exact ⟨b1, ⟨by have := HB3.out; simp only [Bool.false_eq_true, false_iff] at this; exact ⟨.inl, fun h => h.resolve_right this⟩⟩, HI1, HB1⟩
    case rest =>
      clear HB3 HI1 HB1
      obtain ⟨bd, HBD, HI1, HB1⟩ := hcut
      obtain ⟨N, hN⟩ : ∃ N : Nat, N = n.toNat := ⟨_, rfl⟩
      have HN := Aside0.mk hN
      clear hN
      go_wp2
      go_loopw [30, 6] (fun x v wr => ∃ (k : Nat) (a : Int) (be : Bool) (acc : List Int), x = .int .i64 k ∧ Aside0 (0 ≤ a ∧ a ≤ b.length) ∧ Aside0 (k ≤ N) ∧ Aside0 (acc.length = k) ∧ Aside0 (IsS95 w0 wr g b a be) ∧ Aside0 (Kd.R (Kd.int .i64) 3 wr w0.heap.size (fun k => k ≠ g) v acc) ∧ Aside0 (Below w0.heap.size w0 wr) ∧
          Aside0 ((be = true ∧ k = 0 ∧ (rl, ra, rb) = ([], a, true)) ∨ (be = false ∧ N ≤ b.length ∧ (rl, ra, rb) = rdl (rN b) (N - k) a acc))) (fun x _ wr => N - (intOf x).toNat)
      case atStart =>
        refine ⟨0, a1, bd, [], rfl, ⟨⟨h0', h1'⟩⟩, ⟨Nat.zero_le _⟩, ⟨rfl⟩, HI1, ⟨Kd.R_nil _ _ _ _ _⟩, HB1, ⟨?_⟩⟩
        have h := HRES.out
        have hb := HBD.out
        cases bd with
        | true => rw [if_pos (hb.1 rfl)] at h; exact .inl ⟨rfl, rfl, h⟩
        | false =>
          have hq : ¬ (b1 = true ∨ n < 0 ∨ n > (b.length : Int) - a1) := fun hc => by have := hb.2 hc; simp at this
          rw [if_neg hq] at h
          have := HN.out
          exact .inr ⟨rfl, by omega, by rw [this]; exact h⟩
      case round =>
        clear HBD HI1 HB1
        obtain ⟨k, a, be, acc, rfl, HA, HK, HAC, HI, HR, HB, HD⟩ := hrel
        have HGN := Aside0.mk (show ∀ q, wr.heap.size ≤ q → q ≠ g from IsS95.fresh HI.out)
        by_cases hk : (k : Int) < n
        · have hkb : decide ((k : Int) < n) = true := decide_eq_true hk
          have HKN := Aside0.mk (show k < N by have := HN.out; omega)
          clear hk
          cases be with
          | true =>
            have hd := HD.out
            simp only [true_and, Bool.true_eq_false, false_and, or_false, Prod.mk.injEq] at hd
            obtain ⟨hk0, rfl, rfl, rfl⟩ := hd
            clear hk0
            go_wp2_with (first | (go_at_call 62; refine (codec_Reader_Number.calls 40 g b _ true _ _ _ w0 _ HI.out HB.out (bad_f b _)).mono ?_; rintro e w2 ⟨rfl, hi, hb, hk⟩; have HI2 := Aside0.mk hi; have HB2 := Aside0.mk hb; obtain ⟨A0, c0, HG, hgg, HC0⟩ := hi; have hc2 := cellS95_2 HG; clear HG HC0 hb hk))
            go_ret
            exact ⟨_, rfl, Kd.R_nil _ _ _ _ _, HI2.out, HB2.out⟩
          | false =>
            have hd := HD.out
            simp only [Bool.false_eq_true, false_and, false_or, true_and] at hd
            obtain ⟨hNl, hd⟩ := hd
            have HNL := Aside0.mk hNl
            obtain ⟨m, hm⟩ : ∃ m, N - k = m + 1 := ⟨N - k - 1, by have := HKN.out; omega⟩
            rw [hm] at hd
            have HM := Aside0.mk hm
            obtain ⟨x1, x2, x3, hx⟩ : ∃ x1 x2 x3, rN b a = (x1, x2, x3) := ⟨_, _, _, rfl⟩
            have HX := Aside0.mk hx
            have HX2 := Aside0.mk (show 0 ≤ x2 ∧ x2 ≤ b.length by have := rN_at b a HA.out.1 HA.out.2; rw [hx] at this; have h1 : a ≤ x2 := this.1; exact ⟨by have := HA.out.1; omega, this.2⟩)
            have hk6 : k ≤ 1000000 := by have := HKN.out; have := HNL.out; have := HLEN.out; omega
            unfold rdl at hd
            rw [hx] at hd
            clear hx hNl hm
            cases x3 with
            | true =>
              simp only [if_true, Prod.mk.injEq] at hd
              obtain ⟨rfl, rfl, rfl⟩ := hd
              go_wp2_with (first | (go_at_call 62; refine (codec_Reader_Number.calls 40 g b a false _ _ _ w0 _ HI.out HB.out ((rN_f b a (by have := HLEN.out; omega) HA.out.1 HA.out.2).trans (congrArg some HX.out))).mono ?_; rintro e w2 ⟨rfl, hi, hb, hk⟩; have HI2 := Aside0.mk hi; have HB2 := Aside0.mk hb; obtain ⟨A0, c0, HG, hgg, HC0⟩ := hi; have hc2 := cellS95_2 HG; clear HG HC0 hb hk))
              go_ret
              exact ⟨_, rfl, Kd.R_nil _ _ _ _ _, HI2.out, HB2.out⟩
            | false =>
              simp only [Bool.false_eq_true, if_false] at hd
              have HD2 := Aside0.mk hd
              clear hd
              go_wp2_with (first | (go_at_call 62; refine (codec_Reader_Number.calls 40 g b a false _ _ _ w0 _ HI.out HB.out ((rN_f b a (by have := HLEN.out; omega) HA.out.1 HA.out.2).trans (congrArg some HX.out))).mono ?_; rintro e w2 ⟨rfl, hi, hb, hk⟩; have HI2 := Aside0.mk hi; have HB2 := Aside0.mk hb; have HR2 := Aside0.mk (Kd.R_keep HR.out hk (fun _ h => h)); have HS2 := Aside0.mk hk.1; obtain ⟨A0, c0, HG, hgg, HC0⟩ := hi; have hc2 := cellS95_2 HG; have HGG := Aside0.mk HG; clear HG HC0 hb hk) | ((with_reducible refine gate_builtin (b := .append) (xs := #[.tmp 38, .tmp 40]) rfl ?_); at_builtin; refine Kd.R_append (Kd.int .i64) (w0 := w0) w0.heap.size rfl (.tmp 38) (.tmp 40) 22 3 (.int .i64 0) 8 rfl Try.underlying22 info3 rfl (by decide) (by omega) u6 acc x1 [.int .i64 x1] (fun k => k ≠ g) (fun _ => False) rfl rfl ?aP (fun _ hk => hk.elim) ?aF ?aO ?aB ?aS ?aL ?_; (case aP => exact rfl); (case aB => exact HB2.out); (case aF => exact fun q hq => HGN.out q (Nat.le_trans HS2.out hq)); (case aO => exact HR2.out); (case aS => exact HB2.out.size); (case aL => have := HAC.out; have := HK.out; have := HNL.out; have := HLEN.out; omega); intro v1 w6 ho hb hgr hat; have HI6 := Aside0.mk (IsS95.grown HI2.out hgr (fun e => (HR2.out.1 g e.symm) rfl)); have HO := Aside0.mk ho; have HB6 := Aside0.mk hb; clear ho hb hgr hat))
              go_roundw
              case rel => exact ⟨k + 1, x2, false, acc ++ [x1], by go_num, HX2, HKN, ⟨by rw [List.length_append, HAC.out]; rfl⟩, HI6, HO, HB6, ⟨.inr ⟨rfl, HNL.out, by have := HM.out; rw [show N - (k + 1) = m by omega]; exact HD2.out⟩⟩⟩
              case measure => have := HKN.out; simp [intOf]; omega
        · have hkb : decide ((k : Int) < n) = false := decide_eq_false hk
          have HKN := Aside0.mk (show k = N by have := HN.out; have := HK.out; omega)
          clear hk
          go_wp2
          go_ret
          have hd := HD.out
          cases be with
          | true =>
            simp only [true_and, Bool.true_eq_false, false_and, or_false, Prod.mk.injEq] at hd
            obtain ⟨hk0, rfl, rfl, rfl⟩ := hd
            have e : acc = [] := List.eq_nil_of_length_eq_zero (by rw [HAC.out, hk0])
            have h := HR.out
            rw [e] at h
            exact ⟨_, rfl, h, HI.out, HB.out⟩
          | false =>
            simp only [Bool.false_eq_true, false_and, false_or, true_and] at hd
            have hd2 := hd.2
            rw [HKN.out, Nat.sub_self] at hd2
            simp only [rdl, Prod.mk.injEq] at hd2
            obtain ⟨rfl, rfl, rfl⟩ := hd2
            exact ⟨_, rfl, HR.out, HI.out, HB.out⟩

set_option maxHeartbeats 8000000 in
set_option maxRecDepth 100000 in
theorem readStr (g : Nat) (b : List Int) (w0 w : World) (hI : IsS95 w0 w g b 0 false) (hB : Below w0.heap.size w0 w) (hlen : b.length ≤ 1000000) :
    Calls Try.prog 64 #[.pointer (some ⟨g, 0, none⟩), .func (.func 65) #[.pointer (some ⟨g, 0, none⟩)] #[]] w fun e w' => ∃ v_ : Value, e = .returned v_ ∧ Kd.R Kd.string 9 w' w0.heap.size (fun k => k ≠ g) v_ (rL (rT b) b).1 ∧
      IsS95 w0 w' g b (rL (rT b) b).2.1 (rL (rT b) b).2.2 ∧ Below w0.heap.size w0 w' := by
  have HI := Aside0.mk hI
  have HB := Aside0.mk hB
  have HLEN := Aside0.mk hlen
  have h0 := (pn_at b 10 0 0 0 (by omega)).1
  have h1 := (pn_at b 10 0 0 0 (by omega)).2
  have hf := rN_f b 0 (by omega) (by omega) (by omega)
  obtain ⟨n, a1, b1, hr⟩ : ∃ n a1 b1, rN b 0 = (n, a1, b1) := ⟨_, _, _, rfl⟩
  have hr2 : pn 10 0 0 b 0 = (n, a1, b1) := hr
  rw [hr2] at h0 h1
  rw [hr] at hf
  have hres : rL (rT b) b = if b1 = true ∨ n < 0 ∨ n > (b.length : Int) - a1 then ([], a1, true) else rdl (rT b) n.toNat a1 [] := by unfold rL; rw [hr]
  obtain ⟨rl, ra, rb, hfin⟩ : ∃ rl ra rb, rL (rT b) b = (rl, ra, rb) := ⟨_, _, _, rfl⟩
  rw [hfin]
  rw [hfin] at hres
  have HF := Aside0.mk hf
  have HRES := Aside0.mk hres
  have h0' : 0 ≤ a1 := h0
  have h1' : a1 ≤ b.length := h1
  clear hI hB hf hr hr2 hres hfin hlen h0 h1
  go_enter Try.func64, Try.ntmps64
  go_upto_region 2 with (first | (go_at_call 62; refine (codec_Reader_Number.calls 40 g b 0 false _ _ _ w0 _ HI.out HB.out HF.out).mono ?_; rintro e w1 ⟨rfl, hi, hb, hk⟩; have HI1 := Aside0.mk hi; have HB1 := Aside0.mk hb; obtain ⟨A0, c0, HG, hgg, HC0⟩ := hi; have hc0 := cellS95_0 HG; have hc1 := cellS95_1 HG; clear HG HC0 hb hk))
  go_cut [25] (fun v25 wc => ∃ b3 : Bool, v25 = .bool b3 ∧ Aside0 (b3 = true ↔ n < 0 ∨ n > (b.length : Int) - a1) ∧ Aside0 (IsS95 w0 wc g b a1 b1) ∧ Aside0 (Below w0.heap.size w0 wc))
  case first =>
    by_cases c1 : n < 0
    · have c1b : decide (n < 0) = true := decide_eq_true c1
      go_quiet (fail)
      go_wp2
      go_meet
      case rel => exact ⟨true, rfl, ⟨by simp [c1]⟩, ⟨IsS95.drewN HI1.out _⟩, ⟨pw_below_drewN HB1.out _⟩⟩
    · have c1b : decide (n < 0) = false := decide_eq_false c1
      have hw : wrap64 ((b.length : Int) - a1) = (b.length : Int) - a1 := by have := HLEN.out; unfold wrap64; omega
      by_cases c2 : n > (b.length : Int) - a1
      · have c2b : decide ((b.length : Int) - a1 < n) = true := decide_eq_true c2
        have C2 := Aside0.mk c2
        clear c2
        go_quiet (fail)
        go_wp2
        go_meet
        case rel => exact ⟨true, rfl, ⟨by have := C2.out; simp; omega⟩, ⟨IsS95.drewN HI1.out _⟩, ⟨pw_below_drewN HB1.out _⟩⟩
      · have c2b : decide ((b.length : Int) - a1 < n) = false := decide_eq_false c2
        have C2 := Aside0.mk c2
        clear c2
        go_quiet (fail)
        go_wp2
        go_meet
        case rel => exact ⟨false, rfl, ⟨by have := C2.out; simp; omega⟩, ⟨IsS95.drewN HI1.out _⟩, ⟨pw_below_drewN HB1.out _⟩⟩
  case rest =>
    obtain ⟨b3, rfl, HB3, HI1, HB1⟩ := hcut
    go_upto_if 25 with (fail)
    go_cut [] (fun wc => ∃ bd : Bool, Aside0 (bd = true ↔ b1 = true ∨ n < 0 ∨ n > (b.length : Int) - a1) ∧ Aside0 (IsS95 w0 wc g b a1 bd) ∧ Aside0 (Below w0.heap.size w0 wc))
    case first =>
      cases b3 with
      | true =>
        have hi := HI1.out
        obtain ⟨A0, c0, HG, hgg, HC0⟩ := hi
        have hc2 := cellS95_2 HG
        have hf2 := blk_frozen HG 2
        clear HG HC0
        go_wp2
        go_meet
        case rel => exact ⟨true, ⟨by have := HB3.out; simp only [true_iff] at this; exact iff_of_true rfl (.inr this)⟩, ⟨IsS95.set_2 HI1.out true⟩, ⟨below_set HB1.out hgg⟩⟩
      | false =>
        go_wp2
        go_meet
        case rel => exact ⟨b1, ⟨by have := HB3.out; simp only [Bool.false_eq_true, false_iff] at this; exact ⟨.inl, fun h => h.resolve_right this⟩⟩, HI1, HB1⟩
    case rest =>
      clear HB3 HI1 HB1
      obtain ⟨bd, HBD, HI1, HB1⟩ := hcut
      obtain ⟨N, hN⟩ : ∃ N : Nat, N = n.toNat := ⟨_, rfl⟩
      have HN := Aside0.mk hN
      clear hN
      go_wp2
      go_loopw [30, 6] (fun x v wr => ∃ (k : Nat) (a : Int) (be : Bool) (acc : List ByteArray), x = .int .i64 k ∧ Aside0 (0 ≤ a ∧ a ≤ b.length) ∧ Aside0 (k ≤ N) ∧ Aside0 (acc.length = k) ∧ Aside0 (IsS95 w0 wr g b a be) ∧ Aside0 (Kd.R Kd.string 9 wr w0.heap.size (fun k => k ≠ g) v acc) ∧ Aside0 (Below w0.heap.size w0 wr) ∧
          Aside0 ((be = true ∧ k = 0 ∧ (rl, ra, rb) = ([], a, true)) ∨ (be = false ∧ N ≤ b.length ∧ (rl, ra, rb) = rdl (rT b) (N - k) a acc))) (fun x _ wr => N - (intOf x).toNat)
      case atStart =>
        refine ⟨0, a1, bd, [], rfl, ⟨⟨h0', h1'⟩⟩, ⟨Nat.zero_le _⟩, ⟨rfl⟩, HI1, ⟨Kd.R_nil _ _ _ _ _⟩, HB1, ⟨?_⟩⟩
        have h := HRES.out
        have hb := HBD.out
        cases bd with
        | true => rw [if_pos (hb.1 rfl)] at h; exact .inl ⟨rfl, rfl, h⟩
        | false =>
          have hq : ¬ (b1 = true ∨ n < 0 ∨ n > (b.length : Int) - a1) := fun hc => by have := hb.2 hc; simp at this
          rw [if_neg hq] at h
          have := HN.out
          exact .inr ⟨rfl, by omega, by rw [this]; exact h⟩
      case round =>
        clear HBD HI1 HB1
        obtain ⟨k, a, be, acc, rfl, HA, HK, HAC, HI, HR, HB, HD⟩ := hrel
        have HGN := Aside0.mk (show ∀ q, wr.heap.size ≤ q → q ≠ g from IsS95.fresh HI.out)
        by_cases hk : (k : Int) < n
        · have hkb : decide ((k : Int) < n) = true := decide_eq_true hk
          have HKN := Aside0.mk (show k < N by have := HN.out; omega)
          clear hk
          cases be with
          | true =>
            have hd := HD.out
            simp only [true_and, Bool.true_eq_false, false_and, or_false, Prod.mk.injEq] at hd
            obtain ⟨hk0, rfl, rfl, rfl⟩ := hd
            clear hk0
            go_wp2_with (first | (go_at_call 65; refine (text_bad g b _ w0 _ HI.out HB.out HLEN.out HA.out.1 HA.out.2).mono ?_; rintro e w2 ⟨rfl, hi, hb, hk⟩; have HI2 := Aside0.mk hi; have HB2 := Aside0.mk hb; obtain ⟨A0, c0, HG, hgg, HC0⟩ := hi; have hc2 := cellS95_2 HG; clear HG HC0 hb hk))
            go_ret
            exact ⟨_, rfl, Kd.R_nil _ _ _ _ _, HI2.out, HB2.out⟩
          | false =>
            have hd := HD.out
            simp only [Bool.false_eq_true, false_and, false_or, true_and] at hd
            obtain ⟨hNl, hd⟩ := hd
            have HNL := Aside0.mk hNl
            obtain ⟨m, hm⟩ : ∃ m, N - k = m + 1 := ⟨N - k - 1, by have := HKN.out; omega⟩
            rw [hm] at hd
            have HM := Aside0.mk hm
            obtain ⟨x1, x2, x3, hx⟩ : ∃ x1 x2 x3, rT b a = (x1, x2, x3) := ⟨_, _, _, rfl⟩
            have HX := Aside0.mk hx
            have HX2 := Aside0.mk (show 0 ≤ x2 ∧ x2 ≤ b.length by have := rT_at b a HA.out.1 HA.out.2; rw [hx] at this; have h1 : a ≤ x2 := this.1; exact ⟨by have := HA.out.1; omega, this.2⟩)
            have hk6 : k ≤ 1000000 := by have := HKN.out; have := HNL.out; have := HLEN.out; omega
            unfold rdl at hd
            rw [hx] at hd
            clear hx hNl hm
            cases x3 with
            | true =>
              simp only [if_true, Prod.mk.injEq] at hd
              obtain ⟨rfl, rfl, rfl⟩ := hd
              go_wp2_with (first | (go_at_call 65; refine (text_good g b a _ _ _ w0 _ HI.out HB.out HLEN.out HA.out.1 HA.out.2 HX.out).mono ?_; rintro e w2 ⟨rfl, hi, hb, hk⟩; have HI2 := Aside0.mk hi; have HB2 := Aside0.mk hb; obtain ⟨A0, c0, HG, hgg, HC0⟩ := hi; have hc2 := cellS95_2 HG; clear HG HC0 hb hk))
              go_ret
              exact ⟨_, rfl, Kd.R_nil _ _ _ _ _, HI2.out, HB2.out⟩
            | false =>
              simp only [Bool.false_eq_true, if_false] at hd
              have HD2 := Aside0.mk hd
              clear hd
              go_wp2_with (first | (go_at_call 65; refine (text_good g b a _ _ _ w0 _ HI.out HB.out HLEN.out HA.out.1 HA.out.2 HX.out).mono ?_; rintro e w2 ⟨rfl, hi, hb, hk⟩; have HI2 := Aside0.mk hi; have HB2 := Aside0.mk hb; have HR2 := Aside0.mk (Kd.R_keep HR.out hk (fun _ h => h)); have HS2 := Aside0.mk hk.1; obtain ⟨A0, c0, HG, hgg, HC0⟩ := hi; have hc2 := cellS95_2 HG; have HGG := Aside0.mk HG; clear HG HC0 hb hk) | ((with_reducible refine gate_builtin (b := .append) (xs := #[.tmp 38, .tmp 40]) rfl ?_); at_builtin; refine Kd.R_append Kd.string (w0 := w0) w0.heap.size rfl (.tmp 38) (.tmp 40) 23 9 (.string ⟨#[]⟩) 16 rfl Try.underlying23 info9 rfl (by decide) (by omega) u6 acc x1 [.string x1] (fun k => k ≠ g) (fun _ => False) rfl rfl ?aP (fun _ hk => hk.elim) ?aF ?aO ?aB ?aS ?aL ?_; (case aP => exact rfl); (case aB => exact HB2.out); (case aF => exact fun q hq => HGN.out q (Nat.le_trans HS2.out hq)); (case aO => exact HR2.out); (case aS => exact HB2.out.size); (case aL => have := HAC.out; have := HK.out; have := HNL.out; have := HLEN.out; omega); intro v1 w6 ho hb hgr hat; have HI6 := Aside0.mk (IsS95.grown HI2.out hgr (fun e => (HR2.out.1 g e.symm) rfl)); have HO := Aside0.mk ho; have HB6 := Aside0.mk hb; clear ho hb hgr hat))
              go_roundw
              case rel => exact ⟨k + 1, x2, false, acc ++ [x1], by go_num, HX2, HKN, ⟨by rw [List.length_append, HAC.out]; rfl⟩, HI6, HO, HB6, ⟨.inr ⟨rfl, HNL.out, by have := HM.out; rw [show N - (k + 1) = m by omega]; exact HD2.out⟩⟩⟩
              case measure => have := HKN.out; simp [intOf]; omega
        · have hkb : decide ((k : Int) < n) = false := decide_eq_false hk
          have HKN := Aside0.mk (show k = N by have := HN.out; have := HK.out; omega)
          clear hk
          go_wp2
          go_ret
          have hd := HD.out
          cases be with
          | true =>
            simp only [true_and, Bool.true_eq_false, false_and, or_false, Prod.mk.injEq] at hd
            obtain ⟨hk0, rfl, rfl, rfl⟩ := hd
            have e : acc = [] := List.eq_nil_of_length_eq_zero (by rw [HAC.out, hk0])
            have h := HR.out
            rw [e] at h
            exact ⟨_, rfl, h, HI.out, HB.out⟩
          | false =>
            simp only [Bool.false_eq_true, false_and, false_or, true_and] at hd
            have hd2 := hd.2
            rw [HKN.out, Nat.sub_self] at hd2
            simp only [rdl, Prod.mk.injEq] at hd2
            obtain ⟨rfl, rfl, rfl⟩ := hd2
            exact ⟨_, rfl, HR.out, HI.out, HB.out⟩

end Go.Proofs.Ytipjpdiianopcaa.Cr
