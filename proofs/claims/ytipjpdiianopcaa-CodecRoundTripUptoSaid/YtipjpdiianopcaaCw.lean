/- The writers of package codec: Number, Text, List at ints and strings, Put and PutText, each by its contract. -/
import Derived.Test.YtipjpdiianopcaaAx0
import Derived.Laws.Bits64
import Derived.Laws.BitsAllLaws
namespace Go.Proofs.Ytipjpdiianopcaa.Cw
open Go.RowKit Go.Proofs.YtipjpdiianopcaaW.PrintWords Go.Proofs.YtipjpdiianopcaaW.PrintLast Go.Proofs.YtipjpdiianopcaaW.PrintMore Go.Proofs.Ytipjpdiianopcaa.A
set_option linter.unusedVariables false
set_option linter.unusedSimpArgs false

/-- The groups of seven bits of a number. -/
def vb (u : Nat) : List Int := if u < 128 then [(u : Int)] else ((u % 128 + 128 : Nat) : Int) :: vb (u / 128)
decreasing_by omega
theorem vb_small (u : Nat) (h : u < 128) : vb u = [(u : Int)] := by rw [vb, if_pos h]
theorem vb_great (u : Nat) (h : ¬ u < 128) : vb u = ((u % 128 + 128 : Nat) : Int) :: vb (u / 128) := by rw [vb, if_neg h]
theorem vb_len : ∀ (d u : Nat), u < 128 ^ d → 0 < d → (vb u).length ≤ d
  | 0, _, _, h => by omega
  | d + 1, u, h, _ => by
    by_cases hu : u < 128
    · rw [vb_small u hu]; simp
    · rw [vb_great u hu]
      have hd : 0 < d := by
        rcases Nat.eq_zero_or_pos d with rfl | hd
        · simp at h; omega
        · exact hd
      have := vb_len d (u / 128) (Nat.div_lt_of_lt_mul (by rw [Nat.pow_succ, Nat.mul_comm] at h; exact h)) hd
      simp; omega
theorem vb_len10 (u : Nat) (h : u < 18446744073709551616) : (vb u).length ≤ 10 := vb_len 10 u (by omega) (by omega)
/-- A number's image without a sign, as the writer reckons it. -/
def zg (n : Int) : Int := bits .xor .u64 (IntKind.u64.wrap (IntKind.u64.wrap n * 2)) (IntKind.u64.wrap (n / 9223372036854775808))
theorem zg_range (n : Int) : 0 ≤ zg n ∧ zg n < 18446744073709551616 := by
  have h : ∀ x : Int, 0 ≤ IntKind.u64.wrap x ∧ IntKind.u64.wrap x < 18446744073709551616 := fun x => by
    rw [IntKind.wrap_u64]; omega
  exact h _
theorem or128_nat : ∀ a, a < 256 → a ||| 128 = a % 128 + 128 := by decide +kernel
theorem or128 (k : Nat) : bits .or .u8 ((k : Int) % 256) 128 = ((k % 128 + 128 : Nat) : Int) := by
  have h : ((k : Int) % 256) = ((k % 256 : Nat) : Int) := by omega
  rw [h]
  have h2 := u8_or_nat (k % 256) 128 (by omega) (by omega)
  rw [show ((128 : Int)) = ((128 : Nat) : Int) from rfl, h2, or128_nat _ (by omega)]
  omega
theorem slice3 {α : Type} {d : Kd α} {e : Nat} {w : World} {base : Nat} {ok : Nat → Prop} {v : Value} {xs : List α} (h : d.R e w base ok v xs) : ∃ A n c, v = .slice A n c := by
  obtain ⟨A, c, h⟩ := Kd.R_slice h
  exact ⟨A, _, c, h⟩
/-- A writer of type 86 at block g that holds the bytes xs, in a row of the call's own (blocks from B on). -/
def IsW (B : Nat) (W : World) (g : Nat) (xs : List Int) : Prop := ∃ v, W.heap[g]? = some (.cells #[v] 86 (0, 0)) ∧ B ≤ g ∧ Kd.R (Kd.int .u8) 5 W B (fun _ => True) v xs
theorem IsW.below {B : Nat} {W W1 : World} {g : Nat} {xs : List Int} (h : IsW B W g xs) (hb : Below W.heap.size W W1) : IsW B W1 g xs := by
  obtain ⟨v, hg, hB, hr⟩ := h
  exact ⟨v, blk_below hg hb, hB, Kd.R_below hr hb⟩
/-- What an append and the store behind it leave. -/
theorem IsW.after {B : Nat} {W : World} {g : Nat} {v v1 : Value} {ys : List Int} (hg : W.heap[g]? = some (.cells #[v] 86 (0, 0))) (hB : B ≤ g) (hr : Kd.R (Kd.int .u8) 5 W B (fun _ => True) v1 ys) :
    IsW B (W.setCell ⟨g, 0, none⟩ v1) g ys :=
  ⟨v1, by simpa using blk_set hg 0 v1, hB, Kd.R_set hr hg (by simp [Kd.int, Kd.scalar]) 0 v1⟩

set_option maxHeartbeats 8000000 in
set_option maxRecDepth 100000 in
theorem number (g : Nat) (n : Int) (xs : List Int) (w0 w : World) (hI : IsW w0.heap.size w g xs) (hB : Below w0.heap.size w0 w) (hl : xs.length < 100000000000) :
    Calls Try.prog 56 #[.pointer (some ⟨g, 0, none⟩), .int .i64 n] w fun e w' => e = .returned (.tuple #[]) ∧ IsW w0.heap.size w' g (xs ++ vb (zg n).toNat) ∧ Below w0.heap.size w0 w' := by
  have HI := Aside0.mk hI
  have HB := Aside0.mk hB
  clear hI hB
  obtain ⟨u, hu⟩ : ∃ u : Nat, zg n = u := ⟨(zg n).toNat, by have := zg_range n; omega⟩
  have hu1 : u < 18446744073709551616 := by have := zg_range n; omega
  have HU : zg n = u := hu
  unfold zg at HU
  rw [hu, Int.toNat_natCast]
  have HL := Aside0.mk (vb_len10 u hu1)
  have HU1 := Aside0.mk hu1
  have HUZ := Aside0.mk HU
  clear hu hu1 HU
  go_enter Try.func56, Try.ntmps56
  go_wp2
  rw [HUZ.out]
  go_loopw [4] (fun x wr => ∃ (k : Nat) (ys : List Int), x = .int .u64 k ∧ Aside0 (k < 18446744073709551616) ∧ Aside0 (ys ++ vb k = xs ++ vb u) ∧ Aside0 (IsW w0.heap.size wr g ys) ∧ Aside0 (Below w0.heap.size w0 wr)) (fun x wr => (intOf x).toNat)
  case atStart => exact ⟨u, xs, rfl, HU1, ⟨rfl⟩, HI, HB⟩
  case round =>
    obtain ⟨k, ys, rfl, HK, HE, HI, HB⟩ := hrel
    have hyl : Aside0 (ys.length < 100000000010) := ⟨by
      have h1 := congrArg List.length HE.out
      have h2 := HL.out
      simp only [List.length_append] at h1
      have h3 : 0 < (vb k).length := by rw [vb]; split <;> simp
      omega⟩
    obtain ⟨v, hg, hge, hr⟩ := HI.out
    have HG := Aside0.mk hg
    have HR := Aside0.mk hr
    have hc := (blk_cell hg 0).trans rfl
    have hf := blk_frozen hg 0
    clear hg hr
    by_cases hk : k < 128
    · have hkb : decide ((128 : Int) ≤ (k : Int)) = false := decide_eq_false (by omega)
      go_wp2_with (first | ((with_reducible refine gate_builtin (b := .append) (xs := #[.tmp 32, .tmp 35]) rfl ?_); at_builtin; refine Kd.R_append (Kd.int .u8) (w0 := w0) w0.heap.size rfl (.tmp 32) (.tmp 35) 25 5 (.int .u8 0) 1 rfl Try.underlying25 info5 rfl (by decide) (by omega) v ys (k : Int) [.int .u8 (k : Int)] (fun _ => True) (fun _ => False) rfl rfl ?aP (fun _ hk => hk.elim) ?aF ?aO ?aB ?aS ?aL ?_; (case aP => exact rfl); (case aB => exact HB.out); (case aF => exact (fun _ _ => trivial)); (case aO => exact HR.out); (case aS => exact HB.out.size); (case aL => have := hyl.out; omega); intro v1 w6 ho hb hgr hat; obtain ⟨A1, n1, c1, rfl⟩ := slice3 ho; have hg6 := blk_grown HG.out hgr (Kd.R_ne HR.out HG.out (by decide)); have HO := Aside0.mk ho; have HB6 := Aside0.mk hb; have HG6 := Aside0.mk hg6; have hc6 := (blk_cell hg6 0).trans rfl; have hf6 := blk_frozen hg6 0; clear ho hb hgr hat hg6))
      go_end0
      refine ⟨rfl, ?_, HB6.out.setCell hge _⟩
      have h1 := IsW.after HG6.out hge HO.out
      have h2 : ys ++ [(k : Int)] = xs ++ vb u := by rw [← HE.out, vb_small k hk]
      rw [← h2]
      exact h1
    · have hkb : decide ((128 : Int) ≤ (k : Int)) = true := decide_eq_true (by omega)
      go_wp2_with (first | ((with_reducible refine gate_builtin (b := .append) (xs := #[.tmp 18, .tmp 22]) rfl ?_); at_builtin; refine Kd.R_append (Kd.int .u8) (w0 := w0) w0.heap.size rfl (.tmp 18) (.tmp 22) 25 5 (.int .u8 0) 1 rfl Try.underlying25 info5 rfl (by decide) (by omega) v ys (bits .or .u8 ((k : Int) % 256) 128) [.int .u8 (bits .or .u8 ((k : Int) % 256) 128)] (fun _ => True) (fun _ => False) rfl rfl ?aP (fun _ hk => hk.elim) ?aF ?aO ?aB ?aS ?aL ?_; (case aP => exact rfl); (case aB => exact HB.out); (case aF => exact (fun _ _ => trivial)); (case aO => exact HR.out); (case aS => exact HB.out.size); (case aL => have := hyl.out; omega); intro v1 w6 ho hb hgr hat; obtain ⟨A1, n1, c1, rfl⟩ := slice3 ho; have hg6 := blk_grown HG.out hgr (Kd.R_ne HR.out HG.out (by decide)); have HO := Aside0.mk ho; have HB6 := Aside0.mk hb; have HG6 := Aside0.mk hg6; have hc6 := (blk_cell hg6 0).trans rfl; have hf6 := blk_frozen hg6 0; clear ho hb hgr hat hg6))
      go_roundw
      case rel =>
        refine ⟨k / 128, _, ?_, ⟨by have := HK.out; omega⟩, ?_, ⟨IsW.after HG6.out hge HO.out⟩, ⟨HB6.out.setCell hge _⟩⟩
        · rw [Int.natCast_ediv]; rfl
        · exact ⟨by rw [← HE.out, vb_great k hk, or128, List.append_assoc, List.singleton_append]⟩
      case measure => simp [intOf]; omega

/-- The bytes of a number, of a string, of a list of numbers, of a list of strings. -/
def nb (n : Int) : List Int := vb (zg n).toNat
def tb (s : ByteArray) : List Int := nb s.size ++ bytesOf s
def nsb (l : List Int) : List Int := nb l.length ++ l.flatMap nb
def tsb (l : List ByteArray) : List Int := nb l.length ++ l.flatMap tb
theorem nb_len (n : Int) : (nb n).length ≤ 10 := vb_len10 _ (by have := zg_range n; omega)
theorem flat_take_succ {α : Type} (f : α → List Int) (l : List α) (k : Nat) (h : k < l.length) : (l.take (k + 1)).flatMap f = (l.take k).flatMap f ++ f l[k] := by
  rw [List.take_succ_eq_append_getElem h, List.flatMap_append]; simp
theorem flat_take_le {α : Type} (f : α → List Int) (l : List α) (k : Nat) : ((l.take k).flatMap f).length ≤ (l.flatMap f).length := by
  have h : l.flatMap f = (l.take k).flatMap f ++ (l.drop k).flatMap f := by rw [← List.flatMap_append, List.take_append_drop]
  rw [h, List.length_append]; omega

set_option maxHeartbeats 8000000 in
set_option maxRecDepth 100000 in
theorem text (g : Nat) (s : ByteArray) (xs : List Int) (w0 w : World) (hI : IsW w0.heap.size w g xs) (hB : Below w0.heap.size w0 w) (hl : xs.length + s.size < 100000000000) :
    Calls Try.prog 58 #[.pointer (some ⟨g, 0, none⟩), .string s] w fun e w' => e = .returned (.tuple #[]) ∧ IsW w0.heap.size w' g (xs ++ tb s) ∧ Below w0.heap.size w0 w' := by
  have HI := Aside0.mk hI
  have HB := Aside0.mk hB
  have HL := Aside0.mk hl
  clear hI hB hl
  go_enter Try.func58, Try.ntmps58
  go_wp2_with (first | (go_at_call 56; refine (number g _ xs w0 _ HI.out HB.out (by have := HL.out; omega)).mono ?_; rintro e w1 ⟨rfl, hi, hb⟩; obtain ⟨v, hg, hge, hr⟩ := hi; have HB1 := Aside0.mk hb; have HG := Aside0.mk hg; have HR := Aside0.mk hr; have HGE := Aside0.mk hge; have hc := (blk_cell hg 0).trans rfl; have hf := blk_frozen hg 0; clear hg hr hge hb) | ((with_reducible refine gate_builtin (b := .append) (xs := #[.tmp 12, .tmp 13]) rfl ?_); at_builtin; refine print_append_str (w0 := w0) w0.heap.size rfl (.tmp 12) (.tmp 13) 25 9 5 rfl Try.underlying25 Try.underlying9 info5 v (xs ++ nb s.size) s rfl rfl ?aO ?aB ?aS ?aL ?_; (case aO => exact Kd.own_of_R HR.out); (case aB => exact HB1.out); (case aS => exact HB1.out.size); (case aL => have := HL.out; have := nb_len s.size; rw [List.length_append]; omega); intro v1 w6 ho hb hgr; have ho2 := Kd.R_of_own (h1 := fun _ => rfl) (enc := Value.int .u8) ho (fun _ _ => trivial); obtain ⟨A1, n1, c1, rfl⟩ := slice3 ho2; have hg6 := blk_grown HG.out hgr (Kd.R_ne HR.out HG.out (by decide)); have HO := Aside0.mk ho2; have HB6 := Aside0.mk hb; have HG6 := Aside0.mk hg6; have hc6 := (blk_cell hg6 0).trans rfl; have hf6 := blk_frozen hg6 0; clear ho ho2 hb hgr hg6))
  go_end0
  refine ⟨rfl, ?_, HB6.out.setCell HGE.out _⟩
  have h1 := IsW.after HG6.out HGE.out HO.out
  have e : xs ++ tb s = xs ++ nb s.size ++ bytesOf s := by rw [tb, List.append_assoc]
  rw [e]
  exact h1

set_option maxHeartbeats 8000000 in
set_option maxRecDepth 100000 in
theorem listInt (g : Nat) (A : Option Addr) (c : Nat) (l : List Int) (w0 w : World) (hr : Kd.C (Kd.int .i64) w0 A l.length l) (hI : IsW w0.heap.size w g []) (hB : Below w0.heap.size w0 w) (hl : l.length ≤ 100000) :
    Calls Try.prog 55 #[.pointer (some ⟨g, 0, none⟩), .slice A l.length c, .func (.func 56) #[.pointer (some ⟨g, 0, none⟩)] #[]] w fun e w' => e = .returned (.tuple #[]) ∧ IsW w0.heap.size w' g (nsb l) ∧ Below w0.heap.size w0 w' := by
  have HI := Aside0.mk hI
  have HB := Aside0.mk hB
  have HR := Aside0.mk hr
  clear hI hB hr
  go_enter Try.func55, Try.ntmps55
  go_wp2_with (go_at_call 56; refine (number g _ [] w0 _ HI.out HB.out (by simp)).mono ?_; rintro e w1 ⟨rfl, hi, hb⟩; rw [List.nil_append] at hi; have HI1 := Aside0.mk hi; have HB1 := Aside0.mk hb; clear hi hb)
  go_loopw [14] (fun x wr => ∃ k : Nat, x = .int .i64 k ∧ Aside0 (k ≤ l.length) ∧ Aside0 (IsW w0.heap.size wr g (nb l.length ++ (l.take k).flatMap nb)) ∧ Aside0 (Below w0.heap.size w0 wr)) (fun x wr => l.length - (intOf x).toNat)
  case atStart => exact ⟨0, rfl, ⟨Nat.zero_le _⟩, ⟨by simp only [List.take_zero, List.flatMap_nil, List.append_nil]; exact HI1.out⟩, HB1⟩
  case round =>
    obtain ⟨k, rfl, HK, HI, HB⟩ := hrel
    by_cases hk : k < l.length
    · have hkb : decide ((k : Int) < (l.length : Int)) = true := decide_eq_true (by omega)
      have hkn : decide (k < l.length) = true := decide_eq_true hk
      obtain ⟨ad, rfl, hx⟩ := Kd.at_int (Kd.C_below HR.out HB.out) (k : Int) (by omega) (by omega)
      have e1 : rd l (k : Int) = l[k] := by simp [rd, List.getD_eq_getElem?_getD, List.getElem?_eq_getElem hk]
      rw [e1, Int.toNat_natCast] at hx
      clear e1
      have HLL := Aside0.mk (show (nb l.length ++ (l.take k).flatMap nb).length < 100000000000 by
        have h1 := nb_len l.length
        have h2 : ∀ m : List Int, (m.flatMap nb).length ≤ m.length * 10 := fun m => by
          induction m with
          | nil => simp
          | cons x m ih => have := nb_len x; simp only [List.flatMap_cons, List.length_append, List.length_cons]; omega
        have h3 := h2 (l.take k)
        have h4 : (l.take k).length ≤ l.length := by simp; omega
        rw [List.length_append]; omega)
      go_wp2_with (go_at_call 56; refine (number g _ _ w0 _ HI.out HB.out HLL.out).mono ?_; rintro e w2 ⟨rfl, hi, hb⟩; have HI2 := Aside0.mk hi; have HB2 := Aside0.mk hb; clear hi hb)
      go_roundw
      case rel =>
        refine ⟨k + 1, by go_num, ⟨hk⟩, ⟨?_⟩, HB2⟩
        rw [flat_take_succ nb l k hk, ← List.append_assoc]
        exact HI2.out
      case measure => simp [intOf]; omega
    · have hkb : decide ((k : Int) < (l.length : Int)) = false := decide_eq_false (by omega)
      have hkn : decide (k < l.length) = false := decide_eq_false hk
      go_wp2
      go_end0
      have e : k = l.length := by have := HK.out; omega
      subst e
      refine ⟨rfl, ?_, HB.out⟩
      have h1 := HI.out
      rw [List.take_length] at h1
      exact h1

set_option maxHeartbeats 8000000 in
set_option maxRecDepth 100000 in
theorem listStr (g : Nat) (A : Option Addr) (c : Nat) (l : List ByteArray) (w0 w : World) (hr : Kd.C Kd.string w0 A l.length l) (hI : IsW w0.heap.size w g []) (hB : Below w0.heap.size w0 w) (hl : (tsb l).length < 50000000000) :
    Calls Try.prog 57 #[.pointer (some ⟨g, 0, none⟩), .slice A l.length c, .func (.func 58) #[.pointer (some ⟨g, 0, none⟩)] #[]] w fun e w' => e = .returned (.tuple #[]) ∧ IsW w0.heap.size w' g (tsb l) ∧ Below w0.heap.size w0 w' := by
  have HI := Aside0.mk hI
  have HB := Aside0.mk hB
  have HR := Aside0.mk hr
  have HL := Aside0.mk hl
  have hmax := Kd.C_max hr
  clear hI hB hr hl
  go_enter Try.func57, Try.ntmps57
  go_wp2_with (go_at_call 56; refine (number g _ [] w0 _ HI.out HB.out (by simp)).mono ?_; rintro e w1 ⟨rfl, hi, hb⟩; rw [List.nil_append] at hi; have HI1 := Aside0.mk hi; have HB1 := Aside0.mk hb; clear hi hb)
  go_loopw [14] (fun x wr => ∃ k : Nat, x = .int .i64 k ∧ Aside0 (k ≤ l.length) ∧ Aside0 (IsW w0.heap.size wr g (nb l.length ++ (l.take k).flatMap tb)) ∧ Aside0 (Below w0.heap.size w0 wr)) (fun x wr => l.length - (intOf x).toNat)
  case atStart => exact ⟨0, rfl, ⟨Nat.zero_le _⟩, ⟨by simp only [List.take_zero, List.flatMap_nil, List.append_nil]; exact HI1.out⟩, HB1⟩
  case round =>
    obtain ⟨k, rfl, HK, HI, HB⟩ := hrel
    by_cases hk : k < l.length
    · have hkb : decide ((k : Int) < (l.length : Int)) = true := decide_eq_true (by omega)
      have hkn : decide (k < l.length) = true := decide_eq_true hk
      obtain ⟨ad, rfl, hx⟩ := Kd.at_string (Kd.C_below HR.out HB.out) (k : Int) (by omega) (by omega)
      have e1 : rdOf ByteArray.empty l (k : Int) = l[k] := by simp [rdOf, List.getD_eq_getElem?_getD, List.getElem?_eq_getElem hk]
      rw [e1, Int.toNat_natCast] at hx
      clear e1
      have HLL := Aside0.mk (show (nb l.length ++ (l.take k).flatMap tb).length + l[k].size < 100000000000 by
        have h1 := HL.out
        have h2 := flat_take_le tb l (k + 1)
        rw [flat_take_succ tb l k hk, List.length_append] at h2
        have h3 : l[k].size ≤ (tb l[k]).length := by rw [tb, List.length_append, bytesOf_length]; omega
        rw [tsb, List.length_append] at h1
        rw [List.length_append]; omega)
      go_wp2_with (go_at_call 58; refine (text g _ _ w0 _ HI.out HB.out HLL.out).mono ?_; rintro e w2 ⟨rfl, hi, hb⟩; have HI2 := Aside0.mk hi; have HB2 := Aside0.mk hb; clear hi hb)
      go_roundw
      case rel =>
        refine ⟨k + 1, by go_num, ⟨hk⟩, ⟨?_⟩, HB2⟩
        rw [flat_take_succ tb l k hk, ← List.append_assoc]
        exact HI2.out
      case measure => simp [intOf]; omega
    · have hkb : decide ((k : Int) < (l.length : Int)) = false := decide_eq_false (by omega)
      have hkn : decide (k < l.length) = false := decide_eq_false hk
      go_wp2
      go_end0
      have e : k = l.length := by have := HK.out; omega
      subst e
      refine ⟨rfl, ?_, HB.out⟩
      have h1 := HI.out
      rw [List.take_length] at h1
      exact h1


def codec_Put.f (l0 : List Int) : Option (List Int × Int × Int) := if 100000 < (l0.length : Int) then some ([], 2, -1) else some (nsb l0, 0, 0)
set_option maxHeartbeats 8000000 in
set_option maxRecDepth 100000 in
theorem codec_Put.calls (A0 : Option Addr) (c0 : Nat) (l0 : List Int) (r1 : List Int) (r2 : Int) (r3 : Int) (w : World) (hr0 : Kd.C (Kd.int .i64) w A0 l0.length l0) (hc0 : l0.length ≤ c0) (h : codec_Put.f l0 = some (r1, r2, r3)) :
    Calls Try.prog 21 #[.slice A0 l0.length c0] w fun e w' => ∃ v0_ : Value, e = .returned (.tuple #[v0_, .agg #[.int .i64 r2, .int .i64 r3]]) ∧ Kd.R (Kd.int .u8) 5 w' w.heap.size (fun _ => True) v0_ r1 ∧ Below w.heap.size w w' := by
  have HR := Aside0.mk hr0
  clear hr0 hc0
  unfold codec_Put.f at h
  have hG := blk_new w (.cells #[.int .i64 0, .int .i64 0] 27)
  have hc27_0 : (w.alloc (.cells #[.int .i64 0, .int .i64 0] 27)).cell? ⟨w.heap.size, 0, none⟩ = some (.int .i64 0) := (blk_cell hG 0).trans rfl
  have hc27_1 : (w.alloc (.cells #[.int .i64 0, .int .i64 0] 27)).cell? ⟨w.heap.size, 1, none⟩ = some (.int .i64 0) := (blk_cell hG 1).trans rfl
  have hf27_0 := blk_frozen hG 0
  have hf27_1 := blk_frozen hG 1
  have HG := Aside0.mk hG
  clear hG
  have hu27 := Try.underlying27
  have hu86 := Try.underlying86
  by_cases c : 100000 < (l0.length : Int)
  · rw [if_pos c] at h
    simp only [Option.some.injEq, Prod.mk.injEq] at h
    obtain ⟨rfl, rfl, rfl⟩ := h
    have cb : decide ((100000 : Int) < (l0.length : Int)) = true := decide_eq_true c
    have cn : decide (100000 < l0.length) = true := decide_eq_true (by omega)
    clear c
    go_enter Try.func21, Try.ntmps21
    go_wp2
    refine bodyPost_ret (results_tc rfl _ _ w.heap.size 27 #[.int .i64 2, .int .i64 (-1)] (0, 0) _ rfl (blk_new w _) Try.underlying27 rfl (by kernel_rfl)) rfl ?_
    exact ⟨_, rfl, Kd.R_nil _ _ _ _ _, (Below.refl _ _).alloc (Nat.le_refl _) _⟩
  · rw [if_neg c] at h
    
    simp only [Option.some.injEq, Prod.mk.injEq] at h
    obtain ⟨rfl, rfl, rfl⟩ := h
    have hl : l0.length ≤ 100000 := by omega
    have HL := Aside0.mk hl
    have cb : decide ((100000 : Int) < (l0.length : Int)) = false := decide_eq_false c
    have cn : decide (100000 < l0.length) = false := decide_eq_false (by omega)
    clear c hl
    have hI : IsW (w.alloc (.cells #[.int .i64 0, .int .i64 0] 27)).heap.size ((w.alloc (.cells #[.int .i64 0, .int .i64 0] 27)).alloc (.cells #[.slice none 0 0] 86)) (w.heap.size + 1) [] :=
      ⟨.slice none 0 0, by simpa using blk_new (w.alloc (.cells #[.int .i64 0, .int .i64 0] 27)) (.cells #[.slice none 0 0] 86), by simp, Kd.R_nil _ _ _ _ _⟩
    have HI := Aside0.mk hI
    clear hI
    go_enter Try.func21, Try.ntmps21
    go_wp2_with (go_at_call 55; refine (listInt _ A0 c0 l0 (w.alloc (.cells #[.int .i64 0, .int .i64 0] 27)) _ (Kd.C_alloc HR.out _) HI.out ((Below.refl _ _).alloc (Nat.le_refl _) _) HL.out).mono ?_; rintro e w1 ⟨rfl, hi, hb⟩; obtain ⟨v, hg, hge, hr⟩ := hi; obtain ⟨A1, n1, c1, rfl⟩ := slice3 hr; have HB1 := Aside0.mk hb; have HR1 := Aside0.mk hr; have hc := (blk_cell hg 0).trans rfl; have hG1 := (hb.block w.heap.size (by simp)).trans HG.out; have HG1 := Aside0.mk hG1; have hc1_0 : w1.cell? ⟨w.heap.size, 0, none⟩ = some (.int .i64 0) := (blk_cell hG1 0).trans rfl; have hc1_1 : w1.cell? ⟨w.heap.size, 1, none⟩ = some (.int .i64 0) := (blk_cell hG1 1).trans rfl; have hf1_0 := blk_frozen hG1 0; have hf1_1 := blk_frozen hG1 1; clear hg hr hge hb hG1)
    refine bodyPost_ret (results_tc rfl _ _ w.heap.size 27 #[.int .i64 0, .int .i64 0] (0, 0) _ rfl (by refine blk_put (cs := #[.int .i64 0, .int .i64 0]) ?_ 1 _ rfl; refine blk_put (cs := #[.int .i64 0, .int .i64 0]) ?_ 0 _ rfl; exact HG1.out) Try.underlying27 rfl (by kernel_rfl)) rfl ?_
    refine ⟨_, rfl, Kd.R_lower (base := (w.alloc (.cells #[.int .i64 0, .int .i64 0] 27)).heap.size) (Kd.R_set (Kd.R_set HR1.out HG1.out (by simp [Kd.int, Kd.scalar]) 0 _) (blk_put HG1.out 0 _ rfl) (by simp [Kd.int, Kd.scalar]) 1 _) (by simp), below_set (below_set (((Below.refl w.heap.size w).alloc (Nat.le_refl _) _).trans (HB1.out.mono (by simp))) (Nat.le_refl _)) (Nat.le_refl _)⟩

def codec_PutText.f (l0 : List ByteArray) : Option (List Int × Int × Int) := if 100000 < (l0.length : Int) then some ([], 2, -1) else if (tsb l0).length < 50000000000 then some (tsb l0, 0, 0) else none
set_option maxHeartbeats 8000000 in
set_option maxRecDepth 100000 in
theorem codec_PutText.calls (A0 : Option Addr) (c0 : Nat) (l0 : List ByteArray) (r1 : List Int) (r2 : Int) (r3 : Int) (w : World) (hr0 : Kd.C Kd.string w A0 l0.length l0) (hc0 : l0.length ≤ c0) (h : codec_PutText.f l0 = some (r1, r2, r3)) :
    Calls Try.prog 22 #[.slice A0 l0.length c0] w fun e w' => ∃ v0_ : Value, e = .returned (.tuple #[v0_, .agg #[.int .i64 r2, .int .i64 r3]]) ∧ Kd.R (Kd.int .u8) 5 w' w.heap.size (fun _ => True) v0_ r1 ∧ Below w.heap.size w w' := by
  have HR := Aside0.mk hr0
  clear hr0 hc0
  unfold codec_PutText.f at h
  have hG := blk_new w (.cells #[.int .i64 0, .int .i64 0] 27)
  have hc27_0 : (w.alloc (.cells #[.int .i64 0, .int .i64 0] 27)).cell? ⟨w.heap.size, 0, none⟩ = some (.int .i64 0) := (blk_cell hG 0).trans rfl
  have hc27_1 : (w.alloc (.cells #[.int .i64 0, .int .i64 0] 27)).cell? ⟨w.heap.size, 1, none⟩ = some (.int .i64 0) := (blk_cell hG 1).trans rfl
  have hf27_0 := blk_frozen hG 0
  have hf27_1 := blk_frozen hG 1
  have HG := Aside0.mk hG
  clear hG
  have hu27 := Try.underlying27
  have hu86 := Try.underlying86
  by_cases c : 100000 < (l0.length : Int)
  · rw [if_pos c] at h
    simp only [Option.some.injEq, Prod.mk.injEq] at h
    obtain ⟨rfl, rfl, rfl⟩ := h
    have cb : decide ((100000 : Int) < (l0.length : Int)) = true := decide_eq_true c
    have cn : decide (100000 < l0.length) = true := decide_eq_true (by omega)
    clear c
    go_enter Try.func22, Try.ntmps22
    go_wp2
    refine bodyPost_ret (results_tc rfl _ _ w.heap.size 27 #[.int .i64 2, .int .i64 (-1)] (0, 0) _ rfl (blk_new w _) Try.underlying27 rfl (by kernel_rfl)) rfl ?_
    exact ⟨_, rfl, Kd.R_nil _ _ _ _ _, (Below.refl _ _).alloc (Nat.le_refl _) _⟩
  · rw [if_neg c] at h
    have c2 : (tsb l0).length < 50000000000 := by
      refine Decidable.byContradiction fun c2 => ?_
      rw [if_neg c2] at h; exact absurd h (by simp)
    rw [if_pos c2] at h
    have HT := Aside0.mk c2
    clear c2
    simp only [Option.some.injEq, Prod.mk.injEq] at h
    obtain ⟨rfl, rfl, rfl⟩ := h
    have hl : l0.length ≤ 100000 := by omega
    have HL := Aside0.mk hl
    have cb : decide ((100000 : Int) < (l0.length : Int)) = false := decide_eq_false c
    have cn : decide (100000 < l0.length) = false := decide_eq_false (by omega)
    clear c hl
    have hI : IsW (w.alloc (.cells #[.int .i64 0, .int .i64 0] 27)).heap.size ((w.alloc (.cells #[.int .i64 0, .int .i64 0] 27)).alloc (.cells #[.slice none 0 0] 86)) (w.heap.size + 1) [] :=
      ⟨.slice none 0 0, by simpa using blk_new (w.alloc (.cells #[.int .i64 0, .int .i64 0] 27)) (.cells #[.slice none 0 0] 86), by simp, Kd.R_nil _ _ _ _ _⟩
    have HI := Aside0.mk hI
    clear hI
    go_enter Try.func22, Try.ntmps22
    go_wp2_with (go_at_call 57; refine (listStr _ A0 c0 l0 (w.alloc (.cells #[.int .i64 0, .int .i64 0] 27)) _ (Kd.C_alloc HR.out _) HI.out ((Below.refl _ _).alloc (Nat.le_refl _) _) HT.out).mono ?_; rintro e w1 ⟨rfl, hi, hb⟩; obtain ⟨v, hg, hge, hr⟩ := hi; obtain ⟨A1, n1, c1, rfl⟩ := slice3 hr; have HB1 := Aside0.mk hb; have HR1 := Aside0.mk hr; have hc := (blk_cell hg 0).trans rfl; have hG1 := (hb.block w.heap.size (by simp)).trans HG.out; have HG1 := Aside0.mk hG1; have hc1_0 : w1.cell? ⟨w.heap.size, 0, none⟩ = some (.int .i64 0) := (blk_cell hG1 0).trans rfl; have hc1_1 : w1.cell? ⟨w.heap.size, 1, none⟩ = some (.int .i64 0) := (blk_cell hG1 1).trans rfl; have hf1_0 := blk_frozen hG1 0; have hf1_1 := blk_frozen hG1 1; clear hg hr hge hb hG1)
    refine bodyPost_ret (results_tc rfl _ _ w.heap.size 27 #[.int .i64 0, .int .i64 0] (0, 0) _ rfl (by refine blk_put (cs := #[.int .i64 0, .int .i64 0]) ?_ 1 _ rfl; refine blk_put (cs := #[.int .i64 0, .int .i64 0]) ?_ 0 _ rfl; exact HG1.out) Try.underlying27 rfl (by kernel_rfl)) rfl ?_
    refine ⟨_, rfl, Kd.R_lower (base := (w.alloc (.cells #[.int .i64 0, .int .i64 0] 27)).heap.size) (Kd.R_set (Kd.R_set HR1.out HG1.out (by simp [Kd.int, Kd.scalar]) 0 _) (blk_put HG1.out 0 _ rfl) (by simp [Kd.int, Kd.scalar]) 1 _) (by simp), below_set (below_set (((Below.refl w.heap.size w).alloc (Nat.le_refl _) _).trans (HB1.out.mono (by simp))) (Nat.le_refl _)) (Nat.le_refl _)⟩
end Go.Proofs.Ytipjpdiianopcaa.Cw
