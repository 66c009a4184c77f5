/- No encoding of a list of numbers is a proper prefix of another one: for every list and every list of bytes behind its encoding. -/
import Derived.Test.YtipjpdiianopcaaBx7
import Derived.Test.YtipjpdiianopcaaCe
namespace Go.Proofs.Ytipjpdiianopcaa.Pure
open Go.RowKit Go.Proofs.Ytipjpdiianopcaa.A Go.Proofs.Ytipjpdiianopcaa.B Go.Proofs.Ytipjpdiianopcaa.Cw Go.Proofs.Ytipjpdiianopcaa.Cr Go.Proofs.Ytipjpdiianopcaa.Cp Go.Proofs.Ytipjpdiianopcaa.Ce Go.Proofs.YtipjpdiianopcaaW.PrintWords Go.Proofs.YtipjpdiianopcaaW.PrintLast

theorem u8_bt3 {l : List Int} (h : ∀ x ∈ l, (Lit.int .u8 x).wf = true) : Bt l := fun x hx => by
  have := h x hx
  simpa [Lit.wf, IntKind.min, IntKind.max, IntKind.signed, IntKind.bits] using this
theorem i64_all {l : List Int} (h : ∀ x ∈ l, (Lit.int .i64 x).wf = true) : ∀ x ∈ l, I64 x := fun x hx => by
  have := h x hx
  simpa [I64, Lit.wf, IntKind.min, IntKind.max, IntKind.signed, IntKind.bits] using this
theorem get_cases (b s : List Int) (a : Int) (bd : Bool) (hr : rL (rN b) b = (s, a, bd)) (hc : ¬ 200000 < (b.length : Int)) :
    codec_Get.f b = if bd = true ∨ a ≠ (b.length : Int) then some ([], 17, -2) else some (s, 0, 0) := by
  unfold codec_Get.f
  rw [if_neg hc, hr]
/-- What codec.Get answers on an encoding and what stands behind it. -/
theorem get_nsb (l : List Int) (m : List Int) (hl : ∀ x ∈ l, I64 x) (hm : Bt m) (hn : l.length ≤ 100000) (ht : ((nsb l).length : Int) + m.length ≤ 200000) :
    codec_Get.f (nsb l ++ m) = some (if m = [] then (l, 0, 0) else ([], 17, -2)) := by
  have hb : Bt (nsb l ++ m) := bt_append (nsb_bt l) hm
  have hn' : l.length < 1000000000000 := by omega
  have hr := rL_yes (rN (nsb l ++ m)) nb I64 (nsb l ++ m) hb nb_ne (num_yes _ hb) l hl hn' m (by rw [nsb])
  have hlen : (nsb l).length = (nb l.length).length + (l.flatMap nb).length := by rw [nsb, List.length_append]
  have hlen2 : (nsb l ++ m).length = (nsb l).length + m.length := List.length_append
  generalize nsb l ++ m = b at *
  have hc : ¬ 200000 < (b.length : Int) := by omega
  rw [get_cases b _ _ _ hr hc]
  by_cases e : m = []
  · have h0 : m.length = 0 := by rw [e]; rfl
    rw [if_neg (by rintro (h | h); exact nomatch h; omega), if_pos e]
  · have : 0 < m.length := List.length_pos_iff.2 e
    have h1 : ((((nb l.length).length + (l.flatMap nb).length : Nat) : Int)) ≠ (b.length : Int) := by omega
    rw [if_pos (Or.inr h1), if_neg e]
theorem at_f (x y : Int) : linkhouseref1_At.f x y = some (x, y) := rfl
theorem pf_core (k : Nat) (l m p : List Int) (hex : linkhouselaw1_codecExample.f k = some true) (hput : codec_Put.f l = some (p, 0, 0)) (hcopy : linkhouseref1_Copy.f p = some p)
    (hw : wrap64 ((p.length : Int) + (m.length : Int)) = (p.length : Int) + (m.length : Int))
    (hget : (p.length : Int) + (m.length : Int) ≤ 200000 → codec_Get.f (p ++ m) = some (if m = [] then (l, 0, 0) else ([], 17, -2)))
    (hints : linkhouseref1_Ints.f k l l = some true) : linkhouselaw1_CodecPrefixFree.f k l m = some true := by
  unfold linkhouselaw1_CodecPrefixFree.f
  rw [hex, Option.bind_some, if_pos rfl, hput, Option.bind_some]
  dsimp only
  rw [if_pos rfl, hw]
  by_cases c2 : (p.length : Int) + (m.length : Int) > 200000
  · rw [if_pos c2]
  · have hm : p.length + m.length < 140737488355328 := by omega
    rw [if_neg c2, hcopy, Option.bind_some, if_pos hm, hget (Int.not_lt.1 c2), Option.bind_some]
    by_cases e : m = []
    · have h0 : (m.length : Int) = 0 := by rw [e]; rfl
      rw [if_pos h0, if_pos e]
      dsimp only
      rw [if_pos rfl, hints, Option.bind_some, if_pos rfl]
    · have h1 : 0 < m.length := List.length_pos_iff.2 e
      have h2 : ¬ (m.length : Int) = 0 := by omega
      have h3 : (m.length : Int) > 0 := by omega
      rw [if_neg h2, if_pos h3, if_neg e, at_f, Option.bind_some]
      rfl
theorem put_len (l : List Int) : (nsb l).length ≤ 10 + l.length * 10 := by
  have h1 := nb_len l.length
  have h2 : ∀ m : List Int, (m.flatMap nb).length ≤ m.length * 10 := fun m => by
    induction m with
    | nil => simp
    | cons x m ih => have := nb_len x; simp only [List.flatMap_cons, List.length_append, List.length_cons]; omega
  have h3 := h2 l
  rw [nsb, List.length_append]; omega
theorem copy_f (p : List Int) (h : p.length < 140737488355328) : linkhouseref1_Copy.f p = some p := by
  unfold linkhouseref1_Copy.f
  rw [if_pos (by rw [List.length_nil, Nat.zero_add]; exact h), List.nil_append]
theorem wrap_len (a b : Nat) (ha : a ≤ 2000000) (hb : b ≤ 140737488351232) : wrap64 ((a : Int) + (b : Int)) = (a : Int) + (b : Int) := by
  unfold wrap64; omega
theorem put_small (l : List Int) (c : ¬ 100000 < (l.length : Int)) : codec_Put.f l = some (nsb l, 0, 0) := by
  unfold codec_Put.f
  rw [if_neg c]
theorem CodecPrefixFree : linkhouselaw1_CodecPrefixFree.Pure := by
  intro l m _ _ hw hm1 hm2 hw2
  have hl := i64_all hw
  have hm := u8_bt3 hw2
  refine ⟨l.length + 200, ?_⟩
  by_cases c : 100000 < (l.length : Int)
  · unfold linkhouselaw1_CodecPrefixFree.f
    rw [example_f _ (by omega), Option.bind_some, if_pos rfl]
    unfold codec_Put.f
    rw [if_pos c]
    simp
  · have h10 := put_len l
    have hp : (nsb l).length ≤ 2000000 := by omega
    have hmx : m.length ≤ 140737488351232 := by omega
    refine pf_core _ l m (nsb l) (example_f _ (by omega)) (put_small l c) (copy_f _ (by omega)) (wrap_len _ _ hp hmx) (fun h => get_nsb l m hl hm (by omega) h) (ints_f _ l (by omega) (by omega))
end Go.Proofs.Ytipjpdiianopcaa.Pure
