/- What codec.Put and codec.PutText write is read again: for every list of numbers and every list of texts of at most 1048576 bytes together. -/
import Derived.Test.YtipjpdiianopcaaBx5
import Derived.Test.YtipjpdiianopcaaCe
namespace Go.Proofs.Ytipjpdiianopcaa.Pure
open Go.RowKit Go.Proofs.Ytipjpdiianopcaa.A Go.Proofs.Ytipjpdiianopcaa.B Go.Proofs.Ytipjpdiianopcaa.Cw Go.Proofs.Ytipjpdiianopcaa.Cr Go.Proofs.Ytipjpdiianopcaa.Cp Go.Proofs.Ytipjpdiianopcaa.Ce Go.Proofs.YtipjpdiianopcaaW.PrintWords Go.Proofs.YtipjpdiianopcaaW.PrintLast

theorem flat_tb_len5 : ∀ s : List ByteArray, (s.flatMap tb).length ≤ s.length * 10 + (s.map ByteArray.size).sum
  | [] => by simp
  | x :: s => by
    have h1 := flat_tb_len5 s
    have h2 := nb_len (x.size : Int)
    have h3 : (bytesOf x).length = x.size := bytesOf_length x
    simp only [List.flatMap_cons, List.length_append, List.length_cons, List.map_cons, List.sum_cons, tb]
    omega
theorem tsb_len5 (s : List ByteArray) : (tsb s).length ≤ 10 + s.length * 10 + (s.map ByteArray.size).sum := by
  have h1 := flat_tb_len5 s
  have h2 := nb_len (s.length : Int)
  rw [tsb, List.length_append]; omega
theorem get_of_nsb (l : List Int) (hl : ∀ x ∈ l, I64 x) (hn : l.length ≤ 100000) (ht : ¬ 200000 < ((nsb l).length : Int)) : codec_Get.f (nsb l) = some (l, 0, 0) := by
  have hb : Bt (nsb l) := nsb_bt l
  have hn' : l.length < 1000000000000 := by omega
  have hr := rL_yes (rN (nsb l)) nb I64 (nsb l) hb nb_ne (num_yes _ hb) l hl hn' [] (by rw [nsb, List.append_nil])
  have hlen : (nsb l).length = (nb l.length).length + (l.flatMap nb).length := by rw [nsb, List.length_append]
  generalize nsb l = b at *
  unfold codec_Get.f
  rw [if_neg ht, hr, if_neg (by rintro (h | h); exact nomatch h; exact h (by rw [hlen]))]
theorem get_of_tsb (l : List ByteArray) (hn : l.length ≤ 100000) (ht : ¬ 200000 < ((tsb l).length : Int)) : codec_GetText.f (tsb l) = some (l, 0, 0) := by
  have hb : Bt (tsb l) := tsb_bt l
  have hn' : l.length < 1000000000000 := by omega
  have hr := rL_yes (rT (tsb l)) tb (fun _ => True) (tsb l) hb tb_pos (txt_yes _ hb (by omega)) l (fun _ _ => trivial) hn' [] (by rw [tsb, List.append_nil])
  have hlen : (tsb l).length = (nb l.length).length + (l.flatMap tb).length := by rw [tsb, List.length_append]
  generalize tsb l = b at *
  unfold codec_GetText.f
  rw [if_neg ht, hr, if_neg (by rintro (h | h); exact nomatch h; exact h (by rw [hlen]))]
theorem j0_true (k : Nat) (l : List Int) (s : List ByteArray) (x y : List Int) (a b c d : Int) : linkhouselaw1_CodecRoundTrip.j0 (k + 1) l s x y true a b c d = some true := by
  rw [linkhouselaw1_CodecRoundTrip.j0]
  rw [if_pos rfl]
theorem j0_false (k : Nat) (l : List Int) (s : List ByteArray) (hl : ∀ x ∈ l, I64 x) (h1 : l.length ≤ 100000) (h2 : s.length ≤ 100000) (h3 : ¬ 200000 < ((nsb l).length : Int)) (h4 : ¬ 200000 < ((tsb s).length : Int)) (hk : 200000 < k) :
    linkhouselaw1_CodecRoundTrip.j0 (k + 1) l s (nsb l) (tsb s) false 0 0 0 0 = some true := by
  rw [linkhouselaw1_CodecRoundTrip.j0]
  rw [if_neg (by simp), get_of_nsb l hl h1 h3, Option.bind_some, get_of_tsb s h2 h4, Option.bind_some]
  dsimp only
  rw [if_pos rfl, if_pos rfl, if_pos rfl, if_pos rfl, ints_f _ l (by omega) (by omega), Option.bind_some, if_pos rfl, strings_f _ s (by omega) (by omega)]
  rfl
theorem CodecRoundTrip (l : List Int) (s : List ByteArray) (hl : ∀ x ∈ l, I64 x) (hs : (s.map ByteArray.size).sum ≤ 1048576) : ∃ k, linkhouselaw1_CodecRoundTrip.f k l s = some true := by
  refine ⟨(l.length + s.length + 300000) + 1, ?_⟩
  unfold linkhouselaw1_CodecRoundTrip.f
  rw [example_f _ (by omega), Option.bind_some, if_pos rfl]
  have hlen := tsb_len5 s
  by_cases c : 100000 < (l.length : Int)
  · obtain ⟨t, a, b, ht⟩ : ∃ t a b, codec_PutText.f s = some (t, a, b) := by
      unfold codec_PutText.f
      by_cases c : 100000 < (s.length : Int)
      · exact ⟨_, _, _, if_pos c⟩
      · rw [if_neg c]
        exact ⟨_, _, _, if_pos (by omega)⟩
    rw [ht]
    unfold codec_Put.f
    rw [if_pos c, Option.bind_some, Option.bind_some, if_pos c, j0_true]
  · have hp : codec_Put.f l = some (nsb l, 0, 0) := by unfold codec_Put.f; rw [if_neg c]
    rw [hp, Option.bind_some]
    by_cases c2 : 100000 < (s.length : Int)
    · have ht : codec_PutText.f s = some ([], 2, -1) := by unfold codec_PutText.f; rw [if_pos c2]
      rw [ht, Option.bind_some, if_neg c, if_pos c2, j0_true]
    · have ht : codec_PutText.f s = some (tsb s, 0, 0) := by unfold codec_PutText.f; rw [if_neg c2, if_pos (by omega)]
      rw [ht, Option.bind_some, if_neg c, if_neg c2]
      dsimp only
      by_cases c3 : 200000 < ((nsb l).length : Int)
      · rw [if_pos c3, j0_true]
      · rw [if_neg c3]
        by_cases c4 : 200000 < ((tsb s).length : Int)
        · rw [decide_eq_true c4, j0_true]
        · rw [decide_eq_false c4, j0_false _ l s hl (by omega) (by omega) c3 c4 (by omega)]
end Go.Proofs.Ytipjpdiianopcaa.Pure
