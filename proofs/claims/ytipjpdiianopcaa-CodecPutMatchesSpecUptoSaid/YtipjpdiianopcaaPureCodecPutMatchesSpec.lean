/- codec.Put and codec.PutText write the encodings of lists: for every list of numbers and every list of texts of at most 1048576 bytes together. -/
import Derived.Test.YtipjpdiianopcaaBx3
import Derived.Test.YtipjpdiianopcaaCe
namespace Go.Proofs.Ytipjpdiianopcaa.Pure
open Go.RowKit Go.Proofs.Ytipjpdiianopcaa.A Go.Proofs.Ytipjpdiianopcaa.B Go.Proofs.Ytipjpdiianopcaa.Cw Go.Proofs.Ytipjpdiianopcaa.Cr Go.Proofs.Ytipjpdiianopcaa.Cp Go.Proofs.Ytipjpdiianopcaa.Ce Go.Proofs.YtipjpdiianopcaaW.PrintWords Go.Proofs.YtipjpdiianopcaaW.PrintLast

theorem at_f3 (x y : Int) : linkhouseref1_At.f x y = some (x, y) := rfl
theorem flat_tb_len : ∀ s : List ByteArray, (s.flatMap tb).length ≤ s.length * 10 + (s.map ByteArray.size).sum
  | [] => by simp
  | x :: s => by
    have h1 := flat_tb_len s
    have h2 := nb_len (x.size : Int)
    have h3 : (bytesOf x).length = x.size := bytesOf_length x
    simp only [List.flatMap_cons, List.length_append, List.length_cons, List.map_cons, List.sum_cons, tb]
    omega
theorem tsb_len (s : List ByteArray) : (tsb s).length ≤ 10 + s.length * 10 + (s.map ByteArray.size).sum := by
  have h1 := flat_tb_len s
  have h2 := nb_len (s.length : Int)
  rw [tsb, List.length_append]; omega
theorem put_j0 (k : Nat) (s : List ByteArray) (hs : (s.map ByteArray.size).sum ≤ 1048576) (t : List Int) (a b : Int) (h : codec_PutText.f s = some (t, a, b)) (hk : s.length + 200 ≤ k) : linkhouselaw1_CodecPutMatchesSpec.j0 k s t a b = some true := by
  obtain ⟨k, rfl⟩ : ∃ k', k = k' + 1 := ⟨k - 1, by omega⟩
  rw [linkhouselaw1_CodecPutMatchesSpec.j0]
  unfold codec_PutText.f at h
  by_cases c : (s.length : Int) > 100000
  · rw [if_pos c]
    rw [if_pos (by omega)] at h
    simp only [Option.some.injEq, Prod.mk.injEq] at h
    obtain ⟨rfl, rfl, rfl⟩ := h
    rw [at_f3]
    rfl
  · rw [if_neg c]
    have hl := tsb_len s
    rw [if_neg (by omega), if_pos (by omega)] at h
    simp only [Option.some.injEq, Prod.mk.injEq] at h
    obtain ⟨rfl, rfl, rfl⟩ := h
    rw [if_pos rfl, textsCode_f _ s (by omega) (by omega) (by omega)]
    simp only [Option.bind_some]
    rw [bytes_f _ _ (tsb_bt s) (tsb_bt s)]
    simp
theorem CodecPutMatchesSpec (l : List Int) (s : List ByteArray) (hl : ∀ x ∈ l, I64 x) (hs : (s.map ByteArray.size).sum ≤ 1048576) : ∃ k, linkhouselaw1_CodecPutMatchesSpec.f k l s = some true := by
  refine ⟨l.length + s.length + 200, ?_⟩
  unfold linkhouselaw1_CodecPutMatchesSpec.f
  rw [example_f _ (by omega), Option.bind_some, if_pos rfl]
  obtain ⟨t, a, b, ht⟩ : ∃ t a b, codec_PutText.f s = some (t, a, b) := by
    unfold codec_PutText.f
    have := tsb_len s
    by_cases c : 100000 < (s.length : Int)
    · exact ⟨_, _, _, if_pos c⟩
    · rw [if_neg c]
      exact ⟨_, _, _, if_pos (by omega)⟩
  have hj := put_j0 (l.length + s.length + 200) s hs t a b ht (by omega)
  rw [ht]
  unfold codec_Put.f
  by_cases c : 100000 < (l.length : Int)
  · rw [if_pos c, Option.bind_some, Option.bind_some, if_pos c, at_f3, Option.bind_some]
    dsimp only
    rw [hj]
    rfl
  · rw [if_neg c, Option.bind_some, Option.bind_some, if_neg c]
    dsimp only
    rw [if_pos rfl, numbersCode_f _ l hl (by omega) (by omega), Option.bind_some, bytes_f _ _ (nsb_bt l) (nsb_bt l), Option.bind_some, hj]
    simp
end Go.Proofs.Ytipjpdiianopcaa.Pure
