/- codec.Get decodes exactly the encodings of lists of numbers: for every list of bytes. -/
import Derived.Test.YtipjpdiianopcaaBx4
import Derived.Test.YtipjpdiianopcaaCe
namespace Go.Proofs.Ytipjpdiianopcaa.Pure
open Go.RowKit Go.Proofs.Ytipjpdiianopcaa.A Go.Proofs.Ytipjpdiianopcaa.B Go.Proofs.Ytipjpdiianopcaa.Cw Go.Proofs.Ytipjpdiianopcaa.Cr Go.Proofs.Ytipjpdiianopcaa.Cp Go.Proofs.Ytipjpdiianopcaa.Ce Go.Proofs.YtipjpdiianopcaaW.PrintWords Go.Proofs.YtipjpdiianopcaaW.PrintLast

theorem u8_bt {l : List Int} (h : ∀ x ∈ l, (Lit.int .u8 x).wf = true) : Bt l := fun x hx => by
  have := h x hx
  simpa [Lit.wf, IntKind.min, IntKind.max, IntKind.signed, IntKind.bits] using this
theorem CodecGetMatchesSpec : linkhouselaw1_CodecGetMatchesSpec.Pure := by
  intro b _ _ hw
  have hb := u8_bt hw
  refine ⟨b.length + 200, ?_⟩
  unfold linkhouselaw1_CodecGetMatchesSpec.f
  rw [example_f _ (by omega)]
  simp only [Option.bind_some, if_true]
  unfold codec_Get.f
  by_cases c : 200000 < (b.length : Int)
  · rw [if_pos c]
    simp only [Option.bind_some, linkhouseref1_At.f]
    rw [if_pos c]
    simp
  · rw [if_neg c]
    obtain ⟨out, ok, h1, h2⟩ := numbersOf_f b hb (by omega) (b.length + 200) (by omega)
    rcases h2 with ⟨rfl, h2⟩ | ⟨rfl, h2⟩
    · rw [h2]
      rw [if_neg (by simp)]
      simp only [Option.bind_some]
      rw [if_neg c, h1]
      simp only [Option.bind_some, if_true]
      have hlen : out.length ≤ b.length := by
        obtain ⟨i', h5, h6, _, h7⟩ := rL_only (rN b) nb I64 b hb (num_only b hb) out _ h2
        have := congrArg List.length h7
        have := flat_ge nb nb_ne out
        simp only [List.length_append] at *
        omega
      rw [ints_f _ out (by omega) (by omega)]
      rfl
    · rw [if_pos h2]
      simp only [Option.bind_some]
      rw [if_neg c, h1]
      simp [linkhouseref1_At.f]
end Go.Proofs.Ytipjpdiianopcaa.Pure
