/- What codec.GetText decodes is encoded by the same bytes: for every list of bytes. -/
import Derived.Test.YtipjpdiianopcaaBx6
import Derived.Test.YtipjpdiianopcaaCe
namespace Go.Proofs.Ytipjpdiianopcaa.Pure
open Go.RowKit Go.Proofs.Ytipjpdiianopcaa.A Go.Proofs.Ytipjpdiianopcaa.B Go.Proofs.Ytipjpdiianopcaa.Cw Go.Proofs.Ytipjpdiianopcaa.Cr Go.Proofs.Ytipjpdiianopcaa.Cp Go.Proofs.Ytipjpdiianopcaa.Ce Go.Proofs.YtipjpdiianopcaaW.PrintWords Go.Proofs.YtipjpdiianopcaaW.PrintLast

theorem u8_bt2 {l : List Int} (h : ∀ x ∈ l, (Lit.int .u8 x).wf = true) : Bt l := fun x hx => by
  have := h x hx
  simpa [Lit.wf, IntKind.min, IntKind.max, IntKind.signed, IntKind.bits] using this
theorem CodecTextUnique : linkhouselaw1_CodecTextUnique.Pure := by
  intro b _ _ hw
  have hb := u8_bt2 hw
  refine ⟨b.length + 200, ?_⟩
  unfold linkhouselaw1_CodecTextUnique.f
  rw [example_f _ (by omega)]
  simp only [Option.bind_some, if_true]
  unfold codec_GetText.f
  by_cases c : 200000 < (b.length : Int)
  · rw [if_pos c]
    simp only [Option.bind_some, linkhouseref1_At.f]
    rw [if_pos c]
    simp
  · rw [if_neg c]
    by_cases g : (rL (rT b) b).2.2 = true ∨ (rL (rT b) b).2.1 ≠ (b.length : Int)
    · rw [if_pos g]
      simp only [Option.bind_some]
      rw [if_neg c]
      simp [linkhouseref1_At.f]
    · rw [if_neg g]
      simp only [not_or, Bool.not_eq_true, ne_eq, Decidable.not_not] at g
      obtain ⟨s, a, bd, hr⟩ : ∃ s a bd, rL (rT b) b = (s, a, bd) := ⟨_, _, _, rfl⟩
      rw [hr] at g ⊢
      obtain ⟨h1, h2⟩ := g
      have h1' : bd = false := h1
      have h2' : a = (b.length : Int) := h2
      subst h1' h2'
      obtain ⟨i', h5, h6, _, h7⟩ := rL_only (rT b) tb (fun _ => True) b hb (txt_only b hb) s _ hr
      have e : i' = b.length := by omega
      rw [e, List.drop_length, List.append_nil] at h7
      have hts : tsb s = b := h7.symm
      have hlen : s.length ≤ b.length := by
        have := congrArg List.length h7
        have := flat_ge tb tb_pos s
        simp only [List.length_append] at *
        omega
      simp only [Option.bind_some]
      rw [if_neg c, if_pos trivial, textsCode_f _ s (by omega) (by rw [hts]; omega) (by omega), hts]
      simp only [Option.bind_some]
      rw [bytes_f b b hb hb]
      simp
end Go.Proofs.Ytipjpdiianopcaa.Pure
