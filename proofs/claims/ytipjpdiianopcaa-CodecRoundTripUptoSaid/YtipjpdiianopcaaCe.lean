/- The examples of the document hold: codecExample answers true. -/
import Derived.Test.YtipjpdiianopcaaCw
import Derived.Test.YtipjpdiianopcaaCg
import Derived.Test.YtipjpdiianopcaaAx1
import Derived.Test.YtipjpdiianopcaaAx2
import Derived.Test.YtipjpdiianopcaaBx2
import Derived.Test.YtipjpdiianopcaaCt
namespace Go.Proofs.Ytipjpdiianopcaa.Ce
open Go.RowKit Go.Proofs.YtipjpdiianopcaaW.PrintWords Go.Proofs.YtipjpdiianopcaaW.PrintLast Go.Proofs.YtipjpdiianopcaaW.PrintMore Go.Proofs.Ytipjpdiianopcaa.A Go.Proofs.Ytipjpdiianopcaa.Cw Go.Proofs.Ytipjpdiianopcaa.Cr Go.Proofs.Ytipjpdiianopcaa.Cp Go.Proofs.Ytipjpdiianopcaa.B
set_option linter.unusedVariables false
set_option linter.unusedSimpArgs false

theorem nb1 : nb 1 = [2] := by have h : zg 1 = 2 := (by decide +kernel); unfold nb; rw [h]; exact vb_small _ (by decide)
theorem nbm1 : nb (-1) = [1] := by have h : zg (-1) = 1 := (by decide +kernel); unfold nb; rw [h]; exact vb_small _ (by decide)
theorem nb2 : nb 2 = [4] := by have h : zg 2 = 4 := (by decide +kernel); unfold nb; rw [h]; exact vb_small _ (by decide)
theorem put_ex : codec_Put.f [1, -1] = some ([4, 2, 1], 0, 0) := by
  unfold codec_Put.f nsb
  rw [if_neg (by decide)]
  simp [nb1, nbm1, nb2]
theorem putText_ex : codec_PutText.f [⟨#[97, 98]⟩] = some ([2, 4, 97, 98], 0, 0) := by
  have e : tsb [⟨#[97, 98]⟩] = [2, 4, 97, 98] := by
    have h : nb ((⟨#[97, 98]⟩ : ByteArray).size : Int) = [4] := nb2
    have h2 : nb (([⟨#[97, 98]⟩] : List ByteArray).length : Int) = [2] := nb1
    have h3 : bytesOf ⟨#[97, 98]⟩ = [97, 98] := by decide +kernel
    unfold tsb tb
    rw [h2]
    simp [h, h3]
  unfold codec_PutText.f
  rw [if_neg (by decide), e, if_pos (by decide)]
theorem get_ex : codec_Get.f [4, 2, 1] = some ([1, -1], 0, 0) := by decide +kernel
theorem getText_ex : codec_GetText.f [2, 4, 97, 98] = some ([⟨#[97, 98]⟩], 0, 0) := by decide +kernel
theorem bytes1_ex : linkhouseref1_Bytes.f [4, 2, 1] [4, 2, 1] = some true := by decide +kernel
theorem bytes2_ex : linkhouseref1_Bytes.f [2, 4, 97, 98] [2, 4, 97, 98] = some true := by decide +kernel
theorem ints_ex : linkhouseref1_Ints.f 9 [1, -1] [1, -1] = some true := by decide +kernel
theorem strings_ex : linkhouseref1_Strings.f 9 [⟨#[97, 98]⟩] [⟨#[97, 98]⟩] = some true := by decide +kernel

theorem example_f (k : Nat) (hk : 9 ≤ k) : linkhouselaw1_codecExample.f k = some true := by
  unfold linkhouselaw1_codecExample.f
  rw [put_ex, get_ex, putText_ex, getText_ex]
  simp only [Option.bind_some, if_true, bytes1_ex, bytes2_ex]
  rw [ints_f k [1, -1] (by decide) (by simp; omega), strings_f k [⟨#[97, 98]⟩] (by decide) (by simp; omega)]
  simp
end Go.Proofs.Ytipjpdiianopcaa.Ce
