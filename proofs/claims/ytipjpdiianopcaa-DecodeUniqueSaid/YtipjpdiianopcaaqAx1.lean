/- Words and contracts for the laws of encode. -/
import Derived.Test.YtipjpdiianopcaaqAx0
namespace Go.Proofs.Ytipjpdiianopcaa.A
open Go.RowKit Go.Proofs.YtipjpdiianopcaaW.dF Go.Proofs.YtipjpdiianopcaaW.fO Go.Proofs.YtipjpdiianopcaaW.jP
attribute [local go_sem] mV mW oO oP lC lD mX mY
set_option linter.unusedVariables false
set_option linter.unusedSimpArgs false
def bF.f (l0:List Int) (l1:List Int):Option (Bool):=some ((strOfNums l0).toList==(strOfNums l1).toList)
set_option maxHeartbeats 8000000 in
set_option maxRecDepth 100000 in
theorem bF.calls (A0:Option Addr) (c0:Nat) (l0:List Int) (A1:Option Addr) (c1:Nat) (l1:List Int) (r:Bool) (w:World) (hr0:Kd.C (Kd.int .u8) w A0 l0.length l0) (hc0:l0.length≤c0) (hr1:Kd.C (Kd.int .u8) w A1 l1.length l1) (hc1:l1.length≤c1) (h:bF.f l0 l1=some r) :
  Calls Try.prog 24 #[.slice A0 l0.length c0,.slice A1 l1.length c1] w fun e w'=>e=.returned (.bool r)∧gQ w w':=by
 have HR0:=aA.mk hr0
 have Am:=aA.mk hc0
 clear hr0 hc0
 have HR1:=aA.mk hr1
 have Gj:=aA.mk hc1
 clear hr1 hc1
 have H:(some ((strOfNums l0).toList==(strOfNums l1).toList))=some r:=h
 clear h
 obtain rfl:=Option.some.inj H
 have bKP:=Kd.aBI (P:=Try.prog) (A:=A0) (c:=c0) Try.underlying25 Try.underlying5 Try.underlying9 HR0.out
 have bKQ:=Kd.aBI (P:=Try.prog) (A:=A1) (c:=c1) Try.underlying25 Try.underlying5 Try.underlying9 HR1.out
 go_enter Try.func24,Try.ntmps24
 go_wp2
 go_ret
 exact ⟨by first|rfl|(simp;done)|(simp [*];done),by repeat (first|exact gQ.refl _|apply gQ.step)⟩
end Go.Proofs.Ytipjpdiianopcaa.A
