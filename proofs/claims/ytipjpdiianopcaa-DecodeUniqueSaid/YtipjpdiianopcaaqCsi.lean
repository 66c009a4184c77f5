/- Words and contracts for the laws of encode. -/
import Derived.Test.YtipjpdiianopcaaqAx0
import Derived.Test.YtipjpdiianopcaaqAx2
import Derived.Test.YtipjpdiianopcaaqAx7
import Derived.Test.YtipjpdiianopcaaqAx9
namespace Go.Proofs.Ytipjpdiianopcaa.A
open Go.RowKit Go.Proofs.YtipjpdiianopcaaW.dF Go.Proofs.YtipjpdiianopcaaW.fO Go.Proofs.YtipjpdiianopcaaW.jP
attribute [local go_sem] mV mW oO oP lC lD mX mY
set_option linter.unusedVariables false
set_option linter.unusedSimpArgs false
def dQ.f (k:Nat) (jI:Int) (MP:List Int) (bY:Int) (dR:List Int):Option (Bool):=if jI=bY then ((eF.f k MP dR).bind fun aIn=>(some aIn)) else (some false)
set_option maxHeartbeats 8000000 in
set_option maxRecDepth 100000 in
theorem dQ.calls (k:Nat) (jI:Int) (VS:Option Addr) (VT:Nat) (MP:List Int) (bY:Int) (iE:Option Addr) (gZ:Nat) (dR:List Int) (r:Bool) (w:World) (aQw:Kd.C (Kd.int .i64) w VS MP.length MP) (aQx:MP.length≤VT) (Dq:Kd.C (Kd.int .i64) w iE dR.length dR) (Dt:dR.length≤gZ) (h:dQ.f k jI MP bY dR=some r) :
  Calls Try.prog 51 #[.agg #[.int .i64 jI,.slice VS MP.length VT],.agg #[.int .i64 bY,.slice iE dR.length gZ]] w fun e w'=>e=.returned (.bool r)∧Below w.heap.size w w':=by
 have Kz:=Try.underlying65
 have bAx:=aA.mk aQw
 have bAy:=aA.mk aQx
 clear aQw aQx
 have AZ:=aA.mk Dq
 have Hg:=aA.mk Dt
 clear Dq Dt
 have HB:=aA.mk (Below.refl w.heap.size w)
 have H:(if jI=bY then ((eF.f k MP dR).bind fun aIn=>(some aIn)) else (some false))=some r:=h
 clear h
 by_cases c3:jI=bY
 ·rw [if_pos c3] at H
  have LC:(jI==bY)=true:=beq_iff_eq.mpr c3
  have Xy:(jI != bY)=false:=bne_eq_false_iff_eq.mpr c3
  clear c3
  replace H:=Option.bind_eq_some_iff.mp H
  obtain ⟨aIn,XZ,H⟩:=H
  replace H:(some aIn)=some r:=H
  have A4:=aA.mk XZ
  clear XZ
  obtain rfl:=Option.some.inj H
  go_enter Try.func51,Try.ntmps51
  go_wp2_with (first|((with_reducible refine dH (N:=2) rfl ?_);refine dB ?hg (N:=2) ?hd (cs:=#[.int .i64 jI,.slice VS MP.length VT]) (t:=65) ?hr ?_;(case hd=>rfl);(case hg=>rfl);(case hr=>first|(go_simp;done)|(go_simp;rfl));intro FV hg w5 hbox hb;have bT:=aA.mk (aT (dG HB.out) hb);have bW:=aA.mk (hbox);have dA:=aA.mk ((by rw [hg];exact (aN (dG HB.out)):w.heap.size≤FV));have dN:=aA.mk ((by rw [hg];exact (aN (dG HB.out)):w.heap.size≤FV));clear HB;have HB:=bT;have FW:=bW;have bAz:=dA;have TD:=dN;clear bT bW dA dN;clear hb hbox hg)|((with_reducible refine dH (N:=3) rfl ?_);refine dB ?hg (N:=3) ?hd (cs:=#[.int .i64 bY,.slice iE dR.length gZ]) (t:=65) ?hr ?_;(case hd=>rfl);(case hg=>rfl);(case hr=>first|(go_simp;done)|(go_simp;rfl));intro Lt hg w6 hbox hb;have bT:=aA.mk (aK (g:=FV) (o:=.cells #[.int .i64 jI,.slice VS MP.length VT] 65 (0,0)) (aH FW.out) hb);have bW:=aA.mk (aT (bV HB.out TD.out) hb);have dA:=aA.mk (hbox);have dN:=aA.mk ((by rw [hg];exact (aN (bV HB.out TD.out)):w.heap.size≤Lt));have eY:=aA.mk ((by rw [hg];exact (aN (bV HB.out TD.out)):w.heap.size≤Lt));have fV:=aA.mk ((by rw [hg];exact Nat.ne_of_lt (bU (g:=FV) (o:=.cells #[.int .i64 jI,.slice VS MP.length VT] 65 (0,0)) (aH FW.out)):FV≠Lt));have jA:=aA.mk ((by rw [hg];exact Nat.ne_of_gt (bU (g:=FV) (o:=.cells #[.int .i64 jI,.slice VS MP.length VT] 65 (0,0)) (aH FW.out)):Lt≠FV));clear FW HB;have FW:=bT;have HB:=bW;have TE:=dA;have bAA:=dN;have aLa:=eY;have UT:=fV;have UU:=jA;clear bT bW dA dN eY fV jA;clear hb hbox hg;have aUw:=UT.out;have aUx:=UU.out;have aDt:w6.cell? ⟨FV,0,none⟩=some (.int .i64 jI):=(aC FW.out 0).trans rfl;have aDu:w6.cell? ⟨FV,1,none⟩=some (.slice VS MP.length VT):=(aC FW.out 1).trans rfl;have aDv:=aG FW.out 0;have aDw:=aG FW.out 1;have XE:w6.cell? ⟨Lt,0,none⟩=some (.int .i64 bY):=(aC TE.out 0).trans rfl;have XF:w6.cell? ⟨Lt,1,none⟩=some (.slice iE dR.length gZ):=(aC TE.out 1).trans rfl;have XG:=aG TE.out 0;have XH:=aG TE.out 1)|(go_at_call 29;(with_reducible refine (eF.calls k _ _ MP _ _ dR aIn _ ?fJ ?fK ?gK ?iI A4.out).mono ?_);(case fJ=>repeat (first|exact (Kd.dP bAx.out HB.out)|(with_reducible refine Kd.fG ?_ _)|(with_reducible refine Kd.fC ?_ _)|(with_reducible refine Kd.gJ ?_)));(case fK=>exact bAy.out);(case gK=>repeat (first|exact (Kd.dP AZ.out HB.out)|(with_reducible refine Kd.fG ?_ _)|(with_reducible refine Kd.fC ?_ _)|(with_reducible refine Kd.gJ ?_)));(case iI=>exact Hg.out);rintro e w' ⟨rfl,⟨nd,rfl⟩⟩))
  go_ret
  exact ⟨by first|rfl|(simp [bK,bM] <;> rfl)|(simp [*,bK,bM] <;> rfl),dK HB.out TD.out aLa.out⟩
 ·rw [if_neg c3] at H
  have LC:(jI==bY)=false:=beq_eq_false_iff_ne.mpr c3
  have Xy:(jI != bY)=true:=bne_iff_ne.mpr c3
  obtain rfl:=Option.some.inj H
  go_enter Try.func51,Try.ntmps51
  go_wp2_with (first|((with_reducible refine dH (N:=2) rfl ?_);refine dB ?hg (N:=2) ?hd (cs:=#[.int .i64 jI,.slice VS MP.length VT]) (t:=65) ?hr ?_;(case hd=>rfl);(case hg=>rfl);(case hr=>first|(go_simp;done)|(go_simp;rfl));intro FV hg w10 hbox hb;have bT:=aA.mk (aT (dG HB.out) hb);have bW:=aA.mk (hbox);have dA:=aA.mk ((by rw [hg];exact (aN (dG HB.out)):w.heap.size≤FV));have dN:=aA.mk ((by rw [hg];exact (aN (dG HB.out)):w.heap.size≤FV));clear HB;have HB:=bT;have FW:=bW;have bAz:=dA;have TD:=dN;clear bT bW dA dN;clear hb hbox hg)|((with_reducible refine dH (N:=3) rfl ?_);refine dB ?hg (N:=3) ?hd (cs:=#[.int .i64 bY,.slice iE dR.length gZ]) (t:=65) ?hr ?_;(case hd=>rfl);(case hg=>rfl);(case hr=>first|(go_simp;done)|(go_simp;rfl));intro Lt hg RY hbox hb;have bT:=aA.mk (aK (g:=FV) (o:=.cells #[.int .i64 jI,.slice VS MP.length VT] 65 (0,0)) (aH FW.out) hb);have bW:=aA.mk (aT (bV HB.out TD.out) hb);have dA:=aA.mk (hbox);have dN:=aA.mk ((by rw [hg];exact (aN (bV HB.out TD.out)):w.heap.size≤Lt));have eY:=aA.mk ((by rw [hg];exact (aN (bV HB.out TD.out)):w.heap.size≤Lt));have fV:=aA.mk ((by rw [hg];exact Nat.ne_of_lt (bU (g:=FV) (o:=.cells #[.int .i64 jI,.slice VS MP.length VT] 65 (0,0)) (aH FW.out)):FV≠Lt));have jA:=aA.mk ((by rw [hg];exact Nat.ne_of_gt (bU (g:=FV) (o:=.cells #[.int .i64 jI,.slice VS MP.length VT] 65 (0,0)) (aH FW.out)):Lt≠FV));clear FW HB;have FW:=bT;have HB:=bW;have TE:=dA;have bAA:=dN;have aLa:=eY;have UT:=fV;have UU:=jA;clear bT bW dA dN eY fV jA;clear hb hbox hg;have XA:=UT.out;have XB:=UU.out;have JG:RY.cell? ⟨FV,0,none⟩=some (.int .i64 jI):=(aC FW.out 0).trans rfl;have JH:RY.cell? ⟨FV,1,none⟩=some (.slice VS MP.length VT):=(aC FW.out 1).trans rfl;have JI:=aG FW.out 0;have JJ:=aG FW.out 1;have VY:RY.cell? ⟨Lt,0,none⟩=some (.int .i64 bY):=(aC TE.out 0).trans rfl;have VZ:RY.cell? ⟨Lt,1,none⟩=some (.slice iE dR.length gZ):=(aC TE.out 1).trans rfl;have We:=aG TE.out 0;have Wh:=aG TE.out 1))
  go_ret
  exact ⟨by first|rfl|(simp [bK,bM] <;> rfl)|(simp [*,bK,bM] <;> rfl),dK HB.out TD.out aLa.out⟩
end Go.Proofs.Ytipjpdiianopcaa.A
