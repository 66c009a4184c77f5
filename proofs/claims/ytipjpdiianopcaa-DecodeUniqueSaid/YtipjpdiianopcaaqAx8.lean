/- Words and contracts for the laws of encode. -/
import Derived.Test.YtipjpdiianopcaaqAx0
import Derived.Test.YtipjpdiianopcaaqAx2
import Derived.Test.YtipjpdiianopcaaqAx7
namespace Go.Proofs.Ytipjpdiianopcaa.A
open Go.RowKit Go.Proofs.YtipjpdiianopcaaW.dF Go.Proofs.YtipjpdiianopcaaW.fO Go.Proofs.YtipjpdiianopcaaW.jP
attribute [local go_sem] mV mW oO oP lC lD mX mY
set_option linter.unusedVariables false
set_option linter.unusedSimpArgs false
def pM.f (k:Nat) (jI:ByteArray) (jU:Int) (fD:List Int) (bY:ByteArray) (jO:Int) (Ug:List Int):Option (Bool):=if jI.toList=bY.toList then ((eF.f k fD Ug).bind fun t194=>(some t194)) else (some false)
set_option maxHeartbeats 8000000 in
set_option maxRecDepth 100000 in
theorem pM.calls (k:Nat) (jI:ByteArray) (jU:Int) (uJ:Option Addr) (qW:Nat) (fD:List Int) (bY:ByteArray) (jO:Int) (aHw:Option Addr) (aHx:Nat) (Ug:List Int) (r:Bool) (w:World) (He:Kd.C (Kd.int .i64) w uJ fD.length fD) (Hf:fD.length≤qW) (aPa:Kd.C (Kd.int .i64) w aHw Ug.length Ug) (aPb:Ug.length≤aHx) (h:pM.f k jI jU fD bY jO Ug=some r) :
  Calls Try.prog 40 #[.agg #[.string jI,.int .i64 jU,.slice uJ fD.length qW],.agg #[.string bY,.int .i64 jO,.slice aHw Ug.length aHx]] w fun e w'=>e=.returned (.bool r)∧Below w.heap.size w w':=by
 have Jf:=Try.underlying54
 have JD:=aA.mk He
 have Xw:=aA.mk Hf
 clear He Hf
 have aVW:=aA.mk aPa
 have aVX:=aA.mk aPb
 clear aPa aPb
 have HB:=aA.mk (Below.refl w.heap.size w)
 have H:(if jI.toList=bY.toList then ((eF.f k fD Ug).bind fun t194=>(some t194)) else (some false))=some r:=h
 clear h
 by_cases c3:jI.toList=bY.toList
 ·rw [if_pos c3] at H
  have LC:(jI.toList==bY.toList)=true:=beq_iff_eq.mpr c3
  have Xy:(jI.toList != bY.toList)=false:=bne_eq_false_iff_eq.mpr c3
  clear c3
  replace H:=Option.bind_eq_some_iff.mp H
  obtain ⟨t194,XZ,H⟩:=H
  replace H:(some t194)=some r:=H
  have A4:=aA.mk XZ
  clear XZ
  obtain rfl:=Option.some.inj H
  go_enter Try.func40,Try.ntmps40
  go_wp2_with (first|((with_reducible refine dH (N:=2) rfl ?_);refine dB ?hg (N:=2) ?hd (cs:=#[.string jI,.int .i64 jU,.slice uJ fD.length qW]) (t:=54) ?hr ?_;(case hd=>rfl);(case hg=>rfl);(case hr=>first|(go_simp;done)|(go_simp;rfl));intro DL hg w5 hbox hb;have bT:=aA.mk (aT (dG HB.out) hb);have bW:=aA.mk (hbox);have dA:=aA.mk ((by rw [hg];exact (aN (dG HB.out)):w.heap.size≤DL));have dN:=aA.mk ((by rw [hg];exact (aN (dG HB.out)):w.heap.size≤DL));clear HB;have HB:=bT;have BZ:=bW;have aVY:=dA;have RX:=dN;clear bT bW dA dN;clear hb hbox hg)|((with_reducible refine dH (N:=3) rfl ?_);refine dB ?hg (N:=3) ?hd (cs:=#[.string bY,.int .i64 jO,.slice aHw Ug.length aHx]) (t:=54) ?hr ?_;(case hd=>rfl);(case hg=>rfl);(case hr=>first|(go_simp;done)|(go_simp;rfl));intro Jo hg w6 hbox hb;have bT:=aA.mk (aK (g:=DL) (o:=.cells #[.string jI,.int .i64 jU,.slice uJ fD.length qW] 54 (0,0)) (aH BZ.out) hb);have bW:=aA.mk (aT (bV HB.out RX.out) hb);have dA:=aA.mk (hbox);have dN:=aA.mk ((by rw [hg];exact (aN (bV HB.out RX.out)):w.heap.size≤Jo));have eY:=aA.mk ((by rw [hg];exact (aN (bV HB.out RX.out)):w.heap.size≤Jo));have fV:=aA.mk ((by rw [hg];exact Nat.ne_of_lt (bU (g:=DL) (o:=.cells #[.string jI,.int .i64 jU,.slice uJ fD.length qW] 54 (0,0)) (aH BZ.out)):DL≠Jo));have jA:=aA.mk ((by rw [hg];exact Nat.ne_of_gt (bU (g:=DL) (o:=.cells #[.string jI,.int .i64 jU,.slice uJ fD.length qW] 54 (0,0)) (aH BZ.out)):Jo≠DL));clear BZ HB;have BZ:=bT;have HB:=bW;have KL:=dA;have aVZ:=dN;have aJu:=eY;have Uh:=fV;have Ui:=jA;clear bT bW dA dN eY fV jA;clear hb hbox hg;have aUw:=Uh.out;have aUx:=Ui.out;have aDt:w6.cell? ⟨DL,0,none⟩=some (.string jI):=(aC BZ.out 0).trans rfl;have aDu:w6.cell? ⟨DL,1,none⟩=some (.int .i64 jU):=(aC BZ.out 1).trans rfl;have aRV:w6.cell? ⟨DL,2,none⟩=some (.slice uJ fD.length qW):=(aC BZ.out 2).trans rfl;have aDv:=aG BZ.out 0;have aDw:=aG BZ.out 1;have aRW:=aG BZ.out 2;have XE:w6.cell? ⟨Jo,0,none⟩=some (.string bY):=(aC KL.out 0).trans rfl;have XF:w6.cell? ⟨Jo,1,none⟩=some (.int .i64 jO):=(aC KL.out 1).trans rfl;have aDD:w6.cell? ⟨Jo,2,none⟩=some (.slice aHw Ug.length aHx):=(aC KL.out 2).trans rfl;have XG:=aG KL.out 0;have XH:=aG KL.out 1;have aDE:=aG KL.out 2)|(go_at_call 29;(with_reducible refine (eF.calls k _ _ fD _ _ Ug t194 _ ?fJ ?fK ?gK ?iI A4.out).mono ?_);(case fJ=>repeat (first|exact (Kd.dP JD.out HB.out)|(with_reducible refine Kd.fG ?_ _)|(with_reducible refine Kd.fC ?_ _)|(with_reducible refine Kd.gJ ?_)));(case fK=>exact Xw.out);(case gK=>repeat (first|exact (Kd.dP aVW.out HB.out)|(with_reducible refine Kd.fG ?_ _)|(with_reducible refine Kd.fC ?_ _)|(with_reducible refine Kd.gJ ?_)));(case iI=>exact aVX.out);rintro e w' ⟨rfl,⟨nd,rfl⟩⟩))
  go_ret
  exact ⟨by first|rfl|(simp [bK,bM] <;> rfl)|(simp [*,bK,bM] <;> rfl),dK HB.out RX.out aJu.out⟩
 ·rw [if_neg c3] at H
  have LC:(jI.toList==bY.toList)=false:=beq_eq_false_iff_ne.mpr c3
  have Xy:(jI.toList != bY.toList)=true:=bne_iff_ne.mpr c3
  obtain rfl:=Option.some.inj H
  go_enter Try.func40,Try.ntmps40
  go_wp2_with (first|((with_reducible refine dH (N:=2) rfl ?_);refine dB ?hg (N:=2) ?hd (cs:=#[.string jI,.int .i64 jU,.slice uJ fD.length qW]) (t:=54) ?hr ?_;(case hd=>rfl);(case hg=>rfl);(case hr=>first|(go_simp;done)|(go_simp;rfl));intro DL hg w10 hbox hb;have bT:=aA.mk (aT (dG HB.out) hb);have bW:=aA.mk (hbox);have dA:=aA.mk ((by rw [hg];exact (aN (dG HB.out)):w.heap.size≤DL));have dN:=aA.mk ((by rw [hg];exact (aN (dG HB.out)):w.heap.size≤DL));clear HB;have HB:=bT;have BZ:=bW;have aVY:=dA;have RX:=dN;clear bT bW dA dN;clear hb hbox hg)|((with_reducible refine dH (N:=3) rfl ?_);refine dB ?hg (N:=3) ?hd (cs:=#[.string bY,.int .i64 jO,.slice aHw Ug.length aHx]) (t:=54) ?hr ?_;(case hd=>rfl);(case hg=>rfl);(case hr=>first|(go_simp;done)|(go_simp;rfl));intro Jo hg RY hbox hb;have bT:=aA.mk (aK (g:=DL) (o:=.cells #[.string jI,.int .i64 jU,.slice uJ fD.length qW] 54 (0,0)) (aH BZ.out) hb);have bW:=aA.mk (aT (bV HB.out RX.out) hb);have dA:=aA.mk (hbox);have dN:=aA.mk ((by rw [hg];exact (aN (bV HB.out RX.out)):w.heap.size≤Jo));have eY:=aA.mk ((by rw [hg];exact (aN (bV HB.out RX.out)):w.heap.size≤Jo));have fV:=aA.mk ((by rw [hg];exact Nat.ne_of_lt (bU (g:=DL) (o:=.cells #[.string jI,.int .i64 jU,.slice uJ fD.length qW] 54 (0,0)) (aH BZ.out)):DL≠Jo));have jA:=aA.mk ((by rw [hg];exact Nat.ne_of_gt (bU (g:=DL) (o:=.cells #[.string jI,.int .i64 jU,.slice uJ fD.length qW] 54 (0,0)) (aH BZ.out)):Jo≠DL));clear BZ HB;have BZ:=bT;have HB:=bW;have KL:=dA;have aVZ:=dN;have aJu:=eY;have Uh:=fV;have Ui:=jA;clear bT bW dA dN eY fV jA;clear hb hbox hg;have XA:=Uh.out;have XB:=Ui.out;have JG:RY.cell? ⟨DL,0,none⟩=some (.string jI):=(aC BZ.out 0).trans rfl;have JH:RY.cell? ⟨DL,1,none⟩=some (.int .i64 jU):=(aC BZ.out 1).trans rfl;have aFa:RY.cell? ⟨DL,2,none⟩=some (.slice uJ fD.length qW):=(aC BZ.out 2).trans rfl;have JI:=aG BZ.out 0;have JJ:=aG BZ.out 1;have aFb:=aG BZ.out 2;have VY:RY.cell? ⟨Jo,0,none⟩=some (.string bY):=(aC KL.out 0).trans rfl;have VZ:RY.cell? ⟨Jo,1,none⟩=some (.int .i64 jO):=(aC KL.out 1).trans rfl;have aLS:RY.cell? ⟨Jo,2,none⟩=some (.slice aHw Ug.length aHx):=(aC KL.out 2).trans rfl;have We:=aG KL.out 0;have Wh:=aG KL.out 1;have aLT:=aG KL.out 2))
  go_ret
  exact ⟨by first|rfl|(simp [bK,bM] <;> rfl)|(simp [*,bK,bM] <;> rfl),dK HB.out RX.out aJu.out⟩
def iC.l0:Nat→ByteArray→Int→Option (Bool)
 | 0,_,_=>none
 | k+1,x0,x3=>if x3<(x0.size:Int) then (if 0≤x3 then ((bI.f (wrap64 (bt x0 x3)) 97 122).bind fun aMv=>(if aMv=true then (iC.l0 k x0 (wrap64 (x3+1))) else (some false))) else (none)) else ((bI.f (x0.size:Int) 1 16).bind fun t196=>(some t196))
def iC.f (k:Nat) (a0:ByteArray):Option (Bool):=iC.l0 k a0 0
set_option maxHeartbeats 8000000 in
set_option maxRecDepth 100000 in
theorem iC.calls (k:Nat) (a0:ByteArray) (r:Bool) (w:World) (h:iC.f k a0=some r) :
  Calls Try.prog 67 #[.string a0] w fun e w'=>e=.returned (.bool r)∧gQ w w':=by
 have H:(iC.l0 k a0 0)=some r:=h
 clear h
 have H':=aA.mk H
 clear H
 go_enter Try.func67,Try.ntmps67
 go_wp2
 go_loopg [3] k (fun kq v3 w'=>∃ (fF:Int),v3=.int .i64 fF∧aA (iC.l0 kq a0 fF=some r)∧aA (kq≤k)∧gQ w w')
 case atStart=>exact ⟨(0),gV,H',⟨Nat.le_refl _⟩,by repeat (first|exact gQ.refl _|apply gQ.step)⟩
 case round =>
  clear H'
  obtain ⟨fF,rfl,HA,wU,⟨m1,rfl⟩⟩:=hrel
  cases gk with
  | zero=>exact absurd HA.out (by simp [iC.l0])
  | succ k1 =>
   have H:=HA.out;clear HA;simp only [iC.l0] at H
   by_cases c2:fF<(a0.size:Int)
   ·rw [if_pos c2] at H;have aAy:decide (fF<(a0.size:Int))=true:=fB c2;clear c2
    by_cases c3:0≤fF
    ·rw [if_pos c3] at H;have LC:decide (0≤fF)=true:=fB c3;clear c3;replace H:=Option.bind_eq_some_iff.mp H;obtain ⟨aMv,A50,H⟩:=H;replace H:(if aMv=true then (iC.l0 k1 a0 (wrap64 (fF+1))) else (some false))=some r:=H;have A5:=aA.mk A50;clear A50
     by_cases c6:aMv=true
     ·subst c6;have H1:(iC.l0 k1 a0 (wrap64 (fF+1)))=some r:=by rw [if_pos rfl] at H;exact H
      clear H;have H:=H1;clear H1;have H':=aA.mk H;clear H;have p4:0≤(fF:Int):=dU dW;have q4:fF<(a0.size:Int):=dU dW;have hx4:=RU a0 fF;replace p4:=eq_true p4;replace q4:=eq_true q4
      go_wp2_with (first|((with_reducible refine cO (f:=36) rfl ?_);refine gI (some 14) rfl rfl Try.func36 aQ rfl #[.int .i64 (wrap64 (bt a0 fF)),.int .i64 97,.int .i64 122] rfl fP ?_;(with_reducible refine (bI.calls (wrap64 (bt a0 fF)) 97 122 true _ A5.out).mono ?_);rintro e w' ⟨rfl,⟨nd,rfl⟩⟩;refine ⟨_,rfl,?_⟩))
      go_roundg k1
      case measure=>have:=wU.out;omega
      case rel=>exact ⟨(wrap64 (fF+1)),gV,H',⟨by have:=wU.out;omega⟩,by repeat (first|exact gQ.refl _|apply gQ.step)⟩
     ·replace c6:=Bool.eq_false_iff.mpr c6;subst c6;have H1:(some false)=some r:=by rw [if_neg (show ¬ (false=true) by decide)] at H;exact H
      clear H;have H:=H1;clear H1;obtain rfl:=Option.some.inj H;have p4:0≤(fF:Int):=dU dW;have q4:fF<(a0.size:Int):=dU dW;have hx4:=RU a0 fF;replace p4:=eq_true p4;replace q4:=eq_true q4
      go_wp2_with (first|((with_reducible refine cO (f:=36) rfl ?_);refine gI (some 14) rfl rfl Try.func36 aQ rfl #[.int .i64 (wrap64 (bt a0 fF)),.int .i64 97,.int .i64 122] rfl fP ?_;(with_reducible refine (bI.calls (wrap64 (bt a0 fF)) 97 122 false _ A5.out).mono ?_);rintro e w' ⟨rfl,⟨nd,rfl⟩⟩;refine ⟨_,rfl,?_⟩))
      go_ret
      exact ⟨by first|rfl|(simp;done)|(simp [*];done),by repeat (first|exact gQ.refl _|apply gQ.step)⟩
    ·rw [if_neg c3] at H;exact absurd H (by simp)
   ·rw [if_neg c2] at H;have aAy:decide (fF<(a0.size:Int))=false:=kT c2;clear c2;replace H:=Option.bind_eq_some_iff.mp H;obtain ⟨t196,A70,H⟩:=H;replace H:(some t196)=some r:=H;have A7:=aA.mk A70;clear A70;obtain rfl:=Option.some.inj H
    go_wp2_with (first|((with_reducible refine cO (f:=36) rfl ?_);refine gI (some 18) rfl rfl Try.func36 aQ rfl #[.int .i64 (a0.size:Int),.int .i64 1,.int .i64 16] rfl fP ?_;(with_reducible refine (bI.calls (a0.size:Int) 1 16 t196 _ A7.out).mono ?_);rintro e w' ⟨rfl,⟨nd,rfl⟩⟩;refine ⟨_,rfl,?_⟩))
    go_ret
    exact ⟨by first|rfl|(simp;done)|(simp [*];done),by repeat (first|exact gQ.refl _|apply gQ.step)⟩
end Go.Proofs.Ytipjpdiianopcaa.A
