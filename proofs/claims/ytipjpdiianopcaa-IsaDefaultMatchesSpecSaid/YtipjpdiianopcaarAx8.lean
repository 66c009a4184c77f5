/- Words and contracts for the laws. -/
import Derived.Test.YtipjpdiianopcaarAx0
import Derived.Test.YtipjpdiianopcaarAx2
import Derived.Test.YtipjpdiianopcaarAx7
namespace Go.Proofs.Ytipjpdiianopcaa.A
open Go.RowKit Go.Proofs.YtipjpdiianopcaaW.aZ Go.Proofs.YtipjpdiianopcaaW.dQ Go.Proofs.YtipjpdiianopcaaW.gW
attribute [local go_sem] jY jZ kY kZ jD jE kC kD
set_option linter.unusedVariables false
set_option linter.unusedSimpArgs false
def fF.f (k:Nat) (iH:ByteArray) (iI:Int) (dS:List Int) (vK:ByteArray) (EN:Int) (wX:List Int):Option (Bool):=if iH.toList=vK.toList then ((dU.f k dS wX).bind fun t194=>(some t194)) else (some false)
set_option maxHeartbeats 8000000 in
set_option maxRecDepth 100000 in
theorem fF.calls (k:Nat) (iH:ByteArray) (iI:Int) (kU:Option Addr) (kR:Nat) (dS:List Int) (vK:ByteArray) (EN:Int) (IP:Option Addr) (IQ:Nat) (wX:List Int) (r:Bool) (w:World) (sS:Kd.C (Kd.int .i64) w kU dS.length dS) (sU:dS.length≤kR) (PR:Kd.C (Kd.int .i64) w IP wX.length wX) (PS:wX.length≤IQ) (h:fF.f k iH iI dS vK EN wX=some r) :
  Calls Try.prog 40 #[.agg #[.string iH,.int .i64 iI,.slice kU dS.length kR],.agg #[.string vK,.int .i64 EN,.slice IP wX.length IQ]] w fun e w'=>e=.returned (.bool r)∧Below w.heap.size w w':=by
 have vH:=Try.underlying54
 have uH:=aA.mk sS
 have Du:=aA.mk sU
 clear sS sU
 have TR:=aA.mk PR
 have TS:=aA.mk PS
 clear PR PS
 have HB:=aA.mk (Below.refl w.heap.size w)
 have H:(if iH.toList=vK.toList then ((dU.f k dS wX).bind fun t194=>(some t194)) else (some false))=some r:=h
 clear h
 by_cases c3:iH.toList=vK.toList
 ·rw [if_pos c3] at H
  have vG:(iH.toList==vK.toList)=true:=beq_iff_eq.mpr c3
  have Ju:(iH.toList != vK.toList)=false:=bne_eq_false_iff_eq.mpr c3
  clear c3
  replace H:=Option.bind_eq_some_iff.mp H
  obtain ⟨t194,TT,H⟩:=H
  replace H:(some t194)=some r:=H
  have A4:=aA.mk TT
  clear TT
  obtain rfl:=Option.some.inj H
  go_enter Try.func40,Try.ntmps40
  go_wp2_with (first|((with_reducible refine bC (N:=2) rfl ?_);refine eX ?hg (N:=2) ?hd (cs:=#[.string iH,.int .i64 iI,.slice kU dS.length kR]) (t:=54) ?hr ?_;(case hd=>rfl);(case hg=>rfl);(case hr=>first|(go_simp;done)|(go_simp;rfl));intro mX hg w5 hbox hb;have bU:=aA.mk (aN (bM HB.out) hb);have bV:=aA.mk (hbox);have bZ:=aA.mk ((by rw [hg];exact (aQ (bM HB.out)):w.heap.size≤mX));have jF:=aA.mk ((by rw [hg];exact (aQ (bM HB.out)):w.heap.size≤mX));clear HB;have HB:=bU;have mF:=bV;have TU:=bZ;have vM:=jF;clear bU bV bZ jF;clear hb hbox hg)|((with_reducible refine bC (N:=3) rfl ?_);refine eX ?hg (N:=3) ?hd (cs:=#[.string vK,.int .i64 EN,.slice IP wX.length IQ]) (t:=54) ?hr ?_;(case hd=>rfl);(case hg=>rfl);(case hr=>first|(go_simp;done)|(go_simp;rfl));intro pM hg w6 hbox hb;have bU:=aA.mk (bJ (g:=mX) (o:=.cells #[.string iH,.int .i64 iI,.slice kU dS.length kR] 54 (0,0)) (aU mF.out) hb);have bV:=aA.mk (aN (dA HB.out vM.out) hb);have bZ:=aA.mk (hbox);have jF:=aA.mk ((by rw [hg];exact (aQ (dA HB.out vM.out)):w.heap.size≤pM));have mQ:=aA.mk ((by rw [hg];exact (aQ (dA HB.out vM.out)):w.heap.size≤pM));have mM:=aA.mk ((by rw [hg];exact Nat.ne_of_lt (gU (g:=mX) (o:=.cells #[.string iH,.int .i64 iI,.slice kU dS.length kR] 54 (0,0)) (aU mF.out)):mX≠pM));have sF:=aA.mk ((by rw [hg];exact Nat.ne_of_gt (gU (g:=mX) (o:=.cells #[.string iH,.int .i64 iI,.slice kU dS.length kR] 54 (0,0)) (aU mF.out)):pM≠mX));clear mF HB;have mF:=bU;have HB:=bV;have qU:=bZ;have TV:=jF;have JI:=mQ;have wY:=mM;have wZ:=sF;clear bU bV bZ jF mQ mM sF;clear hb hbox hg;have aDY:=wY.out;have aDZ:=wZ.out;have Jm:w6.cell? ⟨mX,0,none⟩=some (.string iH):=(aJ mF.out 0).trans rfl;have Jn:w6.cell? ⟨mX,1,none⟩=some (.int .i64 iI):=(aJ mF.out 1).trans rfl;have Qw:w6.cell? ⟨mX,2,none⟩=some (.slice kU dS.length kR):=(aJ mF.out 2).trans rfl;have Jo:=aI mF.out 0;have Jp:=aI mF.out 1;have Qx:=aI mF.out 2;have JA:w6.cell? ⟨pM,0,none⟩=some (.string vK):=(aJ qU.out 0).trans rfl;have JB:w6.cell? ⟨pM,1,none⟩=some (.int .i64 EN):=(aJ qU.out 1).trans rfl;have Qy:w6.cell? ⟨pM,2,none⟩=some (.slice IP wX.length IQ):=(aJ qU.out 2).trans rfl;have JC:=aI qU.out 0;have JD:=aI qU.out 1;have Qz:=aI qU.out 2)|(go_at_call 29;(with_reducible refine (dU.calls k _ _ dS _ _ wX t194 _ ?nS ?nT ?vN ?vO A4.out).mono ?_);(case nS=>repeat (first|exact (Kd.gI uH.out HB.out)|(with_reducible refine Kd.gZ ?_ _)|(with_reducible refine Kd.iC ?_ _)|(with_reducible refine Kd.iU ?_)));(case nT=>exact Du.out);(case vN=>repeat (first|exact (Kd.gI TR.out HB.out)|(with_reducible refine Kd.gZ ?_ _)|(with_reducible refine Kd.iC ?_ _)|(with_reducible refine Kd.iU ?_)));(case vO=>exact TS.out);rintro e w' ⟨rfl,⟨nd,rfl⟩⟩))
  go_ret
  exact ⟨by first|rfl|(simp [aX,aY] <;> rfl)|(simp [*,aX,aY] <;> rfl),fJ HB.out vM.out JI.out⟩
 ·rw [if_neg c3] at H
  have vG:(iH.toList==vK.toList)=false:=beq_eq_false_iff_ne.mpr c3
  have Ju:(iH.toList != vK.toList)=true:=bne_iff_ne.mpr c3
  obtain rfl:=Option.some.inj H
  go_enter Try.func40,Try.ntmps40
  go_wp2_with (first|((with_reducible refine bC (N:=2) rfl ?_);refine eX ?hg (N:=2) ?hd (cs:=#[.string iH,.int .i64 iI,.slice kU dS.length kR]) (t:=54) ?hr ?_;(case hd=>rfl);(case hg=>rfl);(case hr=>first|(go_simp;done)|(go_simp;rfl));intro mX hg w10 hbox hb;have bU:=aA.mk (aN (bM HB.out) hb);have bV:=aA.mk (hbox);have bZ:=aA.mk ((by rw [hg];exact (aQ (bM HB.out)):w.heap.size≤mX));have jF:=aA.mk ((by rw [hg];exact (aQ (bM HB.out)):w.heap.size≤mX));clear HB;have HB:=bU;have mF:=bV;have TU:=bZ;have vM:=jF;clear bU bV bZ jF;clear hb hbox hg)|((with_reducible refine bC (N:=3) rfl ?_);refine eX ?hg (N:=3) ?hd (cs:=#[.string vK,.int .i64 EN,.slice IP wX.length IQ]) (t:=54) ?hr ?_;(case hd=>rfl);(case hg=>rfl);(case hr=>first|(go_simp;done)|(go_simp;rfl));intro pM hg JJ hbox hb;have bU:=aA.mk (bJ (g:=mX) (o:=.cells #[.string iH,.int .i64 iI,.slice kU dS.length kR] 54 (0,0)) (aU mF.out) hb);have bV:=aA.mk (aN (dA HB.out vM.out) hb);have bZ:=aA.mk (hbox);have jF:=aA.mk ((by rw [hg];exact (aQ (dA HB.out vM.out)):w.heap.size≤pM));have mQ:=aA.mk ((by rw [hg];exact (aQ (dA HB.out vM.out)):w.heap.size≤pM));have mM:=aA.mk ((by rw [hg];exact Nat.ne_of_lt (gU (g:=mX) (o:=.cells #[.string iH,.int .i64 iI,.slice kU dS.length kR] 54 (0,0)) (aU mF.out)):mX≠pM));have sF:=aA.mk ((by rw [hg];exact Nat.ne_of_gt (gU (g:=mX) (o:=.cells #[.string iH,.int .i64 iI,.slice kU dS.length kR] 54 (0,0)) (aU mF.out)):pM≠mX));clear mF HB;have mF:=bU;have HB:=bV;have qU:=bZ;have TV:=jF;have JI:=mQ;have wY:=mM;have wZ:=sF;clear bU bV bZ jF mQ mM sF;clear hb hbox hg;have TW:=wY.out;have TY:=wZ.out;have Bj:JJ.cell? ⟨mX,0,none⟩=some (.string iH):=(aJ mF.out 0).trans rfl;have Bl:JJ.cell? ⟨mX,1,none⟩=some (.int .i64 iI):=(aJ mF.out 1).trans rfl;have MO:JJ.cell? ⟨mX,2,none⟩=some (.slice kU dS.length kR):=(aJ mF.out 2).trans rfl;have Bo:=aI mF.out 0;have Bq:=aI mF.out 1;have MP:=aI mF.out 2;have Wh:JJ.cell? ⟨pM,0,none⟩=some (.string vK):=(aJ qU.out 0).trans rfl;have Wi:JJ.cell? ⟨pM,1,none⟩=some (.int .i64 EN):=(aJ qU.out 1).trans rfl;have Wj:JJ.cell? ⟨pM,2,none⟩=some (.slice IP wX.length IQ):=(aJ qU.out 2).trans rfl;have Wl:=aI qU.out 0;have Wn:=aI qU.out 1;have Wp:=aI qU.out 2))
  go_ret
  exact ⟨by first|rfl|(simp [aX,aY] <;> rfl)|(simp [*,aX,aY] <;> rfl),fJ HB.out vM.out JI.out⟩
def bW.l0:Nat→ByteArray→Int→Option (Bool)
 | 0,_,_=>none
 | k+1,x0,x3=>if x3<(x0.size:Int) then (if 0≤x3 then ((dL.f (wrap64 (bt x0 x3)) 97 122).bind fun MX=>(if MX=true then (bW.l0 k x0 (wrap64 (x3+1))) else (some false))) else (none)) else ((dL.f (x0.size:Int) 1 16).bind fun t196=>(some t196))
def bW.f (k:Nat) (a0:ByteArray):Option (Bool):=bW.l0 k a0 0
set_option maxHeartbeats 8000000 in
set_option maxRecDepth 100000 in
theorem bW.calls (k:Nat) (a0:ByteArray) (r:Bool) (w:World) (h:bW.f k a0=some r) :
  Calls Try.prog 67 #[.string a0] w fun e w'=>e=.returned (.bool r)∧dH w w':=by
 have H:(bW.l0 k a0 0)=some r:=h
 clear h
 have H':=aA.mk H
 clear H
 go_enter Try.func67,Try.ntmps67
 go_wp2
 go_loopg [3] k (fun kq v3 w'=>∃ (bG:Int),v3=.int .i64 bG∧aA (bW.l0 kq a0 bG=some r)∧aA (kq≤k)∧dH w w')
 case atStart=>exact ⟨(0),fB,H',⟨Nat.le_refl _⟩,by repeat (first|exact dH.refl _|apply dH.step)⟩
 case round =>
  clear H'
  obtain ⟨bG,rfl,HA,rE,⟨m1,rfl⟩⟩:=hrel
  cases gk with
  | zero=>exact absurd HA.out (by simp [bW.l0])
  | succ k1 =>
   have H:=HA.out;clear HA;simp only [bW.l0] at H
   by_cases c2:bG<(a0.size:Int)
   ·rw [if_pos c2] at H;have Jv:decide (bG<(a0.size:Int))=true:=eH c2;clear c2
    by_cases c3:0≤bG
    ·rw [if_pos c3] at H;have vG:decide (0≤bG)=true:=eH c3;clear c3;replace H:=Option.bind_eq_some_iff.mp H;obtain ⟨MX,QH,H⟩:=H;replace H:(if MX=true then (bW.l0 k1 a0 (wrap64 (bG+1))) else (some false))=some r:=H;have A5:=aA.mk QH;clear QH
     by_cases c6:MX=true
     ·subst c6;have H1:(bW.l0 k1 a0 (wrap64 (bG+1)))=some r:=by rw [if_pos rfl] at H;exact H
      clear H;have H:=H1;clear H1;have H':=aA.mk H;clear H;have p4:0≤(bG:Int):=dW dX;have q4:bG<(a0.size:Int):=dW dX;have hx4:=uG a0 bG;replace p4:=eq_true p4;replace q4:=eq_true q4
      go_wp2_with (first|((with_reducible refine cZ (f:=36) rfl ?_);refine gQ (some 14) rfl rfl Try.func36 aV rfl #[.int .i64 (wrap64 (bt a0 bG)),.int .i64 97,.int .i64 122] rfl fU ?_;(with_reducible refine (dL.calls (wrap64 (bt a0 bG)) 97 122 true _ A5.out).mono ?_);rintro e w' ⟨rfl,⟨nd,rfl⟩⟩;refine ⟨_,rfl,?_⟩))
      go_roundg k1
      case measure=>have:=rE.out;omega
      case rel=>exact ⟨(wrap64 (bG+1)),fB,H',⟨by have:=rE.out;omega⟩,by repeat (first|exact dH.refl _|apply dH.step)⟩
     ·replace c6:=Bool.eq_false_iff.mpr c6;subst c6;have H1:(some false)=some r:=by rw [if_neg (show ¬ (false=true) by decide)] at H;exact H
      clear H;have H:=H1;clear H1;obtain rfl:=Option.some.inj H;have p4:0≤(bG:Int):=dW dX;have q4:bG<(a0.size:Int):=dW dX;have hx4:=uG a0 bG;replace p4:=eq_true p4;replace q4:=eq_true q4
      go_wp2_with (first|((with_reducible refine cZ (f:=36) rfl ?_);refine gQ (some 14) rfl rfl Try.func36 aV rfl #[.int .i64 (wrap64 (bt a0 bG)),.int .i64 97,.int .i64 122] rfl fU ?_;(with_reducible refine (dL.calls (wrap64 (bt a0 bG)) 97 122 false _ A5.out).mono ?_);rintro e w' ⟨rfl,⟨nd,rfl⟩⟩;refine ⟨_,rfl,?_⟩))
      go_ret
      exact ⟨by first|rfl|(simp;done)|(simp [*];done),by repeat (first|exact dH.refl _|apply dH.step)⟩
    ·rw [if_neg c3] at H;exact absurd H (by simp)
   ·rw [if_neg c2] at H;have Jv:decide (bG<(a0.size:Int))=false:=iE c2;clear c2;replace H:=Option.bind_eq_some_iff.mp H;obtain ⟨t196,TZ,H⟩:=H;replace H:(some t196)=some r:=H;have A7:=aA.mk TZ;clear TZ;obtain rfl:=Option.some.inj H
    go_wp2_with (first|((with_reducible refine cZ (f:=36) rfl ?_);refine gQ (some 18) rfl rfl Try.func36 aV rfl #[.int .i64 (a0.size:Int),.int .i64 1,.int .i64 16] rfl fU ?_;(with_reducible refine (dL.calls (a0.size:Int) 1 16 t196 _ A7.out).mono ?_);rintro e w' ⟨rfl,⟨nd,rfl⟩⟩;refine ⟨_,rfl,?_⟩))
    go_ret
    exact ⟨by first|rfl|(simp;done)|(simp [*];done),by repeat (first|exact dH.refl _|apply dH.step)⟩
end Go.Proofs.Ytipjpdiianopcaa.A
