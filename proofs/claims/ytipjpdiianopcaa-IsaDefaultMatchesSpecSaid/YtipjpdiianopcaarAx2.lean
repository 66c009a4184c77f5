/- Words and contracts for the laws. -/
import Derived.Test.YtipjpdiianopcaarAx0
namespace Go.Proofs.Ytipjpdiianopcaa.A
open Go.RowKit Go.Proofs.YtipjpdiianopcaaW.aZ Go.Proofs.YtipjpdiianopcaaW.dQ Go.Proofs.YtipjpdiianopcaaW.gW
attribute [local go_sem] jY jZ kY kZ jD jE kC kD
set_option linter.unusedVariables false
set_option linter.unusedSimpArgs false
def dU.l0:Nat→List Int→List Int→Int→Option (Bool)
 | 0,_,_,_=>none
 | k+1,x0,x1,x5=>if x5<(x0.length:Int) then (if 0≤x5 then (if x5<(x1.length:Int) then (if (rd x0 x5)=(rd x1 x5) then (dU.l0 k x0 x1 (wrap64 (x5+1))) else (some false)) else (none)) else (none)) else (some true)
def dU.f (k:Nat) (l0:List Int) (l1:List Int):Option (Bool):=if (l0.length:Int)=(l1.length:Int) then (dU.l0 k l0 l1 0) else (some false)
set_option maxHeartbeats 8000000 in
set_option maxRecDepth 100000 in
theorem dU.calls (k:Nat) (A0:Option Addr) (c0:Nat) (l0:List Int) (A1:Option Addr) (c1:Nat) (l1:List Int) (r:Bool) (w:World) (hr0:Kd.C (Kd.int .i64) w A0 l0.length l0) (hc0:l0.length≤c0) (hr1:Kd.C (Kd.int .i64) w A1 l1.length l1) (hc1:l1.length≤c1) (h:dU.f k l0 l1=some r) :
  Calls Try.prog 29 #[.slice A0 l0.length c0,.slice A1 l1.length c1] w fun e w'=>e=.returned (.bool r)∧dH w w':=by
 have HR0:=aA.mk hr0
 have PE:=aA.mk hc0
 clear hr0 hc0
 have HR1:=aA.mk hr1
 have HC1:=aA.mk hc1
 clear hr1 hc1
 have H:(if (l0.length:Int)=(l1.length:Int) then (dU.l0 k l0 l1 0) else (some false))=some r:=h
 clear h
 by_cases c3:(l0.length:Int)=(l1.length:Int)
 ·rw [if_pos c3] at H
  have vG:((l0.length:Int)==(l1.length:Int))=true:=beq_iff_eq.mpr c3
  have Ju:((l0.length:Int) != (l1.length:Int))=false:=bne_eq_false_iff_eq.mpr c3
  have Za:(l0.length==l1.length)=true:=by first|simpa using c3|(simp at c3 ⊢;omega)
  clear c3
  have H':=aA.mk H
  clear H
  go_enter Try.func29,Try.ntmps29
  go_wp2
  repeat (go_quiet (fail);try go_wp2)
  go_loopg [5] k (fun kq v5 w'=>∃ (iP:Int),v5=.int .i64 iP∧aA (dU.l0 kq l0 l1 iP=some r)∧aA (kq≤k)∧dH w w')
  case atStart=>exact ⟨(0),fB,H',⟨Nat.le_refl _⟩,by repeat (first|exact dH.refl _|apply dH.step)⟩
  case round =>
   clear H';obtain ⟨iP,rfl,HA,rE,⟨m1,rfl⟩⟩:=hrel
   cases gk with
   | zero=>exact absurd HA.out (by simp [dU.l0])
   | succ k1 =>
    have H:=HA.out;clear HA;simp only [dU.l0] at H
    by_cases c4:iP<(l0.length:Int)
    ·rw [if_pos c4] at H;have vC:decide (iP<(l0.length:Int))=true:=eH c4;clear c4
     by_cases c5:0≤iP
     ·rw [if_pos c5] at H;have IL:decide (0≤iP)=true:=eH c5;clear c5
      by_cases c6:iP<(l1.length:Int)
      ·rw [if_pos c6] at H;have BA:decide (iP<(l1.length:Int))=true:=eH c6;clear c6
       by_cases c7:(rd l0 iP)=(rd l1 iP)
       ·rw [if_pos c7] at H;have vF:((rd l0 iP)==(rd l1 iP))=true:=beq_iff_eq.mpr c7;have IK:((rd l0 iP) != (rd l1 iP))=false:=bne_eq_false_iff_eq.mpr c7;clear c7;have H':=aA.mk H;clear H;have EE:0≤(iP:Int):=dW dX;have EF:iP<(l0.length:Int):=dW dX;obtain ⟨TI,Qn,MM⟩:=Kd.lU HR0.out iP EE EF
        cases Qn
        replace EE:=eq_true EE;replace EF:=eq_true EF;have EG:0≤(iP:Int):=dW dX;have EH:iP<(l1.length:Int):=dW dX;obtain ⟨TJ,Qo,MN⟩:=Kd.lU HR1.out iP EG EH
        cases Qo
        replace EG:=eq_true EG;replace EH:=eq_true EH
        go_wp2
        repeat (go_quiet (fail);try go_wp2)
        go_roundg k1
        case measure=>have:=rE.out;omega
        case rel=>exact ⟨(wrap64 (iP+1)),fB,H',⟨by have:=rE.out;omega⟩,by repeat (first|exact dH.refl _|apply dH.step)⟩
       ·rw [if_neg c7] at H;have vF:((rd l0 iP)==(rd l1 iP))=false:=beq_eq_false_iff_ne.mpr c7;have IK:((rd l0 iP) != (rd l1 iP))=true:=bne_iff_ne.mpr c7;obtain rfl:=Option.some.inj H;have EE:0≤(iP:Int):=dW dX;have EF:iP<(l0.length:Int):=dW dX;obtain ⟨TI,Qn,MM⟩:=Kd.lU HR0.out iP EE EF
        cases Qn
        replace EE:=eq_true EE;replace EF:=eq_true EF;have EG:0≤(iP:Int):=dW dX;have EH:iP<(l1.length:Int):=dW dX;obtain ⟨TJ,Qo,MN⟩:=Kd.lU HR1.out iP EG EH
        cases Qo
        replace EG:=eq_true EG;replace EH:=eq_true EH
        go_wp2
        repeat (go_quiet (fail);try go_wp2)
        go_ret
        exact ⟨by first|rfl|(simp;done)|(simp [*];done),by repeat (first|exact dH.refl _|apply dH.step)⟩
      ·rw [if_neg c6] at H;exact absurd H (by simp)
     ·rw [if_neg c5] at H;exact absurd H (by simp)
    ·rw [if_neg c4] at H;have vC:decide (iP<(l0.length:Int))=false:=iE c4;clear c4;obtain rfl:=Option.some.inj H
     go_wp2
     repeat (go_quiet (fail);try go_wp2)
     go_ret
     exact ⟨by first|rfl|(simp;done)|(simp [*];done),by repeat (first|exact dH.refl _|apply dH.step)⟩
 ·rw [if_neg c3] at H
  have vG:((l0.length:Int)==(l1.length:Int))=false:=beq_eq_false_iff_ne.mpr c3
  have Ju:((l0.length:Int) != (l1.length:Int))=true:=bne_iff_ne.mpr c3
  have Za:(l0.length==l1.length)=false:=by first|simpa using c3|(simp at c3 ⊢;omega)
  obtain rfl:=Option.some.inj H
  go_enter Try.func29,Try.ntmps29
  go_wp2
  repeat (go_quiet (fail);try go_wp2)
  go_ret
  exact ⟨by first|rfl|(simp;done)|(simp [*];done),by repeat (first|exact dH.refl _|apply dH.step)⟩
def bF.f (a0:Int) (a1:Int):Option (Int × Int):=some (a0,a1)
set_option maxHeartbeats 8000000 in
set_option maxRecDepth 100000 in
theorem bF.calls (a0:Int) (a1:Int) (r1:Int) (r2:Int) (w:World) (h:bF.f a0 a1=some (r1,r2)) :
  Calls Try.prog 23 #[.int .i64 a0,.int .i64 a1] w fun e w'=>e=.returned (.agg #[.int .i64 r1,.int .i64 r2])∧Below w.heap.size w w':=by
 have Eu:=Try.underlying27
 have HB:=aA.mk (Below.refl w.heap.size w)
 have H:(some (a0,a1))=some (r1,r2):=h
 clear h
 simp only [Option.some.injEq,Prod.mk.injEq] at H
 obtain ⟨rfl,rfl⟩:=H
 go_enter Try.func23,Try.ntmps23
 go_wp2_with (first|((with_reducible refine bC (N:=4) rfl ?_);refine eX ?hg (N:=4) ?hd (cs:=#[.int .i64 0,.int .i64 0]) (t:=27) ?hr ?_;(case hd=>rfl);(case hg=>rfl);(case hr=>first|(go_simp;done)|(go_simp;rfl));intro Dp hg w3 hbox hb;have bU:=aA.mk (aN (bM HB.out) hb);have bV:=aA.mk (hbox);have bZ:=aA.mk ((by rw [hg];exact (aQ (bM HB.out)):w.heap.size≤Dp));have jF:=aA.mk ((by rw [hg];exact (aQ (bM HB.out)):w.heap.size≤Dp));clear HB;have HB:=bU;have Dq:=bV;have aCJ:=bZ;have TK:=jF;clear bU bV bZ jF;clear hb hbox hg;have Qp:w3.cell? ⟨Dp,0,none⟩=some (.int .i64 0):=(aJ Dq.out 0).trans rfl;have Qq:w3.cell? ⟨Dp,1,none⟩=some (.int .i64 0):=(aJ Dq.out 1).trans rfl;have Qr:=aI Dq.out 0;have Qs:=aI Dq.out 1))
 refine bodyPost_ret (results_cell_row rfl _ _ Dp 27 #[.int .i64 a0,.int .i64 a1] (0,0) _ rfl (by refine aU ?_;refine bH (cs:=#[.int .i64 a0,.int .i64 0]) ?_ 1 _ rfl;refine aU ?_;refine bH (cs:=#[.int .i64 0,.int .i64 0]) ?_ 0 _ rfl;refine aU ?_;exact Dq.out) Try.underlying27 rfl aV) rfl ?_
 exact ⟨by first|rfl|(simp [aX,aY] <;> rfl)|(simp [*,aX,aY] <;> rfl),dA HB.out TK.out⟩
end Go.Proofs.Ytipjpdiianopcaa.A
