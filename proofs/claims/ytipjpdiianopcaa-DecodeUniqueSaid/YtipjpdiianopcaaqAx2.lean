/- Words and contracts for the laws of encode. -/
import Derived.Test.YtipjpdiianopcaaqAx0
namespace Go.Proofs.Ytipjpdiianopcaa.A
open Go.RowKit Go.Proofs.YtipjpdiianopcaaW.dF Go.Proofs.YtipjpdiianopcaaW.fO Go.Proofs.YtipjpdiianopcaaW.jP
attribute [local go_sem] mV mW oO oP lC lD mX mY
set_option linter.unusedVariables false
set_option linter.unusedSimpArgs false
def eF.l0:Nat→List Int→List Int→Int→Option (Bool)
 | 0,_,_,_=>none
 | k+1,x0,x1,x5=>if x5<(x0.length:Int) then (if 0≤x5 then (if x5<(x1.length:Int) then (if (rd x0 x5)=(rd x1 x5) then (eF.l0 k x0 x1 (wrap64 (x5+1))) else (some false)) else (none)) else (none)) else (some true)
def eF.f (k:Nat) (l0:List Int) (l1:List Int):Option (Bool):=if (l0.length:Int)=(l1.length:Int) then (eF.l0 k l0 l1 0) else (some false)
set_option maxHeartbeats 8000000 in
set_option maxRecDepth 100000 in
theorem eF.calls (k:Nat) (A0:Option Addr) (c0:Nat) (l0:List Int) (A1:Option Addr) (c1:Nat) (l1:List Int) (r:Bool) (w:World) (hr0:Kd.C (Kd.int .i64) w A0 l0.length l0) (hc0:l0.length≤c0) (hr1:Kd.C (Kd.int .i64) w A1 l1.length l1) (hc1:l1.length≤c1) (h:eF.f k l0 l1=some r) :
  Calls Try.prog 29 #[.slice A0 l0.length c0,.slice A1 l1.length c1] w fun e w'=>e=.returned (.bool r)∧gQ w w':=by
 have HR0:=aA.mk hr0
 have Am:=aA.mk hc0
 clear hr0 hc0
 have HR1:=aA.mk hr1
 have Gj:=aA.mk hc1
 clear hr1 hc1
 have H:(if (l0.length:Int)=(l1.length:Int) then (eF.l0 k l0 l1 0) else (some false))=some r:=h
 clear h
 by_cases c3:(l0.length:Int)=(l1.length:Int)
 ·rw [if_pos c3] at H
  have LC:((l0.length:Int)==(l1.length:Int))=true:=beq_iff_eq.mpr c3
  have Xy:((l0.length:Int) != (l1.length:Int))=false:=bne_eq_false_iff_eq.mpr c3
  have bFC:(l0.length==l1.length)=true:=by first|simpa using c3|(simp at c3 ⊢;omega)
  clear c3
  have H':=aA.mk H
  clear H
  go_enter Try.func29,Try.ntmps29
  go_wp2
  repeat (go_quiet (fail);try go_wp2)
  go_loopg [5] k (fun kq v5 w'=>∃ (jL:Int),v5=.int .i64 jL∧aA (eF.l0 kq l0 l1 jL=some r)∧aA (kq≤k)∧gQ w w')
  case atStart=>exact ⟨(0),gV,H',⟨Nat.le_refl _⟩,by repeat (first|exact gQ.refl _|apply gQ.step)⟩
  case round =>
   clear H';obtain ⟨jL,rfl,HA,wU,⟨m1,rfl⟩⟩:=hrel
   cases gk with
   | zero=>exact absurd HA.out (by simp [eF.l0])
   | succ k1 =>
    have H:=HA.out;clear HA;simp only [eF.l0] at H
    by_cases c4:jL<(l0.length:Int)
    ·rw [if_pos c4] at H;have Jz:decide (jL<(l0.length:Int))=true:=fB c4;clear c4
     by_cases c5:0≤jL
     ·rw [if_pos c5] at H;have Xz:decide (0≤jL)=true:=fB c5;clear c5
      by_cases c6:jL<(l1.length:Int)
      ·rw [if_pos c6] at H;have Qw:decide (jL<(l1.length:Int))=true:=fB c6;clear c6
       by_cases c7:(rd l0 jL)=(rd l1 jL)
       ·rw [if_pos c7] at H;have EJ:((rd l0 jL)==(rd l1 jL))=true:=beq_iff_eq.mpr c7;have Xx:((rd l0 jL) != (rd l1 jL))=false:=bne_eq_false_iff_eq.mpr c7;clear c7;have H':=aA.mk H;clear H;have aDN:0≤(jL:Int):=dU dW;have aDO:jL<(l0.length:Int):=dU dW;obtain ⟨aVN,aRT,aMr⟩:=Kd.jJ HR0.out jL aDN aDO
        cases aRT
        replace aDN:=eq_true aDN;replace aDO:=eq_true aDO;have aDP:0≤(jL:Int):=dU dW;have aDQ:jL<(l1.length:Int):=dU dW;obtain ⟨aVO,aRU,aMs⟩:=Kd.jJ HR1.out jL aDP aDQ
        cases aRU
        replace aDP:=eq_true aDP;replace aDQ:=eq_true aDQ
        go_wp2
        repeat (go_quiet (fail);try go_wp2)
        go_roundg k1
        case measure=>have:=wU.out;omega
        case rel=>exact ⟨(wrap64 (jL+1)),gV,H',⟨by have:=wU.out;omega⟩,by repeat (first|exact gQ.refl _|apply gQ.step)⟩
       ·rw [if_neg c7] at H;have EJ:((rd l0 jL)==(rd l1 jL))=false:=beq_eq_false_iff_ne.mpr c7;have Xx:((rd l0 jL) != (rd l1 jL))=true:=bne_iff_ne.mpr c7;obtain rfl:=Option.some.inj H;have aDN:0≤(jL:Int):=dU dW;have aDO:jL<(l0.length:Int):=dU dW;obtain ⟨aVN,aRT,aMr⟩:=Kd.jJ HR0.out jL aDN aDO
        cases aRT
        replace aDN:=eq_true aDN;replace aDO:=eq_true aDO;have aDP:0≤(jL:Int):=dU dW;have aDQ:jL<(l1.length:Int):=dU dW;obtain ⟨aVO,aRU,aMs⟩:=Kd.jJ HR1.out jL aDP aDQ
        cases aRU
        replace aDP:=eq_true aDP;replace aDQ:=eq_true aDQ
        go_wp2
        repeat (go_quiet (fail);try go_wp2)
        go_ret
        exact ⟨by first|rfl|(simp;done)|(simp [*];done),by repeat (first|exact gQ.refl _|apply gQ.step)⟩
      ·rw [if_neg c6] at H;exact absurd H (by simp)
     ·rw [if_neg c5] at H;exact absurd H (by simp)
    ·rw [if_neg c4] at H;have Jz:decide (jL<(l0.length:Int))=false:=kT c4;clear c4;obtain rfl:=Option.some.inj H
     go_wp2
     repeat (go_quiet (fail);try go_wp2)
     go_ret
     exact ⟨by first|rfl|(simp;done)|(simp [*];done),by repeat (first|exact gQ.refl _|apply gQ.step)⟩
 ·rw [if_neg c3] at H
  have LC:((l0.length:Int)==(l1.length:Int))=false:=beq_eq_false_iff_ne.mpr c3
  have Xy:((l0.length:Int) != (l1.length:Int))=true:=bne_iff_ne.mpr c3
  have bFC:(l0.length==l1.length)=false:=by first|simpa using c3|(simp at c3 ⊢;omega)
  obtain rfl:=Option.some.inj H
  go_enter Try.func29,Try.ntmps29
  go_wp2
  repeat (go_quiet (fail);try go_wp2)
  go_ret
  exact ⟨by first|rfl|(simp;done)|(simp [*];done),by repeat (first|exact gQ.refl _|apply gQ.step)⟩
def bD.f (a0:Int) (a1:Int):Option (Int × Int):=some (a0,a1)
set_option maxHeartbeats 8000000 in
set_option maxRecDepth 100000 in
theorem bD.calls (a0:Int) (a1:Int) (r1:Int) (r2:Int) (w:World) (h:bD.f a0 a1=some (r1,r2)) :
  Calls Try.prog 23 #[.int .i64 a0,.int .i64 a1] w fun e w'=>e=.returned (.agg #[.int .i64 r1,.int .i64 r2])∧Below w.heap.size w w':=by
 have NL:=Try.underlying27
 have HB:=aA.mk (Below.refl w.heap.size w)
 have H:(some (a0,a1))=some (r1,r2):=h
 clear h
 simp only [Option.some.injEq,Prod.mk.injEq] at H
 obtain ⟨rfl,rfl⟩:=H
 go_enter Try.func23,Try.ntmps23
 go_wp2_with (first|((with_reducible refine dH (N:=4) rfl ?_);refine dB ?hg (N:=4) ?hd (cs:=#[.int .i64 0,.int .i64 0]) (t:=27) ?hr ?_;(case hd=>rfl);(case hg=>rfl);(case hr=>first|(go_simp;done)|(go_simp;rfl));intro aCe hg w3 hbox hb;have bT:=aA.mk (aT (dG HB.out) hb);have bW:=aA.mk (hbox);have dA:=aA.mk ((by rw [hg];exact (aN (dG HB.out)):w.heap.size≤aCe));have dN:=aA.mk ((by rw [hg];exact (aN (dG HB.out)):w.heap.size≤aCe));clear HB;have HB:=bT;have aCf:=bW;have bIU:=dA;have aVP:=dN;clear bT bW dA dN;clear hb hbox hg;have aI5:w3.cell? ⟨aCe,0,none⟩=some (.int .i64 0):=(aC aCf.out 0).trans rfl;have aI6:w3.cell? ⟨aCe,1,none⟩=some (.int .i64 0):=(aC aCf.out 1).trans rfl;have aI7:=aG aCf.out 0;have aI8:=aG aCf.out 1))
 refine bodyPost_ret (results_cell_row rfl _ _ aCe 27 #[.int .i64 a0,.int .i64 a1] (0,0) _ rfl (by refine aH ?_;refine aY (cs:=#[.int .i64 a0,.int .i64 0]) ?_ 1 _ rfl;refine aH ?_;refine aY (cs:=#[.int .i64 0,.int .i64 0]) ?_ 0 _ rfl;refine aH ?_;exact aCf.out) Try.underlying27 rfl aQ) rfl ?_
 exact ⟨by first|rfl|(simp [bK,bM] <;> rfl)|(simp [*,bK,bM] <;> rfl),bV HB.out aVP.out⟩
end Go.Proofs.Ytipjpdiianopcaa.A
