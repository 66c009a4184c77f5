/- Words and contracts for the laws of encode. -/
import Derived.Test.YtipjpdiianopcaaqAx0
import Derived.Test.YtipjpdiianopcaaqAx1
import Derived.Test.YtipjpdiianopcaaqAx2
namespace Go.Proofs.Ytipjpdiianopcaa.A
open Go.RowKit Go.Proofs.YtipjpdiianopcaaW.dF Go.Proofs.YtipjpdiianopcaaW.fO Go.Proofs.YtipjpdiianopcaaW.jP
attribute [local go_sem] mV mW oO oP lC lD mX mY
set_option linter.unusedVariables false
set_option linter.unusedSimpArgs false
def iZ.f (l0:List Int):Option (List Int):=if ([]:List Int).length+l0.length<140737488355328 then (some (([]:List Int) ++ l0)) else (none)
set_option maxHeartbeats 8000000 in
set_option maxRecDepth 100000 in
theorem iZ.calls (A0:Option Addr) (c0:Nat) (l0:List Int) (r:List Int) (w:World) (hr0:Kd.C (Kd.int .u8) w A0 l0.length l0) (hc0:l0.length≤c0) (h:iZ.f l0=some r) :
  Calls Try.prog 32 #[.slice A0 l0.length c0] w fun e w'=>∃ ZP:Value,e=.returned (ZP)∧Kd.R (Kd.int .u8) 5 w' w.heap.size (fun _=>True) ZP r∧Below w.heap.size w w':=by
 have HR0:=aA.mk hr0
 have Am:=aA.mk hc0
 clear hr0 hc0
 have HB:=aA.mk (Below.refl w.heap.size w)
 have H:(if ([]:List Int).length+l0.length<140737488355328 then (some (([]:List Int) ++ l0)) else (none))=some r:=h
 clear h
 by_cases c2:([]:List Int).length+l0.length<140737488355328
 ·rw [if_pos c2] at H
  have bFD:=aA.mk c2
  clear c2
  obtain ⟨y168,hy168⟩:∃ y_:List Int,y_=(([]:List Int) ++ l0):=⟨_,rfl⟩
  replace H:(some y168)=some r:=by first|(rw [hy168];with_reducible exact H)|(have qY:=(Option.bind_some _ _).symm.trans H;rw [hy168];with_reducible exact qY)|(have qY:=(Option.bind_some _ _).symm.trans H;with_reducible exact qY)|with_reducible exact H|(rw [hy168];exact H)|exact H
  have aVQ:=aA.mk hy168
  clear hy168
  obtain rfl:=Option.some.inj H
  go_enter Try.func32,Try.ntmps32
  go_wp2_with (first|((with_reducible refine qM (b:=.append) (xs:=#[.tmp 4,.tmp 5]) rfl ?_);at_builtin;refine Kd.DI (Kd.int .u8) (w0:=w) w.heap.size rfl (.tmp 4) (.tmp 5) 25 5 (.int .u8 0) 1 rfl Try.underlying25 info5 rfl (by decide) (by omega) (.slice none 0 0) ([]:List Int) l0 _ _ _ (fun _=>True) (fun _=>False) rfl rfl ?aO ?aR (fun _ _ h=>h) (fun _ h=>h.elim) ?aF ?aB ?aS ?aL ?_;(case aR=>repeat (first|exact HR0.out|(with_reducible refine Kd.fG ?_ _)|(with_reducible refine Kd.fC ?_ _)|(with_reducible refine Kd.gJ ?_)));(case aB=>exact (dG HB.out));(case aF=>exact (fun _ _=>trivial));(case aO=>exact ((Kd.BV _ _ _ _ (fun _=>True))));(case aS=>exact (aN (dG HB.out)));(case aL=>have:=bFD.out;omega);intro bLn w3 ho hb hg hat;rw [← aVQ.out] at ho;have bT:=aA.mk (hb);have bW:=aA.mk (ho);clear HB;have HB:=bT;have aVR:=bW;clear bT bW;clear ho hb hg hat))
  go_ret
  exact ⟨_,by first|rfl|(simp [bK,bM] <;> rfl)|(simp [*,bK,bM] <;> rfl),by refine bH ?_;exact aVR.out,dG HB.out⟩
 ·rw [if_neg c2] at H
  exact absurd H (by simp)
def lS.l0:Nat→ByteArray→Int→Int→Option (Bool)
 | 0,_,_,_=>none
 | k+1,x0,x5,x6=>if x6<x5 then (if 0≤x6 then (if x6<(x0.size:Int) then (if (bt x0 x6)<97 then (some false) else (if (bt x0 x6)>122 then (some false) else (lS.l0 k x0 x5 (wrap64 (x6+1))))) else (none)) else (none)) else (if (x0.size:Int)≥1 then (some (decide ((x0.size:Int)≤16))) else (some false))
def lS.f (k:Nat) (a0:ByteArray):Option (Bool):=lS.l0 k a0 (a0.size:Int) 0
set_option maxHeartbeats 8000000 in
set_option maxRecDepth 100000 in
theorem lS.calls (k:Nat) (a0:ByteArray) (r:Bool) (w:World) (h:lS.f k a0=some r) :
  Calls Try.prog 83 #[.string a0] w fun e w'=>e=.returned (.bool r)∧gQ w w':=by
 have H:(lS.l0 k a0 (a0.size:Int) 0)=some r:=h
 clear h
 have H':=aA.mk H
 clear H
 go_enter Try.func83,Try.ntmps83
 go_wp2
 go_loopg [6] k (fun kq v6 w'=>∃ (bZ:Int),v6=.int .i64 bZ∧aA (lS.l0 kq a0 (a0.size:Int) bZ=some r)∧aA (kq≤k)∧gQ w w')
 case atStart=>exact ⟨(0),gV,H',⟨Nat.le_refl _⟩,by repeat (first|exact gQ.refl _|apply gQ.step)⟩
 case round =>
  clear H'
  obtain ⟨bZ,rfl,HA,wU,⟨m1,rfl⟩⟩:=hrel
  cases gk with
  | zero=>exact absurd HA.out (by simp [lS.l0])
  | succ k1 =>
   have H:=HA.out;clear HA;simp only [lS.l0] at H
   by_cases c2:bZ<(a0.size:Int)
   ·rw [if_pos c2] at H;have aAy:decide (bZ<(a0.size:Int))=true:=fB c2;clear c2
    by_cases c3:0≤bZ
    ·rw [if_pos c3] at H;have LC:decide (0≤bZ)=true:=fB c3;clear c3
     by_cases c4:bZ<(a0.size:Int)
     ·rw [if_pos c4] at H;have Jz:decide (bZ<(a0.size:Int))=true:=fB c4;clear c4
      by_cases c6:(bt a0 bZ)<97
      ·rw [if_pos c6] at H;have Qw:decide ((bt a0 bZ)<97)=true:=fB c6;clear c6;obtain rfl:=Option.some.inj H;have p5:0≤(bZ:Int):=dU dW;have q5:bZ<(a0.size:Int):=dU dW;have hx5:=RU a0 bZ;replace p5:=eq_true p5;replace q5:=eq_true q5
       go_wp2
       go_ret
       exact ⟨by first|rfl|(simp;done)|(simp [*];done),by repeat (first|exact gQ.refl _|apply gQ.step)⟩
      ·rw [if_neg c6] at H;have Qw:decide ((bt a0 bZ)<97)=false:=kT c6;clear c6
       by_cases c8:(bt a0 bZ)>122
       ·rw [if_pos c8] at H;have XU:decide (122<(bt a0 bZ))=true:=fB c8;clear c8;obtain rfl:=Option.some.inj H;have p5:0≤(bZ:Int):=dU dW;have q5:bZ<(a0.size:Int):=dU dW;have hx5:=RU a0 bZ;replace p5:=eq_true p5;replace q5:=eq_true q5;have p7:0≤(bZ:Int):=dU dW;have q7:bZ<(a0.size:Int):=dU dW;have hx7:=RU a0 bZ;replace p7:=eq_true p7;replace q7:=eq_true q7
        go_wp2
        go_ret
        exact ⟨by first|rfl|(simp;done)|(simp [*];done),by repeat (first|exact gQ.refl _|apply gQ.step)⟩
       ·rw [if_neg c8] at H;have XU:decide (122<(bt a0 bZ))=false:=kT c8;clear c8;have H':=aA.mk H;clear H;have p5:0≤(bZ:Int):=dU dW;have q5:bZ<(a0.size:Int):=dU dW;have hx5:=RU a0 bZ;replace p5:=eq_true p5;replace q5:=eq_true q5;have p7:0≤(bZ:Int):=dU dW;have q7:bZ<(a0.size:Int):=dU dW;have hx7:=RU a0 bZ;replace p7:=eq_true p7;replace q7:=eq_true q7
        go_wp2
        go_roundg k1
        case measure=>have:=wU.out;omega
        case rel=>exact ⟨(wrap64 (bZ+1)),gV,H',⟨by have:=wU.out;omega⟩,by repeat (first|exact gQ.refl _|apply gQ.step)⟩
     ·rw [if_neg c4] at H;exact absurd H (by simp)
    ·rw [if_neg c3] at H;exact absurd H (by simp)
   ·rw [if_neg c2] at H;have aAy:decide (bZ<(a0.size:Int))=false:=kT c2;clear c2
    by_cases c9:(a0.size:Int)≥1
    ·rw [if_pos c9] at H;have aBP:decide (1≤(a0.size:Int))=true:=fB c9;have aIT:decide (1≤a0.size)=true:=fB (by omega);clear c9;obtain rfl:=Option.some.inj H
     go_wp2
     go_ret
     exact ⟨by first|rfl|(simp;done)|(simp [*];done),by repeat (first|exact gQ.refl _|apply gQ.step)⟩
    ·rw [if_neg c9] at H;have aBP:decide (1≤(a0.size:Int))=false:=kT c9;have aIT:decide (1≤a0.size)=false:=kT (by omega);clear c9;obtain rfl:=Option.some.inj H
     go_wp2
     go_ret
     exact ⟨by first|rfl|(simp;done)|(simp [*];done),by repeat (first|exact gQ.refl _|apply gQ.step)⟩
end Go.Proofs.Ytipjpdiianopcaa.A
