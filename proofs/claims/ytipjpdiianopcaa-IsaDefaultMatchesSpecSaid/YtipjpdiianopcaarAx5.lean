/- Words and contracts for the laws. -/
import Derived.Test.YtipjpdiianopcaarAx0
import Derived.Test.YtipjpdiianopcaarAx2
namespace Go.Proofs.Ytipjpdiianopcaa.A
open Go.RowKit Go.Proofs.YtipjpdiianopcaaW.aZ Go.Proofs.YtipjpdiianopcaaW.dQ Go.Proofs.YtipjpdiianopcaaW.gW
attribute [local go_sem] jY jZ kY kZ jD jE kC kD
set_option linter.unusedVariables false
set_option linter.unusedSimpArgs false
def bY.l0:Nat→ByteArray→Int→Int→Option (Bool)
 | 0,_,_,_=>none
 | k+1,x0,x5,x6=>if x6<x5 then (if 0≤x6 then (if x6<(x0.size:Int) then (if (bt x0 x6)<97 then (some false) else (if (bt x0 x6)>122 then (some false) else (bY.l0 k x0 x5 (wrap64 (x6+1))))) else (none)) else (none)) else (if (x0.size:Int)≥1 then (some (decide ((x0.size:Int)≤16))) else (some false))
def bY.f (k:Nat) (a0:ByteArray):Option (Bool):=bY.l0 k a0 (a0.size:Int) 0
theorem bY.iW:∀ k,(∀ y0 y1 y2,eG (bY.l0 k y0 y1 y2) (bY.l0 (k+1) y0 y1 y2))
 | 0=>fun _ _ _ r h=>by simp [bY.l0] at h
 | k+1=>by
  have lZ:=bY.iW k
  ·intro y0 y1 y2;unfold bY.l0
   repeat' first
   | (with_reducible exact lZ _ _ _)
   | (with_reducible exact eG.refl _)
   | (with_reducible exact eG.none _)
   | (with_reducible refine eG.ite ?_ ?_)
   | (with_reducible refine eG.bind ?_ (fun _=>?_))
   | exact lZ _ _ _
   | exact eG.none _
   | refine eG.ite ?_ ?_
   | refine eG.bind ?_ (fun _=>?_)
theorem bY.mono:∀ a0 k,eG (bY.f k a0) (bY.f (k+1) a0):=by
 intro a0 k
 have lZ:=bY.iW k
 unfold bY.f
 repeat' first
   | (with_reducible exact lZ _ _ _)
   | (with_reducible exact eG.refl _)
   | (with_reducible exact eG.none _)
   | (with_reducible refine eG.ite ?_ ?_)
   | (with_reducible refine eG.bind ?_ (fun _=>?_))
   | exact lZ _ _ _
   | exact eG.none _
   | refine eG.ite ?_ ?_
   | refine eG.bind ?_ (fun _=>?_)
set_option maxHeartbeats 8000000 in
set_option maxRecDepth 100000 in
theorem bY.calls (k:Nat) (a0:ByteArray) (r:Bool) (w:World) (h:bY.f k a0=some r) :
  Calls Try.prog 83 #[.string a0] w fun e w'=>e=.returned (.bool r)∧dH w w':=by
 have H:(bY.l0 k a0 (a0.size:Int) 0)=some r:=h
 clear h
 have H':=aA.mk H
 clear H
 go_enter Try.func83,Try.ntmps83
 go_wp2
 go_loopg [6] k (fun kq v6 w'=>∃ (mV:Int),v6=.int .i64 mV∧aA (bY.l0 kq a0 (a0.size:Int) mV=some r)∧aA (kq≤k)∧dH w w')
 case atStart=>exact ⟨(0),fB,H',⟨Nat.le_refl _⟩,by repeat (first|exact dH.refl _|apply dH.step)⟩
 case round =>
  clear H'
  obtain ⟨mV,rfl,HA,rE,⟨m1,rfl⟩⟩:=hrel
  cases gk with
  | zero=>exact absurd HA.out (by simp [bY.l0])
  | succ k1 =>
   have H:=HA.out;clear HA;simp only [bY.l0] at H
   by_cases c2:mV<(a0.size:Int)
   ·rw [if_pos c2] at H;have Jv:decide (mV<(a0.size:Int))=true:=eH c2;clear c2
    by_cases c3:0≤mV
    ·rw [if_pos c3] at H;have vG:decide (0≤mV)=true:=eH c3;clear c3
     by_cases c4:mV<(a0.size:Int)
     ·rw [if_pos c4] at H;have vC:decide (mV<(a0.size:Int))=true:=eH c4;clear c4
      by_cases c6:(bt a0 mV)<97
      ·rw [if_pos c6] at H;have BA:decide ((bt a0 mV)<97)=true:=eH c6;clear c6;obtain rfl:=Option.some.inj H;have p5:0≤(mV:Int):=dW dX;have q5:mV<(a0.size:Int):=dW dX;have hx5:=uG a0 mV;replace p5:=eq_true p5;replace q5:=eq_true q5
       go_wp2
       go_ret
       exact ⟨by first|rfl|(simp;done)|(simp [*];done),by repeat (first|exact dH.refl _|apply dH.step)⟩
      ·rw [if_neg c6] at H;have BA:decide ((bt a0 mV)<97)=false:=iE c6;clear c6
       by_cases c8:(bt a0 mV)>122
       ·rw [if_pos c8] at H;have Dt:decide (122<(bt a0 mV))=true:=eH c8;clear c8;obtain rfl:=Option.some.inj H;have p5:0≤(mV:Int):=dW dX;have q5:mV<(a0.size:Int):=dW dX;have hx5:=uG a0 mV;replace p5:=eq_true p5;replace q5:=eq_true q5;have p7:0≤(mV:Int):=dW dX;have q7:mV<(a0.size:Int):=dW dX;have hx7:=uG a0 mV;replace p7:=eq_true p7;replace q7:=eq_true q7
        go_wp2
        go_ret
        exact ⟨by first|rfl|(simp;done)|(simp [*];done),by repeat (first|exact dH.refl _|apply dH.step)⟩
       ·rw [if_neg c8] at H;have Dt:decide (122<(bt a0 mV))=false:=iE c8;clear c8;have H':=aA.mk H;clear H;have p5:0≤(mV:Int):=dW dX;have q5:mV<(a0.size:Int):=dW dX;have hx5:=uG a0 mV;replace p5:=eq_true p5;replace q5:=eq_true q5;have p7:0≤(mV:Int):=dW dX;have q7:mV<(a0.size:Int):=dW dX;have hx7:=uG a0 mV;replace p7:=eq_true p7;replace q7:=eq_true q7
        go_wp2
        go_roundg k1
        case measure=>have:=rE.out;omega
        case rel=>exact ⟨(wrap64 (mV+1)),fB,H',⟨by have:=rE.out;omega⟩,by repeat (first|exact dH.refl _|apply dH.step)⟩
     ·rw [if_neg c4] at H;exact absurd H (by simp)
    ·rw [if_neg c3] at H;exact absurd H (by simp)
   ·rw [if_neg c2] at H;have Jv:decide (mV<(a0.size:Int))=false:=iE c2;clear c2
    by_cases c9:(a0.size:Int)≥1
    ·rw [if_pos c9] at H;have yZ:decide (1≤(a0.size:Int))=true:=eH c9;have Jw:decide (1≤a0.size)=true:=eH (by omega);clear c9;obtain rfl:=Option.some.inj H
     go_wp2
     go_ret
     exact ⟨by first|rfl|(simp;done)|(simp [*];done),by repeat (first|exact dH.refl _|apply dH.step)⟩
    ·rw [if_neg c9] at H;have yZ:decide (1≤(a0.size:Int))=false:=iE c9;have Jw:decide (1≤a0.size)=false:=iE (by omega);clear c9;obtain rfl:=Option.some.inj H
     go_wp2
     go_ret
     exact ⟨by first|rfl|(simp;done)|(simp [*];done),by repeat (first|exact dH.refl _|apply dH.step)⟩
end Go.Proofs.Ytipjpdiianopcaa.A
