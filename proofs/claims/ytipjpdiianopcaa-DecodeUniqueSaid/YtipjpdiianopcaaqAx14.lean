/- Words and contracts for the laws of encode. -/
import Derived.Test.YtipjpdiianopcaaqAx0
namespace Go.Proofs.Ytipjpdiianopcaa.A
open Go.RowKit Go.Proofs.YtipjpdiianopcaaW.dF Go.Proofs.YtipjpdiianopcaaW.fO Go.Proofs.YtipjpdiianopcaaW.jP
attribute [local go_sem] mV mW oO oP lC lD mX mY
set_option linter.unusedVariables false
set_option linter.unusedSimpArgs false
def qI.l0:Nat→List Int→Int→Int→Int→Int→Int→Int→Int→Bool→Option (Int)
 | 0,_,_,_,_,_,_,_,_,_=>none
 | k+1,x0,x2,x7,x30,x31,aAE,OV,WO,aL5=>if x31<x30 then (if 0≤(wrap64 (OV+x31)) then (if (wrap64 (OV+x31))<(x0.length:Int) then (if 0≤(wrap64 (8*x31)) then (qI.l0 k x0 x2 (Go.bits .or .i64 x7 (shl .i64 (wrap64 (rd x0 (wrap64 (OV+x31)))) (wrap64 (8*x31)))) x30 (wrap64 (x31+1)) aAE OV WO aL5) else (none)) else (none)) else (none)) else (if 0≤(wrap64 ((wrap64 (8*WO))-1)) then (if x2=4 then (some x7) else (if x7≥(shl .i64 1 (wrap64 ((wrap64 (8*WO))-1))) then (some (wrap64 (x7-(wrap64 (2*(shl .i64 1 (wrap64 ((wrap64 (8*WO))-1)))))))) else (some x7))) else (none))
def qI.f (k:Nat) (l0:List Int) (bY:Int) (jO:Int) (qK:Int) (BC:Bool) (a2:Int):Option (Int):=if qK=0 then (if BC=true then (if 0≤jO then (if jO<(l0.length:Int) then (some (wrap64 ((rd l0 jO) / 16))) else (none)) else (none)) else (if 0≤jO then (if jO<(l0.length:Int) then (some (wrap64 (Go.bits .and .u8 (rd l0 jO) 15))) else (none)) else (none))) else (qI.l0 k l0 a2 0 qK 0 bY jO qK BC)
set_option maxHeartbeats 8000000 in
set_option maxRecDepth 100000 in
theorem qI.calls (k:Nat) (A0:Option Addr) (c0:Nat) (l0:List Int) (bY:Int) (jO:Int) (qK:Int) (BC:Bool) (a2:Int) (r:Int) (w:World) (hr0:Kd.C (Kd.int .u8) w A0 l0.length l0) (hc0:l0.length≤c0) (h:qI.f k l0 bY jO qK BC a2=some r) :
  Calls Try.prog 90 #[.slice A0 l0.length c0,.agg #[.int .i64 bY,.int .i64 jO,.int .i64 qK,.bool BC],.int .i64 a2] w fun e w'=>e=.returned (.int .i64 r)∧Below w.heap.size w w':=by
 have aBO:=Try.underlying124
 have HR0:=aA.mk hr0
 have Am:=aA.mk hc0
 clear hr0 hc0
 have HB:=aA.mk (Below.refl w.heap.size w)
 have H:(if qK=0 then (if BC=true then (if 0≤jO then (if jO<(l0.length:Int) then (some (wrap64 ((rd l0 jO) / 16))) else (none)) else (none)) else (if 0≤jO then (if jO<(l0.length:Int) then (some (wrap64 (Go.bits .and .u8 (rd l0 jO) 15))) else (none)) else (none))) else (qI.l0 k l0 a2 0 qK 0 bY jO qK BC))=some r:=h
 clear h
 by_cases c4:qK=0
 ·rw [if_pos c4] at H
  have Jz:(qK==0)=true:=beq_iff_eq.mpr c4
  have aDs:(qK != 0)=false:=bne_eq_false_iff_eq.mpr c4
  clear c4
  by_cases c5:BC=true
  ·subst c5;have H1:(if 0≤jO then (if jO<(l0.length:Int) then (some (wrap64 ((rd l0 jO) / 16))) else (none)) else (none))=some r:=by rw [if_pos rfl] at H;exact H
   clear H;have H:=H1;clear H1
   by_cases c6:0≤jO
   ·rw [if_pos c6] at H;have Qw:decide (0≤jO)=true:=fB c6;clear c6
    by_cases c7:jO<(l0.length:Int)
    ·rw [if_pos c7] at H;have EJ:decide (jO<(l0.length:Int))=true:=fB c7;clear c7;obtain rfl:=Option.some.inj H
     go_enter Try.func90,Try.ntmps90
     go_wp2_with (first|((with_reducible refine dH (N:=4) rfl ?_);refine dB ?hg (N:=4) ?hd (cs:=#[.int .i64 bY,.int .i64 jO,.int .i64 qK,.bool true]) (t:=124) ?hr ?_;(case hd=>rfl);(case hg=>rfl);(case hr=>first|(go_simp;done)|(go_simp;rfl));intro mJ hg w8 hbox hb;have bT:=aA.mk (aT (dG HB.out) hb);have bW:=aA.mk (hbox);have dA:=aA.mk ((by rw [hg];exact (aN (dG HB.out)):w.heap.size≤mJ));have dN:=aA.mk ((by rw [hg];exact (aN (dG HB.out)):w.heap.size≤mJ));clear HB;have HB:=bT;have iY:=bW;have aIV:=dA;have vJ:=dN;clear bT bW dA dN;clear hb hbox hg;have XE:w8.cell? ⟨mJ,0,none⟩=some (.int .i64 bY):=(aC iY.out 0).trans rfl;have XF:w8.cell? ⟨mJ,1,none⟩=some (.int .i64 jO):=(aC iY.out 1).trans rfl;have aDD:w8.cell? ⟨mJ,2,none⟩=some (.int .i64 qK):=(aC iY.out 2).trans rfl;have bEV:w8.cell? ⟨mJ,3,none⟩=some (.bool true):=(aC iY.out 3).trans rfl;have XG:=aG iY.out 0;have XH:=aG iY.out 1;have aDE:=aG iY.out 2;have bEW:=aG iY.out 3;have aRb:0≤(jO:Int):=dU dW;have aRc:jO<(l0.length:Int):=dU dW;obtain ⟨bIx,bEX,aAF⟩:=Kd.jJ HR0.out jO aRb aRc;cases bEX;replace aAF:=(HB.out.cell (dM w _ aAF)).trans aAF;replace aRb:=eq_true aRb;replace aRc:=eq_true aRc))
     go_ret
     exact ⟨by first|rfl|(simp [bK,bM] <;> rfl)|(simp [*,bK,bM] <;> rfl),bV HB.out vJ.out⟩
    ·rw [if_neg c7] at H;exact absurd H (by simp)
   ·rw [if_neg c6] at H;exact absurd H (by simp)
  ·replace c5:=Bool.eq_false_iff.mpr c5;subst c5;have H1:(if 0≤jO then (if jO<(l0.length:Int) then (some (wrap64 (Go.bits .and .u8 (rd l0 jO) 15))) else (none)) else (none))=some r:=by rw [if_neg (show ¬ (false=true) by decide)] at H;exact H
   clear H;have H:=H1;clear H1
   by_cases c10:0≤jO
   ·rw [if_pos c10] at H;have BO:decide (0≤jO)=true:=fB c10;clear c10
    by_cases c11:jO<(l0.length:Int)
    ·rw [if_pos c11] at H;have KD:decide (jO<(l0.length:Int))=true:=fB c11;clear c11;obtain rfl:=Option.some.inj H
     go_enter Try.func90,Try.ntmps90
     go_wp2_with (first|((with_reducible refine dH (N:=4) rfl ?_);refine dB ?hg (N:=4) ?hd (cs:=#[.int .i64 bY,.int .i64 jO,.int .i64 qK,.bool false]) (t:=124) ?hr ?_;(case hd=>rfl);(case hg=>rfl);(case hr=>first|(go_simp;done)|(go_simp;rfl));intro mJ hg w12 hbox hb;have bT:=aA.mk (aT (dG HB.out) hb);have bW:=aA.mk (hbox);have dA:=aA.mk ((by rw [hg];exact (aN (dG HB.out)):w.heap.size≤mJ));have dN:=aA.mk ((by rw [hg];exact (aN (dG HB.out)):w.heap.size≤mJ));clear HB;have HB:=bT;have iY:=bW;have aIV:=dA;have vJ:=dN;clear bT bW dA dN;clear hb hbox hg;have JG:w12.cell? ⟨mJ,0,none⟩=some (.int .i64 bY):=(aC iY.out 0).trans rfl;have JH:w12.cell? ⟨mJ,1,none⟩=some (.int .i64 jO):=(aC iY.out 1).trans rfl;have aFa:w12.cell? ⟨mJ,2,none⟩=some (.int .i64 qK):=(aC iY.out 2).trans rfl;have bAV:w12.cell? ⟨mJ,3,none⟩=some (.bool false):=(aC iY.out 3).trans rfl;have JI:=aG iY.out 0;have JJ:=aG iY.out 1;have aFb:=aG iY.out 2;have bAW:=aG iY.out 3;have aRd:0≤(jO:Int):=dU dW;have aRe:jO<(l0.length:Int):=dU dW;obtain ⟨bIy,bEY,aAG⟩:=Kd.jJ HR0.out jO aRd aRe;cases bEY;replace aAG:=(HB.out.cell (dM w _ aAG)).trans aAG;replace aRd:=eq_true aRd;replace aRe:=eq_true aRe))
     go_ret
     exact ⟨by first|rfl|(simp [bK,bM] <;> rfl)|(simp [*,bK,bM] <;> rfl),bV HB.out vJ.out⟩
    ·rw [if_neg c11] at H;exact absurd H (by simp)
   ·rw [if_neg c10] at H;exact absurd H (by simp)
 ·rw [if_neg c4] at H
  have Jz:(qK==0)=false:=beq_eq_false_iff_ne.mpr c4
  have aDs:(qK != 0)=true:=bne_iff_ne.mpr c4
  have H':=aA.mk H
  clear H
  go_enter Try.func90,Try.ntmps90
  go_wp2_with (first|((with_reducible refine dH (N:=4) rfl ?_);refine dB ?hg (N:=4) ?hd (cs:=#[.int .i64 bY,.int .i64 jO,.int .i64 qK,.bool BC]) (t:=124) ?hr ?_;(case hd=>rfl);(case hg=>rfl);(case hr=>first|(go_simp;done)|(go_simp;rfl));intro mJ hg w14 hbox hb;have bT:=aA.mk (aT (dG HB.out) hb);have bW:=aA.mk (hbox);have dA:=aA.mk ((by rw [hg];exact (aN (dG HB.out)):w.heap.size≤mJ));have dN:=aA.mk ((by rw [hg];exact (aN (dG HB.out)):w.heap.size≤mJ));clear HB;have HB:=bT;have iY:=bW;have aIV:=dA;have vJ:=dN;clear bT bW dA dN;clear hb hbox hg;have WQ:w14.cell? ⟨mJ,0,none⟩=some (.int .i64 bY):=(aC iY.out 0).trans rfl;have WS:w14.cell? ⟨mJ,1,none⟩=some (.int .i64 jO):=(aC iY.out 1).trans rfl;have bAX:w14.cell? ⟨mJ,2,none⟩=some (.int .i64 qK):=(aC iY.out 2).trans rfl;have bAY:w14.cell? ⟨mJ,3,none⟩=some (.bool BC):=(aC iY.out 3).trans rfl;have WT:=aG iY.out 0;have WU:=aG iY.out 1;have bAZ:=aG iY.out 2;have bA0:=aG iY.out 3))
  go_loopg [7,31] k (fun kq v7 v31 w'=>∃ (tJ:Int) (Iw:Int),v7=.int .i64 tJ∧v31=.int .i64 Iw∧aA (qI.l0 kq l0 a2 tJ qK Iw bY jO qK BC=some r)∧aA (kq≤k)∧aA (w'.heap[mJ]?=some (.cells #[.int .i64 bY,.int .i64 jO,.int .i64 qK,.bool BC] 124 (0,0)))∧aA (Below w.heap.size w w'))
  case atStart=>exact ⟨(0),(0),gV,gV,H',⟨Nat.le_refl _⟩,⟨by refine aH ?_;exact iY.out⟩,⟨bV HB.out vJ.out⟩⟩
  case round =>
   clear H';obtain ⟨tJ,Iw,rfl,rfl,HA,wU,iY,HB⟩:=hrel
   cases gk with
   | zero=>exact absurd HA.out (by simp [qI.l0])
   | succ k1 =>
    have H:=HA.out;clear HA;simp only [qI.l0] at H
    by_cases c16:Iw<qK
    ·rw [if_pos c16] at H;have NM:decide (Iw<qK)=true:=fB c16;clear c16;obtain ⟨NT,aIW⟩:∃ j_:Int,(wrap64 (jO+Iw))=j_:=⟨_,rfl⟩
     replace H:(if 0≤(NT) then (if (NT)<(l0.length:Int) then (if 0≤(wrap64 (8*Iw)) then (qI.l0 k1 l0 a2 (Go.bits .or .i64 tJ (shl .i64 (wrap64 (rd l0 (NT))) (wrap64 (8*Iw)))) qK (wrap64 (Iw+1)) bY jO qK BC) else (none)) else (none)) else (none))=some r:=by first|(rw [aIW] at H;exact H)|(simp only [aIW] at H ⊢;exact H)
     have bEZ:(IntKind.i64.wrap (jO+Iw))=NT:=(nX _).trans aIW
     by_cases c18:0≤(NT)
     ·rw [if_pos c18] at H;have QZ:decide (0≤(NT))=true:=fB c18;clear c18
      by_cases c19:(NT)<(l0.length:Int)
      ·rw [if_pos c19] at H;have KC:decide ((NT)<(l0.length:Int))=true:=fB c19;clear c19;obtain ⟨VC,aIX⟩:∃ j_:Int,(wrap64 (8*Iw))=j_:=⟨_,rfl⟩
       replace H:(if 0≤(VC) then (qI.l0 k1 l0 a2 (Go.bits .or .i64 tJ (shl .i64 (wrap64 (rd l0 (NT))) (VC))) qK (wrap64 (Iw+1)) bY jO qK BC) else (none))=some r:=by first|(rw [aIX] at H;exact H)|(simp only [aIX] at H ⊢;exact H)
       have bE0:(IntKind.i64.wrap (8*Iw))=VC:=(nX _).trans aIX
       by_cases c21:0≤(VC)
       ·rw [if_pos c21] at H;have aE2:=eq_true c21;have bIz:decide (0≤(VC))=true:=fB c21;clear c21;obtain ⟨aHs,aBT⟩:∃ j_:Int,(shl .i64 (wrap64 (rd l0 (NT))) (VC))=j_:=⟨_,rfl⟩
        replace H:(qI.l0 k1 l0 a2 (Go.bits .or .i64 tJ (aHs)) qK (wrap64 (Iw+1)) bY jO qK BC)=some r:=by first|(rw [aBT] at H;exact H)|(simp only [aBT] at H ⊢;exact H)
        have aRf:(IntKind.i64.wrap ((wrap64 (rd l0 (NT)))*2 ^ min (VC).toNat 64))=aHs:=aBT;have aRg:(VC)≤64→(IntKind.i64.wrap ((wrap64 (rd l0 (NT)))*2 ^ (VC).toNat))=aHs:=ZN aBT;have bE1:(wrap64 ((wrap64 (rd l0 (NT)))*2 ^ min (VC).toNat 64))=aHs:=(nX _).symm.trans aRf;have bE2:(VC)≤64→(wrap64 ((wrap64 (rd l0 (NT)))*2 ^ (VC).toNat))=aHs:=fun h_=>(nX _).symm.trans (aRg h_)
        have H':=aA.mk H;clear H;have aFc:wr.cell? ⟨mJ,0,none⟩=some (.int .i64 bY):=(aC iY.out 0).trans rfl;have aFd:wr.cell? ⟨mJ,1,none⟩=some (.int .i64 jO):=(aC iY.out 1).trans rfl;have aFe:wr.cell? ⟨mJ,2,none⟩=some (.int .i64 qK):=(aC iY.out 2).trans rfl;have bA1:wr.cell? ⟨mJ,3,none⟩=some (.bool BC):=(aC iY.out 3).trans rfl;have aFf:=aG iY.out 0;have aFg:=aG iY.out 1;have aFh:=aG iY.out 2;have bA2:=aG iY.out 3;have aRh:0≤((NT):Int):=dU dW;have aRi:(NT)<(l0.length:Int):=dU dW;obtain ⟨bIA,bE3,aAH⟩:=Kd.jJ HR0.out (NT) aRh aRi
        cases bE3
        replace aAH:=(HB.out.cell (dM w _ aAH)).trans aAH;replace aRh:=eq_true aRh;replace aRi:=eq_true aRi
        go_wp2
        go_roundg k1
        case measure=>have:=wU.out;omega
        case rel=>exact ⟨(Go.bits .or .i64 tJ (aHs)),(wrap64 (Iw+1)),(by first|rfl|(simp;done)|(simp only [← aBT] <;> (first|rfl|simp))|(simp [*];done)),gV,H',⟨by have:=wU.out;omega⟩,⟨by refine aH ?_;exact iY.out⟩,⟨bV HB.out vJ.out⟩⟩
       ·rw [if_neg c21] at H;exact absurd H (by simp)
      ·rw [if_neg c19] at H;exact absurd H (by simp)
     ·rw [if_neg c18] at H;exact absurd H (by simp)
    ·rw [if_neg c16] at H;have NM:decide (Iw<qK)=false:=kT c16;clear c16;obtain ⟨PR,ZO⟩:∃ j_:Int,(wrap64 ((wrap64 (8*qK))-1))=j_:=⟨_,rfl⟩
     replace H:(if 0≤(PR) then (if a2=4 then (some tJ) else (if tJ≥(shl .i64 1 (PR)) then (some (wrap64 (tJ-(wrap64 (2*(shl .i64 1 (PR))))))) else (some tJ))) else (none))=some r:=by first|(rw [ZO] at H;exact H)|(simp only [ZO] at H ⊢;exact H)
     have bE4:(IntKind.i64.wrap ((wrap64 (8*qK))-1))=PR:=(nX _).trans ZO
     by_cases c25:0≤(PR)
     ·rw [if_pos c25] at H;have aBU:=eq_true c25;have aOF:decide (0≤(PR))=true:=fB c25;clear c25;obtain ⟨XI,XJ⟩:∃ j_:Int,(shl .i64 1 (PR))=j_:=⟨_,rfl⟩
      replace H:(if a2=4 then (some tJ) else (if tJ≥(XI) then (some (wrap64 (tJ-(wrap64 (2*(XI)))))) else (some tJ)))=some r:=by first|(rw [XJ] at H;exact H)|(simp only [XJ] at H ⊢;exact H)
      have aIY:(IntKind.i64.wrap (1*2 ^ min (PR).toNat 64))=XI:=XJ;have aIZ:(PR)≤64→(IntKind.i64.wrap (1*2 ^ (PR).toNat))=XI:=ZN XJ;have bE5:(IntKind.i64.wrap (2 ^ min (PR).toNat 64))=XI:=by have h_:=aIY;rw [Int.one_mul] at h_;exact h_
      have bE6:(PR)≤64→(IntKind.i64.wrap (2 ^ (PR).toNat))=XI:=fun bE7=>by have h_:=aIZ bE7;rw [Int.one_mul] at h_;exact h_
      have bE8:(wrap64 (1*2 ^ min (PR).toNat 64))=XI:=(nX _).symm.trans aIY;have bE9:(PR)≤64→(wrap64 (1*2 ^ (PR).toNat))=XI:=fun h_=>(nX _).symm.trans (aIZ h_)
      by_cases TU:a2=4
      ·rw [if_pos TU] at H;have aE8:(a2==4)=true:=beq_iff_eq.mpr TU;have aUV:(a2 != 4)=false:=bne_eq_false_iff_eq.mpr TU;clear TU;obtain rfl:=Option.some.inj H;have Wu:wr.cell? ⟨mJ,0,none⟩=some (.int .i64 bY):=(aC iY.out 0).trans rfl;have Wv:wr.cell? ⟨mJ,1,none⟩=some (.int .i64 jO):=(aC iY.out 1).trans rfl;have bA3:wr.cell? ⟨mJ,2,none⟩=some (.int .i64 qK):=(aC iY.out 2).trans rfl;have bA4:wr.cell? ⟨mJ,3,none⟩=some (.bool BC):=(aC iY.out 3).trans rfl;have Wx:=aG iY.out 0;have Wy:=aG iY.out 1;have bA5:=aG iY.out 2;have bA6:=aG iY.out 3
       go_wp2
       go_ret
       exact ⟨by first|rfl|(simp [bK,bM] <;> rfl)|(simp only [← ZO,← XJ];first|rfl|(simp [bK,bM] <;> rfl))|(simp [*,bK,bM] <;> rfl),bV HB.out vJ.out⟩
      ·rw [if_neg TU] at H;have aE8:(a2==4)=false:=beq_eq_false_iff_ne.mpr TU;have aUV:(a2 != 4)=true:=bne_iff_ne.mpr TU
       by_cases c29:tJ≥(XI)
       ·rw [if_pos c29] at H;have aI0:decide ((XI)≤tJ)=true:=fB c29;clear c29;obtain rfl:=Option.some.inj H;have WJ:wr.cell? ⟨mJ,0,none⟩=some (.int .i64 bY):=(aC iY.out 0).trans rfl;have WL:wr.cell? ⟨mJ,1,none⟩=some (.int .i64 jO):=(aC iY.out 1).trans rfl;have aE9:wr.cell? ⟨mJ,2,none⟩=some (.int .i64 qK):=(aC iY.out 2).trans rfl;have aL2:wr.cell? ⟨mJ,3,none⟩=some (.bool BC):=(aC iY.out 3).trans rfl;have WM:=aG iY.out 0;have WN:=aG iY.out 1;have aE_:=aG iY.out 2;have aL3:=aG iY.out 3
        go_wp2
        go_ret
        exact ⟨by first|rfl|(simp [bK,bM] <;> rfl)|(simp only [← ZO,← XJ];first|rfl|(simp [bK,bM] <;> rfl))|(simp [*,bK,bM] <;> rfl),bV HB.out vJ.out⟩
       ·rw [if_neg c29] at H;have aI0:decide ((XI)≤tJ)=false:=kT c29;clear c29;obtain rfl:=Option.some.inj H;have QU:wr.cell? ⟨mJ,0,none⟩=some (.int .i64 bY):=(aC iY.out 0).trans rfl;have QV:wr.cell? ⟨mJ,1,none⟩=some (.int .i64 jO):=(aC iY.out 1).trans rfl;have aL6:wr.cell? ⟨mJ,2,none⟩=some (.int .i64 qK):=(aC iY.out 2).trans rfl;have bA7:wr.cell? ⟨mJ,3,none⟩=some (.bool BC):=(aC iY.out 3).trans rfl;have QW:=aG iY.out 0;have QX:=aG iY.out 1;have aL7:=aG iY.out 2;have bA8:=aG iY.out 3
        go_wp2
        go_ret
        exact ⟨by first|rfl|(simp [bK,bM] <;> rfl)|(simp only [← ZO,← XJ];first|rfl|(simp [bK,bM] <;> rfl))|(simp [*,bK,bM] <;> rfl),bV HB.out vJ.out⟩
     ·rw [if_neg c25] at H;exact absurd H (by simp)
def gU.f (a0:Int):Option (Int × Int):=if a0=1 then (some (0,7)) else (if a0=2 then (some (0,3)) else (if a0=4 then (some (0,4294967295)) else (if a0=6 then (some ((-32768),32767)) else (some ((-128),127)))))
set_option maxHeartbeats 8000000 in
set_option maxRecDepth 100000 in
theorem gU.calls (a0:Int) (r1:Int) (r2:Int) (w:World) (h:gU.f a0=some (r1,r2)) :
  Calls Try.prog 54 #[.int .i64 a0] w fun e w'=>e=.returned (.tuple #[.int .i64 r1,.int .i64 r2])∧gQ w w':=by
 have H:(if a0=1 then (some (0,7)) else (if a0=2 then (some (0,3)) else (if a0=4 then (some (0,4294967295)) else (if a0=6 then (some ((-32768),32767)) else (some ((-128),127))))))=some (r1,r2):=h
 clear h
 by_cases c2:a0=1
 ·rw [if_pos c2] at H
  have aAy:(a0==1)=true:=beq_iff_eq.mpr c2
  have aIL:(a0 != 1)=false:=bne_eq_false_iff_eq.mpr c2
  clear c2
  simp only [Option.some.injEq,Prod.mk.injEq] at H
  obtain ⟨rfl,rfl⟩:=H
  go_enter Try.func54,Try.ntmps54
  go_wp2
  go_ret2
  exact ⟨by first|rfl|(simp;done)|(simp [*];done),by repeat (first|exact gQ.refl _|apply gQ.step)⟩
 ·rw [if_neg c2] at H
  have aAy:(a0==1)=false:=beq_eq_false_iff_ne.mpr c2
  have aIL:(a0 != 1)=true:=bne_iff_ne.mpr c2
  by_cases c3:a0=2
  ·rw [if_pos c3] at H;have LC:(a0==2)=true:=beq_iff_eq.mpr c3;have Xy:(a0 != 2)=false:=bne_eq_false_iff_eq.mpr c3;clear c3;simp only [Option.some.injEq,Prod.mk.injEq] at H;obtain ⟨rfl,rfl⟩:=H
   go_enter Try.func54,Try.ntmps54
   go_wp2
   go_ret2
   exact ⟨by first|rfl|(simp;done)|(simp [*];done),by repeat (first|exact gQ.refl _|apply gQ.step)⟩
  ·rw [if_neg c3] at H;have LC:(a0==2)=false:=beq_eq_false_iff_ne.mpr c3;have Xy:(a0 != 2)=true:=bne_iff_ne.mpr c3
   by_cases c4:a0=4
   ·rw [if_pos c4] at H;have Jz:(a0==4)=true:=beq_iff_eq.mpr c4;have aDs:(a0 != 4)=false:=bne_eq_false_iff_eq.mpr c4;clear c4;simp only [Option.some.injEq,Prod.mk.injEq] at H;obtain ⟨rfl,rfl⟩:=H
    go_enter Try.func54,Try.ntmps54
    go_wp2
    go_ret2
    exact ⟨by first|rfl|(simp;done)|(simp [*];done),by repeat (first|exact gQ.refl _|apply gQ.step)⟩
   ·rw [if_neg c4] at H;have Jz:(a0==4)=false:=beq_eq_false_iff_ne.mpr c4;have aDs:(a0 != 4)=true:=bne_iff_ne.mpr c4
    by_cases c5:a0=6
    ·rw [if_pos c5] at H;have Xz:(a0==6)=true:=beq_iff_eq.mpr c5;have aIM:(a0 != 6)=false:=bne_eq_false_iff_eq.mpr c5;clear c5;simp only [Option.some.injEq,Prod.mk.injEq] at H;obtain ⟨rfl,rfl⟩:=H
     go_enter Try.func54,Try.ntmps54
     go_wp2
     go_ret2
     exact ⟨by first|rfl|(simp;done)|(simp [*];done),by repeat (first|exact gQ.refl _|apply gQ.step)⟩
    ·rw [if_neg c5] at H;have Xz:(a0==6)=false:=beq_eq_false_iff_ne.mpr c5;have aIM:(a0 != 6)=true:=bne_iff_ne.mpr c5;simp only [Option.some.injEq,Prod.mk.injEq] at H;obtain ⟨rfl,rfl⟩:=H
     go_enter Try.func54,Try.ntmps54
     go_wp2
     go_ret2
     exact ⟨by first|rfl|(simp;done)|(simp [*];done),by repeat (first|exact gQ.refl _|apply gQ.step)⟩
end Go.Proofs.Ytipjpdiianopcaa.A
