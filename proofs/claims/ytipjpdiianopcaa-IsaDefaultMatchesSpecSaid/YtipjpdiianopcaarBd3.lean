/- Words and contracts for the laws. -/
import Derived.Test.YtipjpdiianopcaarAx0
import Derived.Test.YtipjpdiianopcaarCv
import Derived.Test.YtipjpdiianopcaarCd
import Derived.Test.YtipjpdiianopcaarCdd
import Derived.Test.YtipjpdiianopcaarCfl
namespace Go.Proofs.Ytipjpdiianopcaa.E
open Go.RowKit Go.Proofs.YtipjpdiianopcaaW.aZ Go.Proofs.YtipjpdiianopcaaW.dQ Go.Proofs.YtipjpdiianopcaaW.gW Go.Proofs.Ytipjpdiianopcaa.A Go.Proofs.Ytipjpdiianopcaa.Cv Go.Proofs.Ytipjpdiianopcaa.Cd Go.Proofs.Ytipjpdiianopcaa.Zu
attribute [local go_sem] jY jZ kY kZ jD jE kC kD
set_option linter.unusedVariables false
set_option linter.unusedSimpArgs false
attribute [local go_sem high] GU GV
mutual
def aK.j0:Nat→ByteArray→Bool→Option (Int)
 | 0,_,_=>none
 | k+1,x9,x12=>if x12=true then (some 2) else (if x9.toList=([106,101,113]:List UInt8) then (aK.j1 k x9 (x9.toList==([106,101,113]:List UInt8))) else (if x9.toList=([106,110,101]:List UInt8) then (aK.j1 k x9 (x9.toList==([106,110,101]:List UInt8))) else (if x9.toList=([106,108,116]:List UInt8) then (aK.j1 k x9 (x9.toList==([106,108,116]:List UInt8))) else (aK.j1 k x9 (x9.toList==([106,108,111]:List UInt8))))))
def aK.j1:Nat→ByteArray→Bool→Option (Int)
 | 0,_,_=>none
 | k+1,x9,x15=>if x15=true then (some 3) else (if x9.toList=([99,97,108,108]:List UInt8) then (aK.j2 k x9 (x9.toList==([99,97,108,108]:List UInt8))) else (aK.j2 k x9 (x9.toList==([99,97,108,108,114]:List UInt8))))
def aK.j2:Nat→ByteArray→Bool→Option (Int)
 | 0,_,_=>none
 | k+1,x9,x20=>if x20=true then (some 4) else (if x9.toList=([114,101,116]:List UInt8) then (some 5) else (if x9.toList=([106,117,109,112,114]:List UInt8) then (some 6) else (if x9.toList=([106,117,109,112,109]:List UInt8) then (some 6) else (if x9.toList=([101,114,101,116]:List UInt8) then (some 6) else (some 1)))))
end
def aK.f (k:Nat) (a0:Int):Option (Int):=(aT.f k).bind fun eU=>(if 0≤a0 then (if a0<(eU.length:Int) then (if ((aG eU a0).f0).toList=([104,97,108,116]:List UInt8) then (some 7) else (if ((aG eU a0).f0).toList=([106,117,109,112]:List UInt8) then (aK.j0 k ((aG eU a0).f0) (((aG eU a0).f0).toList==([106,117,109,112]:List UInt8))) else (aK.j0 k ((aG eU a0).f0) (((aG eU a0).f0).toList==([106,117,109,112,97]:List UInt8))))) else (none)) else (none))
theorem aK.iW:∀ k,(∀ y0 y1,eG (aK.j0 k y0 y1) (aK.j0 (k+1) y0 y1))∧(∀ y0 y1,eG (aK.j1 k y0 y1) (aK.j1 (k+1) y0 y1))∧(∀ y0 y1,eG (aK.j2 k y0 y1) (aK.j2 (k+1) y0 y1))
 | 0=>⟨fun _ _ r h=>by simp [aK.j0] at h,fun _ _ r h=>by simp [aK.j1] at h,fun _ _ r h=>by simp [aK.j2] at h⟩
 | k+1=>by
  obtain ⟨lZ,ih1,ih2⟩:=aK.iW k
  refine ⟨?_,?_,?_⟩
  ·intro y0 y1;unfold aK.j0
   repeat' first
   | (with_reducible exact lZ _ _)
   | (with_reducible exact ih1 _ _)
   | (with_reducible exact ih2 _ _)
   | (with_reducible exact aT.mono _)
   | (with_reducible exact eG.refl _)
   | (with_reducible exact eG.none _)
   | (with_reducible refine eG.ite ?_ ?_)
   | (with_reducible refine eG.bind ?_ (fun _=>?_))
   | exact lZ _ _
   | exact ih1 _ _
   | exact ih2 _ _
   | exact aT.mono _
   | exact eG.none _
   | refine eG.ite ?_ ?_
   | refine eG.bind ?_ (fun _=>?_)
  ·intro y0 y1;unfold aK.j1
   repeat' first
   | (with_reducible exact lZ _ _)
   | (with_reducible exact ih1 _ _)
   | (with_reducible exact ih2 _ _)
   | (with_reducible exact aT.mono _)
   | (with_reducible exact eG.refl _)
   | (with_reducible exact eG.none _)
   | (with_reducible refine eG.ite ?_ ?_)
   | (with_reducible refine eG.bind ?_ (fun _=>?_))
   | exact lZ _ _
   | exact ih1 _ _
   | exact ih2 _ _
   | exact aT.mono _
   | exact eG.none _
   | refine eG.ite ?_ ?_
   | refine eG.bind ?_ (fun _=>?_)
  ·intro y0 y1;unfold aK.j2
   repeat' first
   | (with_reducible exact lZ _ _)
   | (with_reducible exact ih1 _ _)
   | (with_reducible exact ih2 _ _)
   | (with_reducible exact aT.mono _)
   | (with_reducible exact eG.refl _)
   | (with_reducible exact eG.none _)
   | (with_reducible refine eG.ite ?_ ?_)
   | (with_reducible refine eG.bind ?_ (fun _=>?_))
   | exact lZ _ _
   | exact ih1 _ _
   | exact ih2 _ _
   | exact aT.mono _
   | exact eG.none _
   | refine eG.ite ?_ ?_
   | refine eG.bind ?_ (fun _=>?_)
theorem aK.mono:∀ a0 k,eG (aK.f k a0) (aK.f (k+1) a0):=by
 intro a0 k
 obtain ⟨lZ,ih1,ih2⟩:=aK.iW k
 unfold aK.f
 repeat' first
   | (with_reducible exact lZ _ _)
   | (with_reducible exact ih1 _ _)
   | (with_reducible exact ih2 _ _)
   | (with_reducible exact aT.mono _)
   | (with_reducible exact eG.refl _)
   | (with_reducible exact eG.none _)
   | (with_reducible refine eG.ite ?_ ?_)
   | (with_reducible refine eG.bind ?_ (fun _=>?_))
   | exact lZ _ _
   | exact ih1 _ _
   | exact ih2 _ _
   | exact aT.mono _
   | exact eG.none _
   | refine eG.ite ?_ ?_
   | refine eG.bind ?_ (fun _=>?_)
set_option maxHeartbeats 8000000 in
set_option maxRecDepth 100000 in
theorem aK.calls (k:Nat) (a0:Int) (r:Int) (w:World) (h:aK.f k a0=some r) :
  Calls Try.prog 44 #[.int .i64 a0] w fun e w'=>e=.returned (.int .i64 r)∧Below w.heap.size w w':=by
 have HB:=aA.mk (Below.refl w.heap.size w)
 have H:((aT.f k).bind fun eU=>(if 0≤a0 then (if a0<(eU.length:Int) then (if ((aG eU a0).f0).toList=([104,97,108,116]:List UInt8) then (some 7) else (if ((aG eU a0).f0).toList=([106,117,109,112]:List UInt8) then (aK.j0 k ((aG eU a0).f0) (((aG eU a0).f0).toList==([106,117,109,112]:List UInt8))) else (aK.j0 k ((aG eU a0).f0) (((aG eU a0).f0).toList==([106,117,109,112,97]:List UInt8))))) else (none)) else (none)))=some r:=h
 clear h
 replace H:=Option.bind_eq_some_iff.mp H
 obtain ⟨eU,GH,H⟩:=H
 replace H:(if 0≤a0 then (if a0<(eU.length:Int) then (if ((aG eU a0).f0).toList=([104,97,108,116]:List UInt8) then (some 7) else (if ((aG eU a0).f0).toList=([106,117,109,112]:List UInt8) then (aK.j0 k ((aG eU a0).f0) (((aG eU a0).f0).toList==([106,117,109,112]:List UInt8))) else (aK.j0 k ((aG eU a0).f0) (((aG eU a0).f0).toList==([106,117,109,112,97]:List UInt8))))) else (none)) else (none))=some r:=H
 have A2:=aA.mk GH
 clear GH
 by_cases c3:0≤a0
 ·rw [if_pos c3] at H
  have vG:decide (0≤a0)=true:=eH c3
  clear c3
  by_cases c4:a0<(eU.length:Int)
  ·rw [if_pos c4] at H;have vC:decide (a0<(eU.length:Int))=true:=eH c4;clear c4
   by_cases c5:((aG eU a0).f0).toList=([104,97,108,116]:List UInt8)
   ·rw [if_pos c5] at H;have IL:(((aG eU a0).f0).toList==([104,97,108,116]:List UInt8))=true:=beq_iff_eq.mpr c5;have QE:(((aG eU a0).f0).toList != ([104,97,108,116]:List UInt8))=false:=bne_eq_false_iff_eq.mpr c5;clear c5;obtain rfl:=Option.some.inj H
    go_enter Try.func44,Try.ntmps44
    go_wp2_with (first|((with_reducible refine cZ (f:=42) rfl ?_);refine gQ (some 4) rfl rfl Try.func42 aV rfl #[] rfl fU ?_;(with_reducible refine (aT.calls k  eU _ A2.out).mono ?_);rintro e w6 ⟨Zv,rfl,ho0,hb⟩;refine ⟨_,rfl,?_⟩;have bU:=aA.mk (Kd.oV (Kd.gY (ok':=fun k_=>True) ho0 (fun k_ JR=>trivial)) (aQ (bM HB.out)));have bV:=aA.mk (aN (bM HB.out) hb);clear HB;have vY:=bU;have HB:=bV;clear bU bV;obtain ⟨Ao7,co7,eo7⟩:=Kd.kQ vY.out;subst eo7;have BH:0≤(a0:Int):=dW dX;have BI:a0<(eU.length:Int):=dW dX;obtain ⟨Us,BJ,QV,QW,Ns,Nu,BL,vZ,wB⟩:=lC (Kd.iK vY.out).2.2 a0 BH BI;cases QW;obtain ⟨Ut,EX,EY,zK⟩:=Kd.xO vY.out z54 a0 BH (by first|exact BI|exact dW dX|(have e_:=(Kd.iK vY.out).1;omega));obtain ⟨Nv,Nw,rfl,rP,rQ⟩:=oI EY;have pJ:=zK 2 _ rfl;rw [mJ _ _ 2 (by omega)] at pJ;replace pJ:=Option.some.inj (pJ.symm.trans BL);injection pJ with pR uV pU;rw [pR] at rQ;rw [pU] at rP;have Ny:=aA.mk (show Kd.V (Kd.int .i64) 3 _ w.heap.size _ _ ((aG eU a0).f2) from Kd.DJ rP rQ);clear pR uV pU rQ rP;clear zK EX;have jP:=aA.mk wB;have Nz:=aA.mk vZ;clear wB vZ;replace BH:=eq_true BH;replace BI:=eq_true BI))
    go_ret
    exact ⟨by first|rfl|(simp [aX,aY] <;> rfl)|(simp [*,aX,aY] <;> rfl),bM HB.out⟩
   ·rw [if_neg c5] at H;have IL:(((aG eU a0).f0).toList==([104,97,108,116]:List UInt8))=false:=beq_eq_false_iff_ne.mpr c5;have QE:(((aG eU a0).f0).toList != ([104,97,108,116]:List UInt8))=true:=bne_iff_ne.mpr c5;have Zw:=aA.mk H;clear H
    go_enter Try.func44,Try.ntmps44
    go_upto_if 12 with (first|((with_reducible refine cZ (f:=42) rfl ?_);refine gQ (some 4) rfl rfl Try.func42 aV rfl #[] rfl fU ?_;(with_reducible refine (aT.calls k  eU _ A2.out).mono ?_);rintro e w9 ⟨Zv,rfl,ho0,hb⟩;refine ⟨_,rfl,?_⟩;have bU:=aA.mk (Kd.oV (Kd.gY (ok':=fun k_=>True) ho0 (fun k_ JR=>trivial)) (aQ (bM HB.out)));have bV:=aA.mk (aN (bM HB.out) hb);clear HB;have vY:=bU;have HB:=bV;clear bU bV;obtain ⟨aD0,aD1,Zx⟩:=Kd.kQ vY.out;subst Zx;have BH:0≤(a0:Int):=dW dX;have BI:a0<(eU.length:Int):=dW dX;obtain ⟨Us,BJ,QV,QW,Ns,Nu,BL,vZ,wB⟩:=lC (Kd.iK vY.out).2.2 a0 BH BI;cases QW;obtain ⟨Ut,EX,EY,zK⟩:=Kd.xO vY.out z54 a0 BH (by first|exact BI|exact dW dX|(have e_:=(Kd.iK vY.out).1;omega));obtain ⟨Nv,Nw,rfl,rP,rQ⟩:=oI EY;have pJ:=zK 2 _ rfl;rw [mJ _ _ 2 (by omega)] at pJ;replace pJ:=Option.some.inj (pJ.symm.trans BL);injection pJ with pR uV pU;rw [pR] at rQ;rw [pU] at rP;have Ny:=aA.mk (show Kd.V (Kd.int .i64) 3 _ w.heap.size _ _ ((aG eU a0).f2) from Kd.DJ rP rQ);clear pR uV pU rQ rP;clear zK EX;have jP:=aA.mk wB;have Nz:=aA.mk vZ;clear wB vZ;replace BH:=eq_true BH;replace BI:=eq_true BI))
    (try simp only [Act.put,Aq,Ar,Au])
    go_cut [12] (fun v12 wc=>∃ (kq:Nat) (GX:Bool),v12=.bool GX∧aA (aK.j0 kq ((aG eU a0).f0) GX=some r)∧aA (kq≤k)∧aA (Kd.C (Kd.int .i64) wc BJ ((aG eU a0).f2).length ((aG eU a0).f2))∧aA (Below w.heap.size w wc))
    case first =>
     have H:=Zw.out;clear Zw
     by_cases c11:((aG eU a0).f0).toList=([106,117,109,112]:List UInt8)
     ·rw [if_pos c11] at H;have qR:(((aG eU a0).f0).toList==([106,117,109,112]:List UInt8))=true:=beq_iff_eq.mpr c11;have yY:(((aG eU a0).f0).toList != ([106,117,109,112]:List UInt8))=false:=bne_eq_false_iff_eq.mpr c11;clear c11
      (first|rw [qR]|(simp only [lK,lM];rw [qR])|skip)
      have H':=aA.mk H;clear H
      go_wp2
      go_meet
      case rel=>exact ⟨_,((((aG eU a0).f0).toList==([106,117,109,112]:List UInt8))),fB,H',⟨by first|omega|exact Nat.le_refl _⟩,⟨by repeat (first|(with_reducible exact jP.out)|(with_reducible refine Kd.gZ ?_ _)|(with_reducible refine Kd.iC ?_ _)|(with_reducible refine Kd.iU ?_)|exact jP.out)⟩,⟨bM HB.out⟩⟩
     ·rw [if_neg c11] at H;have qR:(((aG eU a0).f0).toList==([106,117,109,112]:List UInt8))=false:=beq_eq_false_iff_ne.mpr c11;have yY:(((aG eU a0).f0).toList != ([106,117,109,112]:List UInt8))=true:=bne_iff_ne.mpr c11
      (first|rw [qR]|(simp only [lK,lM];rw [qR])|skip)
      have H':=aA.mk H;clear H
      go_wp2
      go_meet
      case rel=>exact ⟨_,((((aG eU a0).f0).toList==([106,117,109,112,97]:List UInt8))),fB,H',⟨by first|omega|exact Nat.le_refl _⟩,⟨by repeat (first|(with_reducible exact jP.out)|(with_reducible refine Kd.gZ ?_ _)|(with_reducible refine Kd.iC ?_ _)|(with_reducible refine Kd.iU ?_)|exact jP.out)⟩,⟨bM HB.out⟩⟩
    case rest =>
     clear Zw;obtain ⟨kq,GX,rfl,HA,Tt,jP,HB⟩:=hcut
     cases kq with
     | zero=>exact absurd HA.out (by simp [aK.j0])
     | succ Uu =>
      have H:=HA.out;clear HA;simp only [aK.j0] at H
      by_cases c12:GX=true
      ·subst c12;have H1:(some 2)=some r:=by rw [if_pos rfl] at H;exact H
       clear H;have H:=H1;clear H1;obtain rfl:=Option.some.inj H
       go_wp2
       go_ret
       exact ⟨by first|rfl|(simp [aX,aY] <;> rfl)|(simp [*,aX,aY] <;> rfl),bM HB.out⟩
      ·replace c12:=Bool.eq_false_iff.mpr c12;subst c12;have H1:(if ((aG eU a0).f0).toList=([106,101,113]:List UInt8) then (aK.j1 Uu ((aG eU a0).f0) (((aG eU a0).f0).toList==([106,101,113]:List UInt8))) else (if ((aG eU a0).f0).toList=([106,110,101]:List UInt8) then (aK.j1 Uu ((aG eU a0).f0) (((aG eU a0).f0).toList==([106,110,101]:List UInt8))) else (if ((aG eU a0).f0).toList=([106,108,116]:List UInt8) then (aK.j1 Uu ((aG eU a0).f0) (((aG eU a0).f0).toList==([106,108,116]:List UInt8))) else (aK.j1 Uu ((aG eU a0).f0) (((aG eU a0).f0).toList==([106,108,111]:List UInt8))))))=some r:=by rw [if_neg (show ¬ (false=true) by decide)] at H;exact H
       clear H;have H:=H1;clear H1;have QX:=aA.mk H;clear H
       go_upto_if 15 with (fail)
       go_cut [15] (fun v15 wc=>∃ (kq:Nat) (BM:Bool),v15=.bool BM∧aA (aK.j1 kq ((aG eU a0).f0) BM=some r)∧aA (kq≤Uu)∧aA (Kd.C (Kd.int .i64) wc BJ ((aG eU a0).f2).length ((aG eU a0).f2))∧aA (Below w.heap.size w wc))
       case first =>
        have H:=QX.out;clear QX
        by_cases c14:((aG eU a0).f0).toList=([106,101,113]:List UInt8)
        ·rw [if_pos c14] at H;have vI:(((aG eU a0).f0).toList==([106,101,113]:List UInt8))=true:=beq_iff_eq.mpr c14;have JL:(((aG eU a0).f0).toList != ([106,101,113]:List UInt8))=false:=bne_eq_false_iff_eq.mpr c14;clear c14
         (first|rw [vI]|(simp only [lK,lM];rw [vI])|skip)
         have H':=aA.mk H;clear H
         go_wp2
         go_meet
         case rel=>exact ⟨_,((((aG eU a0).f0).toList==([106,101,113]:List UInt8))),fB,H',⟨by have:=Tt.out;first|omega|exact Nat.le_refl _⟩,⟨by repeat (first|(with_reducible exact jP.out)|(with_reducible refine Kd.gZ ?_ _)|(with_reducible refine Kd.iC ?_ _)|(with_reducible refine Kd.iU ?_)|exact jP.out)⟩,⟨bM HB.out⟩⟩
        ·rw [if_neg c14] at H;have vI:(((aG eU a0).f0).toList==([106,101,113]:List UInt8))=false:=beq_eq_false_iff_ne.mpr c14;have JL:(((aG eU a0).f0).toList != ([106,101,113]:List UInt8))=true:=bne_iff_ne.mpr c14
         (first|rw [vI]|(simp only [lK,lM];rw [vI])|skip)
         by_cases c15:((aG eU a0).f0).toList=([106,110,101]:List UInt8)
         ·rw [if_pos c15] at H;have xJ:(((aG eU a0).f0).toList==([106,110,101]:List UInt8))=true:=beq_iff_eq.mpr c15;have Uw:(((aG eU a0).f0).toList != ([106,110,101]:List UInt8))=false:=bne_eq_false_iff_eq.mpr c15;clear c15;have H':=aA.mk H;clear H
          go_wp2
          go_meet
          case rel=>exact ⟨_,((((aG eU a0).f0).toList==([106,110,101]:List UInt8))),fB,H',⟨by have:=Tt.out;first|omega|exact Nat.le_refl _⟩,⟨by repeat (first|(with_reducible exact jP.out)|(with_reducible refine Kd.gZ ?_ _)|(with_reducible refine Kd.iC ?_ _)|(with_reducible refine Kd.iU ?_)|exact jP.out)⟩,⟨bM HB.out⟩⟩
         ·rw [if_neg c15] at H;have xJ:(((aG eU a0).f0).toList==([106,110,101]:List UInt8))=false:=beq_eq_false_iff_ne.mpr c15;have Uw:(((aG eU a0).f0).toList != ([106,110,101]:List UInt8))=true:=bne_iff_ne.mpr c15
          by_cases c16:((aG eU a0).f0).toList=([106,108,116]:List UInt8)
          ·rw [if_pos c16] at H;have PG:(((aG eU a0).f0).toList==([106,108,116]:List UInt8))=true:=beq_iff_eq.mpr c16;have Ux:(((aG eU a0).f0).toList != ([106,108,116]:List UInt8))=false:=bne_eq_false_iff_eq.mpr c16;clear c16;have H':=aA.mk H;clear H
           go_wp2
           go_meet
           case rel=>exact ⟨_,((((aG eU a0).f0).toList==([106,108,116]:List UInt8))),fB,H',⟨by have:=Tt.out;first|omega|exact Nat.le_refl _⟩,⟨by repeat (first|(with_reducible exact jP.out)|(with_reducible refine Kd.gZ ?_ _)|(with_reducible refine Kd.iC ?_ _)|(with_reducible refine Kd.iU ?_)|exact jP.out)⟩,⟨bM HB.out⟩⟩
          ·rw [if_neg c16] at H;have PG:(((aG eU a0).f0).toList==([106,108,116]:List UInt8))=false:=beq_eq_false_iff_ne.mpr c16;have Ux:(((aG eU a0).f0).toList != ([106,108,116]:List UInt8))=true:=bne_iff_ne.mpr c16;have H':=aA.mk H;clear H
           go_wp2
           go_meet
           case rel=>exact ⟨_,((((aG eU a0).f0).toList==([106,108,111]:List UInt8))),fB,H',⟨by have:=Tt.out;first|omega|exact Nat.le_refl _⟩,⟨by repeat (first|(with_reducible exact jP.out)|(with_reducible refine Kd.gZ ?_ _)|(with_reducible refine Kd.iC ?_ _)|(with_reducible refine Kd.iU ?_)|exact jP.out)⟩,⟨bM HB.out⟩⟩
       case rest =>
        clear QX;obtain ⟨kq,BM,rfl,HA,Uy,jP,HB⟩:=hcut
        cases kq with
        | zero=>exact absurd HA.out (by simp [aK.j1])
        | succ QY =>
         have H:=HA.out;clear HA;simp only [aK.j1] at H
         by_cases c17:BM=true
         ·subst c17;have H1:(some 3)=some r:=by rw [if_pos rfl] at H;exact H
          clear H;have H:=H1;clear H1;obtain rfl:=Option.some.inj H
          go_wp2
          go_ret
          exact ⟨by first|rfl|(simp [aX,aY] <;> rfl)|(simp [*,aX,aY] <;> rfl),bM HB.out⟩
         ·replace c17:=Bool.eq_false_iff.mpr c17;subst c17;have H1:(if ((aG eU a0).f0).toList=([99,97,108,108]:List UInt8) then (aK.j2 QY ((aG eU a0).f0) (((aG eU a0).f0).toList==([99,97,108,108]:List UInt8))) else (aK.j2 QY ((aG eU a0).f0) (((aG eU a0).f0).toList==([99,97,108,108,114]:List UInt8))))=some r:=by rw [if_neg (show ¬ (false=true) by decide)] at H;exact H
          clear H;have H:=H1;clear H1;have ED:=aA.mk H;clear H
          go_upto_if 20 with (fail)
          go_cut [20] (fun v20 wc=>∃ (kq:Nat) (BN:Bool),v20=.bool BN∧aA (aK.j2 kq ((aG eU a0).f0) BN=some r)∧aA (kq≤QY)∧aA (Kd.C (Kd.int .i64) wc BJ ((aG eU a0).f2).length ((aG eU a0).f2))∧aA (Below w.heap.size w wc))
          case first =>
           have H:=ED.out;clear ED
           by_cases c19:((aG eU a0).f0).toList=([99,97,108,108]:List UInt8)
           ·rw [if_pos c19] at H;have sQ:(((aG eU a0).f0).toList==([99,97,108,108]:List UInt8))=true:=beq_iff_eq.mpr c19;have Jq:(((aG eU a0).f0).toList != ([99,97,108,108]:List UInt8))=false:=bne_eq_false_iff_eq.mpr c19;clear c19
            (first|rw [sQ]|(simp only [lK,lM];rw [sQ])|skip)
            have H':=aA.mk H;clear H
            go_wp2
            go_meet
            case rel=>exact ⟨_,((((aG eU a0).f0).toList==([99,97,108,108]:List UInt8))),fB,H',⟨by have:=Tt.out;have:=Uy.out;first|omega|exact Nat.le_refl _⟩,⟨by repeat (first|(with_reducible exact jP.out)|(with_reducible refine Kd.gZ ?_ _)|(with_reducible refine Kd.iC ?_ _)|(with_reducible refine Kd.iU ?_)|exact jP.out)⟩,⟨bM HB.out⟩⟩
           ·rw [if_neg c19] at H;have sQ:(((aG eU a0).f0).toList==([99,97,108,108]:List UInt8))=false:=beq_eq_false_iff_ne.mpr c19;have Jq:(((aG eU a0).f0).toList != ([99,97,108,108]:List UInt8))=true:=bne_iff_ne.mpr c19
            (first|rw [sQ]|(simp only [lK,lM];rw [sQ])|skip)
            have H':=aA.mk H;clear H
            go_wp2
            go_meet
            case rel=>exact ⟨_,((((aG eU a0).f0).toList==([99,97,108,108,114]:List UInt8))),fB,H',⟨by have:=Tt.out;have:=Uy.out;first|omega|exact Nat.le_refl _⟩,⟨by repeat (first|(with_reducible exact jP.out)|(with_reducible refine Kd.gZ ?_ _)|(with_reducible refine Kd.iC ?_ _)|(with_reducible refine Kd.iU ?_)|exact jP.out)⟩,⟨bM HB.out⟩⟩
          case rest =>
           clear ED;obtain ⟨kq,BN,rfl,HA,YY,jP,HB⟩:=hcut
           cases kq with
           | zero=>exact absurd HA.out (by simp [aK.j2])
           | succ YZ =>
            have H:=HA.out;clear HA;simp only [aK.j2] at H
            by_cases c20:BN=true
            ·subst c20;have H1:(some 4)=some r:=by rw [if_pos rfl] at H;exact H
             clear H;have H:=H1;clear H1;obtain rfl:=Option.some.inj H
             go_wp2
             go_ret
             exact ⟨by first|rfl|(simp [aX,aY] <;> rfl)|(simp [*,aX,aY] <;> rfl),bM HB.out⟩
            ·replace c20:=Bool.eq_false_iff.mpr c20;subst c20;have H1:(if ((aG eU a0).f0).toList=([114,101,116]:List UInt8) then (some 5) else (if ((aG eU a0).f0).toList=([106,117,109,112,114]:List UInt8) then (some 6) else (if ((aG eU a0).f0).toList=([106,117,109,112,109]:List UInt8) then (some 6) else (if ((aG eU a0).f0).toList=([101,114,101,116]:List UInt8) then (some 6) else (some 1)))))=some r:=by rw [if_neg (show ¬ (false=true) by decide)] at H;exact H
             clear H;have H:=H1;clear H1
             by_cases c21:((aG eU a0).f0).toList=([114,101,116]:List UInt8)
             ·rw [if_pos c21] at H;have GK:(((aG eU a0).f0).toList==([114,101,116]:List UInt8))=true:=beq_iff_eq.mpr c21;have Uz:(((aG eU a0).f0).toList != ([114,101,116]:List UInt8))=false:=bne_eq_false_iff_eq.mpr c21;clear c21;obtain rfl:=Option.some.inj H
              go_wp2
              go_ret
              exact ⟨by first|rfl|(simp [aX,aY] <;> rfl)|(simp [*,aX,aY] <;> rfl),bM HB.out⟩
             ·rw [if_neg c21] at H;have GK:(((aG eU a0).f0).toList==([114,101,116]:List UInt8))=false:=beq_eq_false_iff_ne.mpr c21;have Uz:(((aG eU a0).f0).toList != ([114,101,116]:List UInt8))=true:=bne_iff_ne.mpr c21
              by_cases Aw:((aG eU a0).f0).toList=([106,117,109,112,114]:List UInt8)
              ·rw [if_pos Aw] at H;have Gs:(((aG eU a0).f0).toList==([106,117,109,112,114]:List UInt8))=true:=beq_iff_eq.mpr Aw;have Jr:(((aG eU a0).f0).toList != ([106,117,109,112,114]:List UInt8))=false:=bne_eq_false_iff_eq.mpr Aw;clear Aw;obtain rfl:=Option.some.inj H
               go_wp2
               go_ret
               exact ⟨by first|rfl|(simp [aX,aY] <;> rfl)|(simp [*,aX,aY] <;> rfl),bM HB.out⟩
              ·rw [if_neg Aw] at H;have Gs:(((aG eU a0).f0).toList==([106,117,109,112,114]:List UInt8))=false:=beq_eq_false_iff_ne.mpr Aw;have Jr:(((aG eU a0).f0).toList != ([106,117,109,112,114]:List UInt8))=true:=bne_iff_ne.mpr Aw
               by_cases c23:((aG eU a0).f0).toList=([106,117,109,112,109]:List UInt8)
               ·rw [if_pos c23] at H;have JS:(((aG eU a0).f0).toList==([106,117,109,112,109]:List UInt8))=true:=beq_iff_eq.mpr c23;have JU:(((aG eU a0).f0).toList != ([106,117,109,112,109]:List UInt8))=false:=bne_eq_false_iff_eq.mpr c23;clear c23;obtain rfl:=Option.some.inj H
                go_wp2
                go_ret
                exact ⟨by first|rfl|(simp [aX,aY] <;> rfl)|(simp [*,aX,aY] <;> rfl),bM HB.out⟩
               ·rw [if_neg c23] at H;have JS:(((aG eU a0).f0).toList==([106,117,109,112,109]:List UInt8))=false:=beq_eq_false_iff_ne.mpr c23;have JU:(((aG eU a0).f0).toList != ([106,117,109,112,109]:List UInt8))=true:=bne_iff_ne.mpr c23
                by_cases c24:((aG eU a0).f0).toList=([101,114,101,116]:List UInt8)
                ·rw [if_pos c24] at H;have Dn:(((aG eU a0).f0).toList==([101,114,101,116]:List UInt8))=true:=beq_iff_eq.mpr c24;have Js:(((aG eU a0).f0).toList != ([101,114,101,116]:List UInt8))=false:=bne_eq_false_iff_eq.mpr c24;clear c24;obtain rfl:=Option.some.inj H
                 go_wp2
                 go_ret
                 exact ⟨by first|rfl|(simp [aX,aY] <;> rfl)|(simp [*,aX,aY] <;> rfl),bM HB.out⟩
                ·rw [if_neg c24] at H;have Dn:(((aG eU a0).f0).toList==([101,114,101,116]:List UInt8))=false:=beq_eq_false_iff_ne.mpr c24;have Js:(((aG eU a0).f0).toList != ([101,114,101,116]:List UInt8))=true:=bne_iff_ne.mpr c24;obtain rfl:=Option.some.inj H
                 go_wp2
                 go_ret
                 exact ⟨by first|rfl|(simp [aX,aY] <;> rfl)|(simp [*,aX,aY] <;> rfl),bM HB.out⟩
  ·rw [if_neg c4] at H;exact absurd H (by simp)
 ·rw [if_neg c3] at H
  exact absurd H (by simp)
end Go.Proofs.Ytipjpdiianopcaa.E
