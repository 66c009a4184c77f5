/- Words and contracts for the laws. -/
import Derived.Test.YtipjpdiianopcaarAx0
namespace Go.Proofs.Ytipjpdiianopcaa.A
open Go.RowKit Go.Proofs.YtipjpdiianopcaaW.aZ Go.Proofs.YtipjpdiianopcaaW.dQ Go.Proofs.YtipjpdiianopcaaW.gW
attribute [local go_sem] jY jZ kY kZ jD jE kC kD
set_option linter.unusedVariables false
set_option linter.unusedSimpArgs false
def dM.l0:Nat→Int→List Int→Int→Int→Option (Int)
 | 0,_,_,_,_=>none
 | k+1,x3,x7,x8,x9=>if x9<x8 then (if 0≤x9 then (if x9<(x7.length:Int) then (if (rd x7 x9)=1 then (dM.l0 k (wrap64 (x3+1)) x7 x8 (wrap64 (x9+1))) else (if (rd x7 x9)=2 then (dM.l0 k (wrap64 (x3+1)) x7 x8 (wrap64 (x9+1))) else (dM.l0 k x3 x7 x8 (wrap64 (x9+1))))) else (none)) else (none)) else (some x3)
def dM.f (k:Nat) (iH:ByteArray) (iI:Int) (dS:List Int):Option (Int):=dM.l0 k 0 dS (dS.length:Int) 0
theorem dM.iW:∀ k,(∀ y0 y1 y2 y3,eG (dM.l0 k y0 y1 y2 y3) (dM.l0 (k+1) y0 y1 y2 y3))
 | 0=>fun _ _ _ _ r h=>by simp [dM.l0] at h
 | k+1=>by
  have lZ:=dM.iW k
  ·intro y0 y1 y2 y3;unfold dM.l0
   repeat' first
   | (with_reducible exact lZ _ _ _ _)
   | (with_reducible exact eG.refl _)
   | (with_reducible exact eG.none _)
   | (with_reducible refine eG.ite ?_ ?_)
   | (with_reducible refine eG.bind ?_ (fun _=>?_))
   | exact lZ _ _ _ _
   | exact eG.none _
   | refine eG.ite ?_ ?_
   | refine eG.bind ?_ (fun _=>?_)
theorem dM.mono:∀ a0 a1 a2 k,eG (dM.f k a0 a1 a2) (dM.f (k+1) a0 a1 a2):=by
 intro a0 a1 a2 k
 have lZ:=dM.iW k
 unfold dM.f
 repeat' first
   | (with_reducible exact lZ _ _ _ _)
   | (with_reducible exact eG.refl _)
   | (with_reducible exact eG.none _)
   | (with_reducible refine eG.ite ?_ ?_)
   | (with_reducible refine eG.bind ?_ (fun _=>?_))
   | exact lZ _ _ _ _
   | exact eG.none _
   | refine eG.ite ?_ ?_
   | refine eG.bind ?_ (fun _=>?_)
set_option maxHeartbeats 8000000 in
set_option maxRecDepth 100000 in
theorem dM.calls (k:Nat) (iH:ByteArray) (iI:Int) (kU:Option Addr) (kR:Nat) (dS:List Int) (r:Int) (w:World) (sS:Kd.C (Kd.int .i64) w kU dS.length dS) (sU:dS.length≤kR) (h:dM.f k iH iI dS=some r) :
  Calls Try.prog 84 #[.agg #[.string iH,.int .i64 iI,.slice kU dS.length kR]] w fun e w'=>e=.returned (.int .i64 r)∧Below w.heap.size w w':=by
 have vH:=Try.underlying54
 have uH:=aA.mk sS
 have Du:=aA.mk sU
 clear sS sU
 have HB:=aA.mk (Below.refl w.heap.size w)
 have H:(dM.l0 k 0 dS (dS.length:Int) 0)=some r:=h
 clear h
 have H':=aA.mk H
 clear H
 go_enter Try.func84,Try.ntmps84
 go_wp2_with (first|((with_reducible refine bC (N:=1) rfl ?_);refine eX ?hg (N:=1) ?hd (cs:=#[.string iH,.int .i64 iI,.slice kU dS.length kR]) (t:=54) ?hr ?_;(case hd=>rfl);(case hg=>rfl);(case hr=>first|(go_simp;done)|(go_simp;rfl));intro Az hg w2 hbox hb;have bU:=aA.mk (aN (bM HB.out) hb);have bV:=aA.mk (hbox);have bZ:=aA.mk ((by rw [hg];exact (aQ (bM HB.out)):w.heap.size≤Az));have jF:=aA.mk ((by rw [hg];exact (aQ (bM HB.out)):w.heap.size≤Az));clear HB;have HB:=bU;have sV:=bV;have aCK:=bZ;have Dw:=jF;clear bU bV bZ jF;clear hb hbox hg;have Zc:w2.cell? ⟨Az,0,none⟩=some (.string iH):=(aJ sV.out 0).trans rfl;have Zd:w2.cell? ⟨Az,1,none⟩=some (.int .i64 iI):=(aJ sV.out 1).trans rfl;have Ze:w2.cell? ⟨Az,2,none⟩=some (.slice kU dS.length kR):=(aJ sV.out 2).trans rfl;have Zf:=aI sV.out 0;have Zg:=aI sV.out 1;have Zh:=aI sV.out 2))
 go_loopg [3,9] k (fun kq v3 v9 w'=>∃ (bG:Int) (mW:Int),v3=.int .i64 bG∧v9=.int .i64 mW∧aA (dM.l0 kq bG dS (dS.length:Int) mW=some r)∧aA (kq≤k)∧aA (w'.heap[Az]?=some (.cells #[.string iH,.int .i64 iI,(.slice kU dS.length kR)] 54 (0,0)))∧aA (Below w.heap.size w w'))
 case atStart=>exact ⟨(0),(0),fB,fB,H',⟨Nat.le_refl _⟩,⟨by refine aU ?_;exact sV.out⟩,⟨dA HB.out Dw.out⟩⟩
 case round =>
  clear H'
  obtain ⟨bG,mW,rfl,rfl,HA,rE,sV,HB⟩:=hrel
  cases gk with
  | zero=>exact absurd HA.out (by simp [dM.l0])
  | succ k1 =>
   have H:=HA.out;clear HA;simp only [dM.l0] at H
   by_cases c4:mW<(dS.length:Int)
   ·rw [if_pos c4] at H;have vC:decide (mW<(dS.length:Int))=true:=eH c4;clear c4
    by_cases c5:0≤mW
    ·rw [if_pos c5] at H;have IL:decide (0≤mW)=true:=eH c5;clear c5
     by_cases c6:mW<(dS.length:Int)
     ·rw [if_pos c6] at H;have BA:decide (mW<(dS.length:Int))=true:=eH c6;clear c6
      by_cases c7:(rd dS mW)=1
      ·rw [if_pos c7] at H;have vF:((rd dS mW)==1)=true:=beq_iff_eq.mpr c7;have IK:((rd dS mW) != 1)=false:=bne_eq_false_iff_eq.mpr c7;clear c7;have H':=aA.mk H;clear H;have zB:0≤(mW:Int):=dW dX;have zC:mW<(dS.length:Int):=dW dX;obtain ⟨PI,JF,nR⟩:=Kd.lU uH.out mW zB zC
       cases JF
       replace nR:=(HB.out.cell (dJ w _ nR)).trans nR;replace zB:=eq_true zB;replace zC:=eq_true zC
       go_wp2
       go_roundg k1
       case measure=>have:=rE.out;omega
       case rel=>exact ⟨(wrap64 (bG+1)),(wrap64 (mW+1)),fB,fB,H',⟨by have:=rE.out;omega⟩,⟨by refine aU ?_;exact sV.out⟩,⟨dA HB.out Dw.out⟩⟩
      ·rw [if_neg c7] at H;have vF:((rd dS mW)==1)=false:=beq_eq_false_iff_ne.mpr c7;have IK:((rd dS mW) != 1)=true:=bne_iff_ne.mpr c7
       by_cases c8:(rd dS mW)=2
       ·rw [if_pos c8] at H;have Dt:((rd dS mW)==2)=true:=beq_iff_eq.mpr c8;have QD:((rd dS mW) != 2)=false:=bne_eq_false_iff_eq.mpr c8;clear c8;have H':=aA.mk H;clear H;have zB:0≤(mW:Int):=dW dX;have zC:mW<(dS.length:Int):=dW dX;obtain ⟨PI,JF,nR⟩:=Kd.lU uH.out mW zB zC
        cases JF
        replace nR:=(HB.out.cell (dJ w _ nR)).trans nR;replace zB:=eq_true zB;replace zC:=eq_true zC
        go_wp2
        go_roundg k1
        case measure=>have:=rE.out;omega
        case rel=>exact ⟨(wrap64 (bG+1)),(wrap64 (mW+1)),fB,fB,H',⟨by have:=rE.out;omega⟩,⟨by refine aU ?_;exact sV.out⟩,⟨dA HB.out Dw.out⟩⟩
       ·rw [if_neg c8] at H;have Dt:((rd dS mW)==2)=false:=beq_eq_false_iff_ne.mpr c8;have QD:((rd dS mW) != 2)=true:=bne_iff_ne.mpr c8;have H':=aA.mk H;clear H;have zB:0≤(mW:Int):=dW dX;have zC:mW<(dS.length:Int):=dW dX;obtain ⟨PI,JF,nR⟩:=Kd.lU uH.out mW zB zC
        cases JF
        replace nR:=(HB.out.cell (dJ w _ nR)).trans nR;replace zB:=eq_true zB;replace zC:=eq_true zC
        go_wp2
        go_roundg k1
        case measure=>have:=rE.out;omega
        case rel=>exact ⟨(bG),(wrap64 (mW+1)),fB,fB,H',⟨by have:=rE.out;omega⟩,⟨by refine aU ?_;exact sV.out⟩,⟨dA HB.out Dw.out⟩⟩
     ·rw [if_neg c6] at H;exact absurd H (by simp)
    ·rw [if_neg c5] at H;exact absurd H (by simp)
   ·rw [if_neg c4] at H;have vC:decide (mW<(dS.length:Int))=false:=iE c4;clear c4;obtain rfl:=Option.some.inj H
    go_wp2
    go_ret
    exact ⟨by first|rfl|(simp [aX,aY] <;> rfl)|(simp [*,aX,aY] <;> rfl),dA HB.out Dw.out⟩
def fH.j0:Nat→Int→Bool→Option (Int)
 | 0,_,_=>none
 | k+1,x3,x4=>if x4=true then (some 1) else (if x3=6 then (some 2) else (if x3=4 then (some 4) else (some 0)))
def fH.f (k:Nat) (a0:Int):Option (Int):=if a0=3 then (fH.j0 k a0 (a0==3)) else (fH.j0 k a0 (a0==5))
theorem fH.iW:∀ k,(∀ y0 y1,eG (fH.j0 k y0 y1) (fH.j0 (k+1) y0 y1))
 | 0=>fun _ _ r h=>by simp [fH.j0] at h
 | k+1=>by
  have lZ:=fH.iW k
  ·intro y0 y1;unfold fH.j0
   repeat' first
   | (with_reducible exact lZ _ _)
   | (with_reducible exact eG.refl _)
   | (with_reducible exact eG.none _)
   | (with_reducible refine eG.ite ?_ ?_)
   | (with_reducible refine eG.bind ?_ (fun _=>?_))
   | exact lZ _ _
   | exact eG.none _
   | refine eG.ite ?_ ?_
   | refine eG.bind ?_ (fun _=>?_)
theorem fH.mono:∀ a0 k,eG (fH.f k a0) (fH.f (k+1) a0):=by
 intro a0 k
 have lZ:=fH.iW k
 unfold fH.f
 repeat' first
   | (with_reducible exact lZ _ _)
   | (with_reducible exact eG.refl _)
   | (with_reducible exact eG.none _)
   | (with_reducible refine eG.ite ?_ ?_)
   | (with_reducible refine eG.bind ?_ (fun _=>?_))
   | exact lZ _ _
   | exact eG.none _
   | refine eG.ite ?_ ?_
   | refine eG.bind ?_ (fun _=>?_)
set_option maxHeartbeats 8000000 in
set_option maxRecDepth 100000 in
theorem fH.calls (k:Nat) (a0:Int) (r:Int) (w:World) (h:fH.f k a0=some r) :
  Calls Try.prog 85 #[.int .i64 a0] w fun e w'=>e=.returned (.int .i64 r)∧dH w w':=by
 have H:(if a0=3 then (fH.j0 k a0 (a0==3)) else (fH.j0 k a0 (a0==5)))=some r:=h
 clear h
 have HC2:=aA.mk H
 clear H
 go_enter Try.func85,Try.ntmps85
 go_upto_if 4 with (fail)
 go_cut [4] (fun v4 wc=>∃ (kq:Nat) (rD:Bool),v4=.bool rD∧aA (fH.j0 kq a0 rD=some r)∧aA (kq≤k)∧dH w wc)
 case first =>
  have H:=HC2.out
  clear HC2
  by_cases c3:a0=3
  ·rw [if_pos c3] at H;have vG:(a0==3)=true:=beq_iff_eq.mpr c3;have Ju:(a0 != 3)=false:=bne_eq_false_iff_eq.mpr c3;clear c3
   (first|rw [vG]|(simp only [lK,lM];rw [vG])|skip)
   have H':=aA.mk H;clear H
   go_wp2
   go_meet
   case rel=>exact ⟨_,((a0==3)),fB,H',⟨by first|omega|exact Nat.le_refl _⟩,by repeat (first|exact dH.refl _|apply dH.step)⟩
  ·rw [if_neg c3] at H;have vG:(a0==3)=false:=beq_eq_false_iff_ne.mpr c3;have Ju:(a0 != 3)=true:=bne_iff_ne.mpr c3
   (first|rw [vG]|(simp only [lK,lM];rw [vG])|skip)
   have H':=aA.mk H;clear H
   go_wp2
   go_meet
   case rel=>exact ⟨_,((a0==5)),fB,H',⟨by first|omega|exact Nat.le_refl _⟩,by repeat (first|exact dH.refl _|apply dH.step)⟩
 case rest =>
  clear HC2
  obtain ⟨kq,rD,rfl,HA,PD,⟨mc1,rfl⟩⟩:=hcut
  cases kq with
  | zero=>exact absurd HA.out (by simp [fH.j0])
  | succ TC =>
   have H:=HA.out;clear HA;simp only [fH.j0] at H
   by_cases c4:rD=true
   ·subst c4;have H1:(some 1)=some r:=by rw [if_pos rfl] at H;exact H
    clear H;have H:=H1;clear H1;obtain rfl:=Option.some.inj H
    go_wp2
    go_ret
    exact ⟨by first|rfl|(simp;done)|(simp [*];done),by repeat (first|exact dH.refl _|apply dH.step)⟩
   ·replace c4:=Bool.eq_false_iff.mpr c4;subst c4;have H1:(if a0=6 then (some 2) else (if a0=4 then (some 4) else (some 0)))=some r:=by rw [if_neg (show ¬ (false=true) by decide)] at H;exact H
    clear H;have H:=H1;clear H1
    by_cases c5:a0=6
    ·rw [if_pos c5] at H;have IL:(a0==6)=true:=beq_iff_eq.mpr c5;have QE:(a0 != 6)=false:=bne_eq_false_iff_eq.mpr c5;clear c5;obtain rfl:=Option.some.inj H
     go_wp2
     go_ret
     exact ⟨by first|rfl|(simp;done)|(simp [*];done),by repeat (first|exact dH.refl _|apply dH.step)⟩
    ·rw [if_neg c5] at H;have IL:(a0==6)=false:=beq_eq_false_iff_ne.mpr c5;have QE:(a0 != 6)=true:=bne_iff_ne.mpr c5
     by_cases c6:a0=4
     ·rw [if_pos c6] at H;have BA:(a0==4)=true:=beq_iff_eq.mpr c6;have JG:(a0 != 4)=false:=bne_eq_false_iff_eq.mpr c6;clear c6;obtain rfl:=Option.some.inj H
      go_wp2
      go_ret
      exact ⟨by first|rfl|(simp;done)|(simp [*];done),by repeat (first|exact dH.refl _|apply dH.step)⟩
     ·rw [if_neg c6] at H;have BA:(a0==4)=false:=beq_eq_false_iff_ne.mpr c6;have JG:(a0 != 4)=true:=bne_iff_ne.mpr c6;obtain rfl:=Option.some.inj H
      go_wp2
      go_ret
      exact ⟨by first|rfl|(simp;done)|(simp [*];done),by repeat (first|exact dH.refl _|apply dH.step)⟩
def eP.l0:Nat→Int→List Int→Int→Int→Option (Int)
 | 0,_,_,_,_=>none
 | k+1,x3,x12,Zi,x14=>if x14<Zi then (if 0≤x14 then (if x14<(x12.length:Int) then ((fH.f k (rd x12 x14)).bind fun t183=>(eP.l0 k (wrap64 (x3+t183)) x12 Zi (wrap64 (x14+1)))) else (none)) else (none)) else (some x3)
def eP.f (k:Nat) (iH:ByteArray) (iI:Int) (dS:List Int):Option (Int):=(dM.f k iH iI dS).bind fun EI=>(eP.l0 k (wrap64 (1+(wrap64 (Int.tdiv (wrap64 (EI+1)) 2)))) dS (dS.length:Int) 0)
theorem eP.iW:∀ k,(∀ y0 y1 y2 y3,eG (eP.l0 k y0 y1 y2 y3) (eP.l0 (k+1) y0 y1 y2 y3))
 | 0=>fun _ _ _ _ r h=>by simp [eP.l0] at h
 | k+1=>by
  have lZ:=eP.iW k
  ·intro y0 y1 y2 y3;unfold eP.l0
   repeat' first
   | (with_reducible exact lZ _ _ _ _)
   | (with_reducible exact fH.mono _ _)
   | (with_reducible exact dM.mono _ _ _ _)
   | (with_reducible exact eG.refl _)
   | (with_reducible exact eG.none _)
   | (with_reducible refine eG.ite ?_ ?_)
   | (with_reducible refine eG.bind ?_ (fun _=>?_))
   | exact lZ _ _ _ _
   | exact fH.mono _ _
   | exact dM.mono _ _ _ _
   | exact eG.none _
   | refine eG.ite ?_ ?_
   | refine eG.bind ?_ (fun _=>?_)
theorem eP.mono:∀ a0 a1 a2 k,eG (eP.f k a0 a1 a2) (eP.f (k+1) a0 a1 a2):=by
 intro a0 a1 a2 k
 have lZ:=eP.iW k
 unfold eP.f
 repeat' first
   | (with_reducible exact lZ _ _ _ _)
   | (with_reducible exact fH.mono _ _)
   | (with_reducible exact dM.mono _ _ _ _)
   | (with_reducible exact eG.refl _)
   | (with_reducible exact eG.none _)
   | (with_reducible refine eG.ite ?_ ?_)
   | (with_reducible refine eG.bind ?_ (fun _=>?_))
   | exact lZ _ _ _ _
   | exact fH.mono _ _
   | exact dM.mono _ _ _ _
   | exact eG.none _
   | refine eG.ite ?_ ?_
   | refine eG.bind ?_ (fun _=>?_)
set_option maxHeartbeats 8000000 in
set_option maxRecDepth 100000 in
theorem eP.calls (k:Nat) (iH:ByteArray) (iI:Int) (kU:Option Addr) (kR:Nat) (dS:List Int) (r:Int) (w:World) (sS:Kd.C (Kd.int .i64) w kU dS.length dS) (sU:dS.length≤kR) (h:eP.f k iH iI dS=some r) :
  Calls Try.prog 72 #[.agg #[.string iH,.int .i64 iI,.slice kU dS.length kR]] w fun e w'=>e=.returned (.int .i64 r)∧Below w.heap.size w w':=by
 have vH:=Try.underlying54
 have uH:=aA.mk sS
 have Du:=aA.mk sU
 clear sS sU
 have HB:=aA.mk (Below.refl w.heap.size w)
 have H:((dM.f k iH iI dS).bind fun EI=>(eP.l0 k (wrap64 (1+(wrap64 (Int.tdiv (wrap64 (EI+1)) 2)))) dS (dS.length:Int) 0))=some r:=h
 clear h
 replace H:=Option.bind_eq_some_iff.mp H
 obtain ⟨EI,GH,H⟩:=H
 replace H:(eP.l0 k (wrap64 (1+(wrap64 (Int.tdiv (wrap64 (EI+1)) 2)))) dS (dS.length:Int) 0)=some r:=H
 have A2:=aA.mk GH
 clear GH
 have H':=aA.mk H
 clear H
 go_enter Try.func72,Try.ntmps72
 go_wp2_with (first|((with_reducible refine bC (N:=1) rfl ?_);refine eX ?hg (N:=1) ?hd (cs:=#[.string iH,.int .i64 iI,.slice kU dS.length kR]) (t:=54) ?hr ?_;(case hd=>rfl);(case hg=>rfl);(case hr=>first|(go_simp;done)|(go_simp;rfl));intro uI hg w3 hbox hb;have bU:=aA.mk (aN (bM HB.out) hb);have bV:=aA.mk (hbox);have bZ:=aA.mk ((by rw [hg];exact (aQ (bM HB.out)):w.heap.size≤uI));have jF:=aA.mk ((by rw [hg];exact (aQ (bM HB.out)):w.heap.size≤uI));clear HB;have HB:=bU;have oH:=bV;have aCL:=bZ;have GL:=jF;clear bU bV bZ jF;clear hb hbox hg;have Qp:w3.cell? ⟨uI,0,none⟩=some (.string iH):=(aJ oH.out 0).trans rfl;have Qq:w3.cell? ⟨uI,1,none⟩=some (.int .i64 iI):=(aJ oH.out 1).trans rfl;have Zj:w3.cell? ⟨uI,2,none⟩=some (.slice kU dS.length kR):=(aJ oH.out 2).trans rfl;have Qr:=aI oH.out 0;have Qs:=aI oH.out 1;have Zk:=aI oH.out 2)|((with_reducible refine cZ (f:=84) rfl ?_);refine gQ (some 7) rfl rfl Try.func84 aV rfl #[.agg #[.string iH,.int .i64 iI,.slice kU dS.length kR]] rfl fU ?_;(with_reducible refine (dM.calls k iH iI _ _ dS EI _ ?nS ?nT A2.out).mono ?_);(case nS=>repeat (first|exact (Kd.gI uH.out HB.out)|(with_reducible refine Kd.gZ ?_ _)|(with_reducible refine Kd.iC ?_ _)|(with_reducible refine Kd.iU ?_)));(case nT=>exact Du.out);rintro e w5 ⟨rfl,hb⟩;refine ⟨_,rfl,?_⟩;have bU:=aA.mk (bJ (g:=uI) (o:=.cells #[.string iH,.int .i64 iI,.slice kU dS.length kR] 54 (0,0)) (aU oH.out) hb);have bV:=aA.mk (aN (dA HB.out GL.out) hb);clear oH HB;have oH:=bU;have HB:=bV;clear bU bV;have Ew:w5.cell? ⟨uI,0,none⟩=some (.string iH):=(aJ oH.out 0).trans rfl;have Ey:w5.cell? ⟨uI,1,none⟩=some (.int .i64 iI):=(aJ oH.out 1).trans rfl;have Qu:w5.cell? ⟨uI,2,none⟩=some (.slice kU dS.length kR):=(aJ oH.out 2).trans rfl;have Ez:=aI oH.out 0;have EC:=aI oH.out 1;have Qv:=aI oH.out 2))
 go_loopg [3,14] k (fun kq v3 v14 w'=>∃ (bG:Int) (oM:Int),v3=.int .i64 bG∧v14=.int .i64 oM∧aA (eP.l0 kq bG dS (dS.length:Int) oM=some r)∧aA (kq≤k)∧aA (w'.heap[uI]?=some (.cells #[.string iH,.int .i64 iI,(.slice kU dS.length kR)] 54 (0,0)))∧aA (Below w.heap.size w w'))
 case atStart=>exact ⟨(wrap64 (1+(wrap64 (Int.tdiv (wrap64 (EI+1)) 2)))),(0),fB,fB,H',⟨Nat.le_refl _⟩,⟨by refine aU ?_;exact oH.out⟩,⟨dA HB.out GL.out⟩⟩
 case round =>
  clear H'
  obtain ⟨bG,oM,rfl,rfl,HA,rE,oH,HB⟩:=hrel
  cases gk with
  | zero=>exact absurd HA.out (by simp [eP.l0])
  | succ k1 =>
   have H:=HA.out;clear HA;simp only [eP.l0] at H
   by_cases c7:oM<(dS.length:Int)
   ·rw [if_pos c7] at H;have vF:decide (oM<(dS.length:Int))=true:=eH c7;clear c7
    by_cases c8:0≤oM
    ·rw [if_pos c8] at H;have Dt:decide (0≤oM)=true:=eH c8;clear c8
     by_cases c9:oM<(dS.length:Int)
     ·rw [if_pos c9] at H;have yZ:decide (oM<(dS.length:Int))=true:=eH c9;clear c9;replace H:=Option.bind_eq_some_iff.mp H;obtain ⟨t183,Dx,H⟩:=H;replace H:(eP.l0 k1 (wrap64 (bG+t183)) dS (dS.length:Int) (wrap64 (oM+1)))=some r:=H;have Dy:=aA.mk Dx;clear Dx;have H':=aA.mk H;clear H;have QF:0≤(oM:Int):=dW dX;have QG:oM<(dS.length:Int):=dW dX;obtain ⟨aCM,Zl,BF⟩:=Kd.lU uH.out oM QF QG
      cases Zl
      replace BF:=(HB.out.cell (dJ w _ BF)).trans BF;replace QF:=eq_true QF;replace QG:=eq_true QG
      go_wp2_with (first|((with_reducible refine cZ (f:=85) rfl ?_);refine gQ (some 20) rfl rfl Try.func85 aV rfl #[.int .i64 (rd dS oM)] rfl fU ?_;(with_reducible refine (fH.calls k1 (rd dS oM) t183 _ Dy.out).mono ?_);rintro e w' ⟨rfl,⟨nd,rfl⟩⟩;refine ⟨_,rfl,?_⟩))
      go_roundg k1
      case measure=>have:=rE.out;omega
      case rel=>exact ⟨(wrap64 (bG+t183)),(wrap64 (oM+1)),fB,fB,H',⟨by have:=rE.out;omega⟩,⟨by refine aU ?_;exact oH.out⟩,⟨dA HB.out GL.out⟩⟩
     ·rw [if_neg c9] at H;exact absurd H (by simp)
    ·rw [if_neg c8] at H;exact absurd H (by simp)
   ·rw [if_neg c7] at H;have vF:decide (oM<(dS.length:Int))=false:=iE c7;clear c7;obtain rfl:=Option.some.inj H
    go_wp2
    go_ret
    exact ⟨by first|rfl|(simp [aX,aY] <;> rfl)|(simp [*,aX,aY] <;> rfl),dA HB.out GL.out⟩
def dV.l0:Nat→List Int→Int→Int→Int→Option (Int)
 | 0,_,_,_,_=>none
 | k+1,x0,x1,x7,x8=>if x8<x7 then (if 0≤x8 then (if x8<(x0.length:Int) then (if x1=(rd x0 x8) then (some x8) else (dV.l0 k x0 x1 x7 (wrap64 (x8+1)))) else (none)) else (none)) else (some (-1))
def dV.f (k:Nat) (l0:List Int) (a1:Int):Option (Int):=dV.l0 k l0 a1 (l0.length:Int) 0
set_option maxHeartbeats 8000000 in
set_option maxRecDepth 100000 in
theorem dV.calls (k:Nat) (A0:Option Addr) (c0:Nat) (l0:List Int) (a1:Int) (r:Int) (w:World) (hr0:Kd.C (Kd.int .u8) w A0 l0.length l0) (hc0:l0.length≤c0) (h:dV.f k l0 a1=some r) :
  Calls Try.prog 76 #[.slice A0 l0.length c0,.int .u8 a1] w fun e w'=>e=.returned (.int .i64 r)∧dH w w':=by
 have HR0:=aA.mk hr0
 have PE:=aA.mk hc0
 clear hr0 hc0
 have H:(dV.l0 k l0 a1 (l0.length:Int) 0)=some r:=h
 clear h
 have H':=aA.mk H
 clear H
 go_enter Try.func76,Try.ntmps76
 go_wp2
 go_loopg [8] k (fun kq v8 w'=>∃ (qA:Int),v8=.int .i64 qA∧aA (dV.l0 kq l0 a1 (l0.length:Int) qA=some r)∧aA (kq≤k)∧dH w w')
 case atStart=>exact ⟨(0),fB,H',⟨Nat.le_refl _⟩,by repeat (first|exact dH.refl _|apply dH.step)⟩
 case round =>
  clear H'
  obtain ⟨qA,rfl,HA,rE,⟨m1,rfl⟩⟩:=hrel
  cases gk with
  | zero=>exact absurd HA.out (by simp [dV.l0])
  | succ k1 =>
   have H:=HA.out;clear HA;simp only [dV.l0] at H
   by_cases c3:qA<(l0.length:Int)
   ·rw [if_pos c3] at H;have vG:decide (qA<(l0.length:Int))=true:=eH c3;clear c3
    by_cases c4:0≤qA
    ·rw [if_pos c4] at H;have vC:decide (0≤qA)=true:=eH c4;clear c4
     by_cases c5:qA<(l0.length:Int)
     ·rw [if_pos c5] at H;have IL:decide (qA<(l0.length:Int))=true:=eH c5;clear c5
      by_cases c6:a1=(rd l0 qA)
      ·rw [if_pos c6] at H;have BA:(a1==(rd l0 qA))=true:=beq_iff_eq.mpr c6;have JG:(a1 != (rd l0 qA))=false:=bne_eq_false_iff_eq.mpr c6;clear c6;obtain rfl:=Option.some.inj H;have EJ:0≤(qA:Int):=dW dX;have EK:qA<(l0.length:Int):=dW dX;obtain ⟨TN,e185,MW⟩:=Kd.lU HR0.out qA EJ EK
       cases e185
       replace EJ:=eq_true EJ;replace EK:=eq_true EK
       go_wp2
       go_ret
       exact ⟨by first|rfl|(simp;done)|(simp [*];done),by repeat (first|exact dH.refl _|apply dH.step)⟩
      ·rw [if_neg c6] at H;have BA:(a1==(rd l0 qA))=false:=beq_eq_false_iff_ne.mpr c6;have JG:(a1 != (rd l0 qA))=true:=bne_iff_ne.mpr c6;have H':=aA.mk H;clear H;have EJ:0≤(qA:Int):=dW dX;have EK:qA<(l0.length:Int):=dW dX;obtain ⟨TN,e185,MW⟩:=Kd.lU HR0.out qA EJ EK
       cases e185
       replace EJ:=eq_true EJ;replace EK:=eq_true EK
       go_wp2
       go_roundg k1
       case measure=>have:=rE.out;omega
       case rel=>exact ⟨(wrap64 (qA+1)),fB,H',⟨by have:=rE.out;omega⟩,by repeat (first|exact dH.refl _|apply dH.step)⟩
     ·rw [if_neg c5] at H;exact absurd H (by simp)
    ·rw [if_neg c4] at H;exact absurd H (by simp)
   ·rw [if_neg c3] at H;have vG:decide (qA<(l0.length:Int))=false:=iE c3;clear c3;obtain rfl:=Option.some.inj H
    go_wp2
    go_ret
    exact ⟨by first|rfl|(simp;done)|(simp [*];done),by repeat (first|exact dH.refl _|apply dH.step)⟩
def fC.f :Option ((List (iJ))):=some (([(⟨(⟨#[97]⟩:ByteArray),7,([]:List Int)⟩:iJ),(⟨(⟨#[98]⟩:ByteArray),9,(([1,3]:List Int))⟩:iJ)]:List (iJ)))
set_option maxHeartbeats 8000000 in
set_option maxRecDepth 100000 in
theorem fC.calls  (r:List (iJ)) (w:World) (h:fC.f =some r) :
  Calls Try.prog 66 #[] w fun e w'=>∃ PK:Value,e=.returned (PK)∧Kd.N rC 54 w' w.heap.size (fun k_=>(w.heap.size≤k_)) PK r∧Below w.heap.size w w':=by
 have vH:=Try.underlying54
 have HB:=aA.mk (Below.refl w.heap.size w)
 have H:(some (([(⟨(⟨#[97]⟩:ByteArray),7,([]:List Int)⟩:iJ),(⟨(⟨#[98]⟩:ByteArray),9,(([1,3]:List Int))⟩:iJ)]:List (iJ))))=some r:=h
 clear h
 obtain ⟨EL,Dz⟩:∃ y_:List Int,y_=(([1,3]:List Int)):=⟨_,rfl⟩
 replace H:(some (([(⟨(⟨#[97]⟩:ByteArray),7,([]:List Int)⟩:iJ),(⟨(⟨#[98]⟩:ByteArray),9,EL⟩:iJ)]:List (iJ))))=some r:=by first|(rw [Dz];with_reducible exact H)|(have EM:=(Option.bind_some _ _).symm.trans H;rw [Dz];with_reducible exact EM)|(have EM:=(Option.bind_some _ _).symm.trans H;with_reducible exact EM)|with_reducible exact H|(rw [Dz];exact H)|exact H
 have PL:=aA.mk Dz
 clear Dz
 obtain ⟨Zm,DC⟩:∃ y_:List (iJ),y_=(([(⟨(⟨#[97]⟩:ByteArray),7,([]:List Int)⟩:iJ),(⟨(⟨#[98]⟩:ByteArray),9,EL⟩:iJ)]:List (iJ))):=⟨_,rfl⟩
 replace H:(some Zm)=some r:=by first|(rw [DC];with_reducible exact H)|(have EM:=(Option.bind_some _ _).symm.trans H;rw [DC];with_reducible exact EM)|(have EM:=(Option.bind_some _ _).symm.trans H;with_reducible exact EM)|with_reducible exact H|(rw [DC];exact H)|exact H
 have PM:=aA.mk DC
 clear DC
 obtain rfl:=Option.some.inj H
 go_enter Try.func66,Try.ntmps66
 go_wp2_with (first|((with_reducible refine bC (N:=2) rfl ?_);refine Kd.fM (Kd.int .i64) _ 3 ?hg (N:=2) ?hd (xs:=([1,3]:List Int)) (inner:=[.int .i64 1,.int .i64 3]) (ok:=fun _=>True) (jC:=fun _=>True) ?hr ?hp (fun _ hk=>hk) trivial (Below.refl _ _) (Nat.le_refl _) (by simp) ?_;(case hd=>rfl);(case hg=>rfl);(case hr=>first|(go_simp;done)|(go_simp;rfl));(case hp=>exact (dY.one (show Kd.M (Kd.int .i64) _ _ _ 1 [.int .i64 1] from rfl) (dY.one (show Kd.M (Kd.int .i64) _ _ _ 3 [.int .i64 3] from rfl) (dY.none _ _))));intro aDW w1 ho2 hb iR cO;clear iR cO;(first|rw [← PL.out] at ho2|(simp only [Int.reduceToNat] at ho2;rw [← PL.out] at ho2));have bU:=aA.mk (Kd.vJ (Kd.JH (M:=fun k_=>(w.heap.size≤k_)) ho2 (aQ (bM HB.out)) (fun k_ h_=>h_)) (aQ (bM HB.out)));have bV:=aA.mk (aN (bM HB.out) hb);clear HB;have GM:=bU;have HB:=bV;clear bU bV;clear hb ho2;obtain ⟨Ao3,co3,eo3⟩:=Kd.qF GM.out;subst eo3)|((with_reducible refine bC (N:=4) rfl ?_);refine Kd.PN rC _ 54 ?hg (N':=4) ?hd (xs:=([(⟨(⟨#[97]⟩:ByteArray),7,([]:List Int)⟩:iJ),(⟨(⟨#[98]⟩:ByteArray),9,EL⟩:iJ)]:List (iJ))) (inner:=[.string (⟨#[97]⟩:ByteArray),.int .i64 7,.slice none 0 0,.string (⟨#[98]⟩:ByteArray),.int .i64 9,.slice Ao3 EL.length co3]) (ok:=(fun k_=>(w.heap.size≤k_))) (jC:=(fun k_=>(w.heap.size≤k_))) ?hr ?hp (fun _ hk=>hk) ((show ∀ k_,w1.heap.size≤k_→(fun k_=>(w.heap.size≤k_)) k_ from fun k_ hk=>(Nat.le_trans (aQ (bM HB.out)) hk)) _ (Nat.le_refl _)) (Below.refl _ _) (Nat.le_refl _) (by simp) ?_;(case hd=>rfl);(case hg=>rfl);(case hr=>first|(go_simp;done)|(go_simp;rfl));(case hp=>exact (dY.c3 (show Kd.FK rC _ _ (⟨(⟨#[97]⟩:ByteArray),7,([]:List Int)⟩:iJ) [.string (⟨#[97]⟩:ByteArray),.int .i64 7,.slice none 0 0] from (Bi _ _ (⟨(⟨#[97]⟩:ByteArray),7,([]:List Int)⟩:iJ) (Nat.le_refl _) (Kd.PO _ _ _))) (dY.c3 (show Kd.FK rC _ _ (⟨(⟨#[98]⟩:ByteArray),9,EL⟩:iJ) [.string (⟨#[98]⟩:ByteArray),.int .i64 9,.slice Ao3 EL.length co3] from (Bi _ _ (⟨(⟨#[98]⟩:ByteArray),9,EL⟩:iJ) (Kd.lN (Kd.mD (ok':=(fun k_=>(w.heap.size≤k_))) (GM.out) (fun k_ hk=>hk.1))).2.1 (Kd.R_F (Kd.mD (ok':=(fun k_=>(w.heap.size≤k_))) (GM.out) (fun k_ hk=>hk.1))))) (dY.none _ _))));intro aDX w4 TP hb iR cO;clear iR cO;(first|rw [← PM.out] at TP|(simp only [Int.reduceToNat] at TP;rw [← PM.out] at TP));have bU:=aA.mk (Kd.oV TP (aQ (bM HB.out)));have bV:=aA.mk (aN (bM HB.out) hb);clear HB GM;have TQ:=bU;have HB:=bV;clear bU bV;clear hb TP))
 go_ret
 exact ⟨_,by first|rfl|(simp [aX,aY] <;> rfl)|(simp [*,aX,aY] <;> rfl),by refine fG ?_;exact TQ.out,bM HB.out⟩
def dL.f (a0:Int) (a1:Int) (a2:Int):Option (Bool):=if a0≥a1 then (some (decide (a0≤a2))) else (some false)
set_option maxHeartbeats 8000000 in
set_option maxRecDepth 100000 in
theorem dL.calls (a0:Int) (a1:Int) (a2:Int) (r:Bool) (w:World) (h:dL.f a0 a1 a2=some r) :
  Calls Try.prog 36 #[.int .i64 a0,.int .i64 a1,.int .i64 a2] w fun e w'=>e=.returned (.bool r)∧dH w w':=by
 have H:(if a0≥a1 then (some (decide (a0≤a2))) else (some false))=some r:=h
 clear h
 by_cases c4:a0≥a1
 ·rw [if_pos c4] at H
  have vC:decide (a1≤a0)=true:=eH c4
  clear c4
  obtain rfl:=Option.some.inj H
  go_enter Try.func36,Try.ntmps36
  go_wp2
  go_ret
  exact ⟨by first|rfl|(simp;done)|(simp [*];done),by repeat (first|exact dH.refl _|apply dH.step)⟩
 ·rw [if_neg c4] at H
  have vC:decide (a1≤a0)=false:=iE c4
  clear c4
  obtain rfl:=Option.some.inj H
  go_enter Try.func36,Try.ntmps36
  go_wp2
  go_ret
  exact ⟨by first|rfl|(simp;done)|(simp [*];done),by repeat (first|exact dH.refl _|apply dH.step)⟩
end Go.Proofs.Ytipjpdiianopcaa.A
