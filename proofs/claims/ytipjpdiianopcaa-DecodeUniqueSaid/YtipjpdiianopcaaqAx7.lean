/- Words and contracts for the laws of encode. -/
import Derived.Test.YtipjpdiianopcaaqAx0
namespace Go.Proofs.Ytipjpdiianopcaa.A
open Go.RowKit Go.Proofs.YtipjpdiianopcaaW.dF Go.Proofs.YtipjpdiianopcaaW.fO Go.Proofs.YtipjpdiianopcaaW.jP
attribute [local go_sem] mV mW oO oP lC lD mX mY
set_option linter.unusedVariables false
set_option linter.unusedSimpArgs false
def kF.l0:Nat→Int→List Int→Int→Int→Option (Int)
 | 0,_,_,_,_=>none
 | k+1,x3,x7,x8,x9=>if x9<x8 then (if 0≤x9 then (if x9<(x7.length:Int) then (if (rd x7 x9)=1 then (kF.l0 k (wrap64 (x3+1)) x7 x8 (wrap64 (x9+1))) else (if (rd x7 x9)=2 then (kF.l0 k (wrap64 (x3+1)) x7 x8 (wrap64 (x9+1))) else (kF.l0 k x3 x7 x8 (wrap64 (x9+1))))) else (none)) else (none)) else (some x3)
def kF.f (k:Nat) (jI:ByteArray) (jU:Int) (fD:List Int):Option (Int):=kF.l0 k 0 fD (fD.length:Int) 0
set_option maxHeartbeats 8000000 in
set_option maxRecDepth 100000 in
theorem kF.calls (k:Nat) (jI:ByteArray) (jU:Int) (uJ:Option Addr) (qW:Nat) (fD:List Int) (r:Int) (w:World) (He:Kd.C (Kd.int .i64) w uJ fD.length fD) (Hf:fD.length≤qW) (h:kF.f k jI jU fD=some r) :
  Calls Try.prog 84 #[.agg #[.string jI,.int .i64 jU,.slice uJ fD.length qW]] w fun e w'=>e=.returned (.int .i64 r)∧Below w.heap.size w w':=by
 have Jf:=Try.underlying54
 have JD:=aA.mk He
 have Xw:=aA.mk Hf
 clear He Hf
 have HB:=aA.mk (Below.refl w.heap.size w)
 have H:(kF.l0 k 0 fD (fD.length:Int) 0)=some r:=h
 clear h
 have H':=aA.mk H
 clear H
 go_enter Try.func84,Try.ntmps84
 go_wp2_with (first|((with_reducible refine dH (N:=1) rfl ?_);refine dB ?hg (N:=1) ?hd (cs:=#[.string jI,.int .i64 jU,.slice uJ fD.length qW]) (t:=54) ?hr ?_;(case hd=>rfl);(case hg=>rfl);(case hr=>first|(go_simp;done)|(go_simp;rfl));intro ZV hg w2 hbox hb;have bT:=aA.mk (aT (dG HB.out) hb);have bW:=aA.mk (hbox);have dA:=aA.mk ((by rw [hg];exact (aN (dG HB.out)):w.heap.size≤ZV));have dN:=aA.mk ((by rw [hg];exact (aN (dG HB.out)):w.heap.size≤ZV));clear HB;have HB:=bT;have NV:=bW;have bIV:=dA;have aCg:=dN;clear bT bW dA dN;clear hb hbox hg;have bFF:w2.cell? ⟨ZV,0,none⟩=some (.string jI):=(aC NV.out 0).trans rfl;have bFG:w2.cell? ⟨ZV,1,none⟩=some (.int .i64 jU):=(aC NV.out 1).trans rfl;have bFH:w2.cell? ⟨ZV,2,none⟩=some (.slice uJ fD.length qW):=(aC NV.out 2).trans rfl;have bFI:=aG NV.out 0;have bFJ:=aG NV.out 1;have bFK:=aG NV.out 2))
 go_loopg [3,9] k (fun kq v3 v9 w'=>∃ (fF:Int) (DK:Int),v3=.int .i64 fF∧v9=.int .i64 DK∧aA (kF.l0 kq fF fD (fD.length:Int) DK=some r)∧aA (kq≤k)∧aA (w'.heap[ZV]?=some (.cells #[.string jI,.int .i64 jU,(.slice uJ fD.length qW)] 54 (0,0)))∧aA (Below w.heap.size w w'))
 case atStart=>exact ⟨(0),(0),gV,gV,H',⟨Nat.le_refl _⟩,⟨by refine aH ?_;exact NV.out⟩,⟨bV HB.out aCg.out⟩⟩
 case round =>
  clear H'
  obtain ⟨fF,DK,rfl,rfl,HA,wU,NV,HB⟩:=hrel
  cases gk with
  | zero=>exact absurd HA.out (by simp [kF.l0])
  | succ k1 =>
   have H:=HA.out;clear HA;simp only [kF.l0] at H
   by_cases c4:DK<(fD.length:Int)
   ·rw [if_pos c4] at H;have Jz:decide (DK<(fD.length:Int))=true:=fB c4;clear c4
    by_cases c5:0≤DK
    ·rw [if_pos c5] at H;have Xz:decide (0≤DK)=true:=fB c5;clear c5
     by_cases c6:DK<(fD.length:Int)
     ·rw [if_pos c6] at H;have Qw:decide (DK<(fD.length:Int))=true:=fB c6;clear c6
      by_cases c7:(rd fD DK)=1
      ·rw [if_pos c7] at H;have EJ:((rd fD DK)==1)=true:=beq_iff_eq.mpr c7;have Xx:((rd fD DK) != 1)=false:=bne_eq_false_iff_eq.mpr c7;clear c7;have H':=aA.mk H;clear H;have Yb:0≤(DK:Int):=dU dW;have Yc:DK<(fD.length:Int):=dU dW;obtain ⟨aO7,aJs,Fe⟩:=Kd.jJ JD.out DK Yb Yc
       cases aJs
       replace Fe:=(HB.out.cell (dM w _ Fe)).trans Fe;replace Yb:=eq_true Yb;replace Yc:=eq_true Yc
       go_wp2
       go_roundg k1
       case measure=>have:=wU.out;omega
       case rel=>exact ⟨(wrap64 (fF+1)),(wrap64 (DK+1)),gV,gV,H',⟨by have:=wU.out;omega⟩,⟨by refine aH ?_;exact NV.out⟩,⟨bV HB.out aCg.out⟩⟩
      ·rw [if_neg c7] at H;have EJ:((rd fD DK)==1)=false:=beq_eq_false_iff_ne.mpr c7;have Xx:((rd fD DK) != 1)=true:=bne_iff_ne.mpr c7
       by_cases c8:(rd fD DK)=2
       ·rw [if_pos c8] at H;have XU:((rd fD DK)==2)=true:=beq_iff_eq.mpr c8;have aJt:((rd fD DK) != 2)=false:=bne_eq_false_iff_eq.mpr c8;clear c8;have H':=aA.mk H;clear H;have Yb:0≤(DK:Int):=dU dW;have Yc:DK<(fD.length:Int):=dU dW;obtain ⟨aO7,aJs,Fe⟩:=Kd.jJ JD.out DK Yb Yc
        cases aJs
        replace Fe:=(HB.out.cell (dM w _ Fe)).trans Fe;replace Yb:=eq_true Yb;replace Yc:=eq_true Yc
        go_wp2
        go_roundg k1
        case measure=>have:=wU.out;omega
        case rel=>exact ⟨(wrap64 (fF+1)),(wrap64 (DK+1)),gV,gV,H',⟨by have:=wU.out;omega⟩,⟨by refine aH ?_;exact NV.out⟩,⟨bV HB.out aCg.out⟩⟩
       ·rw [if_neg c8] at H;have XU:((rd fD DK)==2)=false:=beq_eq_false_iff_ne.mpr c8;have aJt:((rd fD DK) != 2)=true:=bne_iff_ne.mpr c8;have H':=aA.mk H;clear H;have Yb:0≤(DK:Int):=dU dW;have Yc:DK<(fD.length:Int):=dU dW;obtain ⟨aO7,aJs,Fe⟩:=Kd.jJ JD.out DK Yb Yc
        cases aJs
        replace Fe:=(HB.out.cell (dM w _ Fe)).trans Fe;replace Yb:=eq_true Yb;replace Yc:=eq_true Yc
        go_wp2
        go_roundg k1
        case measure=>have:=wU.out;omega
        case rel=>exact ⟨(fF),(wrap64 (DK+1)),gV,gV,H',⟨by have:=wU.out;omega⟩,⟨by refine aH ?_;exact NV.out⟩,⟨bV HB.out aCg.out⟩⟩
     ·rw [if_neg c6] at H;exact absurd H (by simp)
    ·rw [if_neg c5] at H;exact absurd H (by simp)
   ·rw [if_neg c4] at H;have Jz:decide (DK<(fD.length:Int))=false:=kT c4;clear c4;obtain rfl:=Option.some.inj H
    go_wp2
    go_ret
    exact ⟨by first|rfl|(simp [bK,bM] <;> rfl)|(simp [*,bK,bM] <;> rfl),bV HB.out aCg.out⟩
def rV.j0:Nat→Int→Bool→Option (Int)
 | 0,_,_=>none
 | k+1,x3,x4=>if x4=true then (some 1) else (if x3=6 then (some 2) else (if x3=4 then (some 4) else (some 0)))
def rV.f (k:Nat) (a0:Int):Option (Int):=if a0=3 then (rV.j0 k a0 (a0==3)) else (rV.j0 k a0 (a0==5))
set_option maxHeartbeats 8000000 in
set_option maxRecDepth 100000 in
theorem rV.calls (k:Nat) (a0:Int) (r:Int) (w:World) (h:rV.f k a0=some r) :
  Calls Try.prog 85 #[.int .i64 a0] w fun e w'=>e=.returned (.int .i64 r)∧gQ w w':=by
 have H:(if a0=3 then (rV.j0 k a0 (a0==3)) else (rV.j0 k a0 (a0==5)))=some r:=h
 clear h
 have HC2:=aA.mk H
 clear H
 go_enter Try.func85,Try.ntmps85
 go_upto_if 4 with (fail)
 go_cut [4] (fun v4 wc=>∃ (kq:Nat) (Jy:Bool),v4=.bool Jy∧aA (rV.j0 kq a0 Jy=some r)∧aA (kq≤k)∧gQ w wc)
 case first =>
  have H:=HC2.out
  clear HC2
  by_cases c3:a0=3
  ·rw [if_pos c3] at H;have LC:(a0==3)=true:=beq_iff_eq.mpr c3;have Xy:(a0 != 3)=false:=bne_eq_false_iff_eq.mpr c3;clear c3
   (first|rw [LC]|(simp only [nX,tY];rw [LC])|skip)
   have H':=aA.mk H;clear H
   go_wp2
   go_meet
   case rel=>exact ⟨_,((a0==3)),gV,H',⟨by first|omega|exact Nat.le_refl _⟩,by repeat (first|exact gQ.refl _|apply gQ.step)⟩
  ·rw [if_neg c3] at H;have LC:(a0==3)=false:=beq_eq_false_iff_ne.mpr c3;have Xy:(a0 != 3)=true:=bne_iff_ne.mpr c3
   (first|rw [LC]|(simp only [nX,tY];rw [LC])|skip)
   have H':=aA.mk H;clear H
   go_wp2
   go_meet
   case rel=>exact ⟨_,((a0==5)),gV,H',⟨by first|omega|exact Nat.le_refl _⟩,by repeat (first|exact gQ.refl _|apply gQ.step)⟩
 case rest =>
  clear HC2
  obtain ⟨kq,Jy,rfl,HA,HJ1,⟨mc1,rfl⟩⟩:=hcut
  cases kq with
  | zero=>exact absurd HA.out (by simp [rV.j0])
  | succ kj1 =>
   have H:=HA.out;clear HA;simp only [rV.j0] at H
   by_cases c4:Jy=true
   ·subst c4;have H1:(some 1)=some r:=by rw [if_pos rfl] at H;exact H
    clear H;have H:=H1;clear H1;obtain rfl:=Option.some.inj H
    go_wp2
    go_ret
    exact ⟨by first|rfl|(simp;done)|(simp [*];done),by repeat (first|exact gQ.refl _|apply gQ.step)⟩
   ·replace c4:=Bool.eq_false_iff.mpr c4;subst c4;have H1:(if a0=6 then (some 2) else (if a0=4 then (some 4) else (some 0)))=some r:=by rw [if_neg (show ¬ (false=true) by decide)] at H;exact H
    clear H;have H:=H1;clear H1
    by_cases c5:a0=6
    ·rw [if_pos c5] at H;have Xz:(a0==6)=true:=beq_iff_eq.mpr c5;have aIM:(a0 != 6)=false:=bne_eq_false_iff_eq.mpr c5;clear c5;obtain rfl:=Option.some.inj H
     go_wp2
     go_ret
     exact ⟨by first|rfl|(simp;done)|(simp [*];done),by repeat (first|exact gQ.refl _|apply gQ.step)⟩
    ·rw [if_neg c5] at H;have Xz:(a0==6)=false:=beq_eq_false_iff_ne.mpr c5;have aIM:(a0 != 6)=true:=bne_iff_ne.mpr c5
     by_cases c6:a0=4
     ·rw [if_pos c6] at H;have Qw:(a0==4)=true:=beq_iff_eq.mpr c6;have bFL:(a0 != 4)=false:=bne_eq_false_iff_eq.mpr c6;clear c6;obtain rfl:=Option.some.inj H
      go_wp2
      go_ret
      exact ⟨by first|rfl|(simp;done)|(simp [*];done),by repeat (first|exact gQ.refl _|apply gQ.step)⟩
     ·rw [if_neg c6] at H;have Qw:(a0==4)=false:=beq_eq_false_iff_ne.mpr c6;have bFL:(a0 != 4)=true:=bne_iff_ne.mpr c6;obtain rfl:=Option.some.inj H
      go_wp2
      go_ret
      exact ⟨by first|rfl|(simp;done)|(simp [*];done),by repeat (first|exact gQ.refl _|apply gQ.step)⟩
def mQ.l0:Nat→Int→List Int→Int→Int→Option (Int)
 | 0,_,_,_,_=>none
 | k+1,x3,x12,Vj,x14=>if x14<Vj then (if 0≤x14 then (if x14<(x12.length:Int) then ((rV.f k (rd x12 x14)).bind fun t183=>(mQ.l0 k (wrap64 (x3+t183)) x12 Vj (wrap64 (x14+1)))) else (none)) else (none)) else (some x3)
def mQ.f (k:Nat) (jI:ByteArray) (jU:Int) (fD:List Int):Option (Int):=(kF.f k jI jU fD).bind fun aDR=>(mQ.l0 k (wrap64 (1+(wrap64 (Int.tdiv (wrap64 (aDR+1)) 2)))) fD (fD.length:Int) 0)
set_option maxHeartbeats 8000000 in
set_option maxRecDepth 100000 in
theorem mQ.calls (k:Nat) (jI:ByteArray) (jU:Int) (uJ:Option Addr) (qW:Nat) (fD:List Int) (r:Int) (w:World) (He:Kd.C (Kd.int .i64) w uJ fD.length fD) (Hf:fD.length≤qW) (h:mQ.f k jI jU fD=some r) :
  Calls Try.prog 72 #[.agg #[.string jI,.int .i64 jU,.slice uJ fD.length qW]] w fun e w'=>e=.returned (.int .i64 r)∧Below w.heap.size w w':=by
 have Jf:=Try.underlying54
 have JD:=aA.mk He
 have Xw:=aA.mk Hf
 clear He Hf
 have HB:=aA.mk (Below.refl w.heap.size w)
 have H:((kF.f k jI jU fD).bind fun aDR=>(mQ.l0 k (wrap64 (1+(wrap64 (Int.tdiv (wrap64 (aDR+1)) 2)))) fD (fD.length:Int) 0))=some r:=h
 clear h
 replace H:=Option.bind_eq_some_iff.mp H
 obtain ⟨aDR,A20,H⟩:=H
 replace H:(mQ.l0 k (wrap64 (1+(wrap64 (Int.tdiv (wrap64 (aDR+1)) 2)))) fD (fD.length:Int) 0)=some r:=H
 have A2:=aA.mk A20
 clear A20
 have H':=aA.mk H
 clear H
 go_enter Try.func72,Try.ntmps72
 go_wp2_with (first|((with_reducible refine dH (N:=1) rfl ?_);refine dB ?hg (N:=1) ?hd (cs:=#[.string jI,.int .i64 jU,.slice uJ fD.length qW]) (t:=54) ?hr ?_;(case hd=>rfl);(case hg=>rfl);(case hr=>first|(go_simp;done)|(go_simp;rfl));intro Qm hg w3 hbox hb;have bT:=aA.mk (aT (dG HB.out) hb);have bW:=aA.mk (hbox);have dA:=aA.mk ((by rw [hg];exact (aN (dG HB.out)):w.heap.size≤Qm));have dN:=aA.mk ((by rw [hg];exact (aN (dG HB.out)):w.heap.size≤Qm));clear HB;have HB:=bT;have Gh:=bW;have bIW:=dA;have aFE:=dN;clear bT bW dA dN;clear hb hbox hg;have aI5:w3.cell? ⟨Qm,0,none⟩=some (.string jI):=(aC Gh.out 0).trans rfl;have aI6:w3.cell? ⟨Qm,1,none⟩=some (.int .i64 jU):=(aC Gh.out 1).trans rfl;have aRp:w3.cell? ⟨Qm,2,none⟩=some (.slice uJ fD.length qW):=(aC Gh.out 2).trans rfl;have aI7:=aG Gh.out 0;have aI8:=aG Gh.out 1;have aRq:=aG Gh.out 2)|((with_reducible refine cO (f:=84) rfl ?_);refine gI (some 7) rfl rfl Try.func84 aQ rfl #[.agg #[.string jI,.int .i64 jU,.slice uJ fD.length qW]] rfl fP ?_;(with_reducible refine (kF.calls k jI jU _ _ fD aDR _ ?fJ ?fK A2.out).mono ?_);(case fJ=>repeat (first|exact (Kd.dP JD.out HB.out)|(with_reducible refine Kd.fG ?_ _)|(with_reducible refine Kd.fC ?_ _)|(with_reducible refine Kd.gJ ?_)));(case fK=>exact Xw.out);rintro e w5 ⟨rfl,hb⟩;refine ⟨_,rfl,?_⟩;have bT:=aA.mk (aK (g:=Qm) (o:=.cells #[.string jI,.int .i64 jU,.slice uJ fD.length qW] 54 (0,0)) (aH Gh.out) hb);have bW:=aA.mk (aT (bV HB.out aFE.out) hb);clear Gh HB;have Gh:=bT;have HB:=bW;clear bT bW;have aAt:w5.cell? ⟨Qm,0,none⟩=some (.string jI):=(aC Gh.out 0).trans rfl;have aAu:w5.cell? ⟨Qm,1,none⟩=some (.int .i64 jU):=(aC Gh.out 1).trans rfl;have aDq:w5.cell? ⟨Qm,2,none⟩=some (.slice uJ fD.length qW):=(aC Gh.out 2).trans rfl;have aAv:=aG Gh.out 0;have aAw:=aG Gh.out 1;have aDr:=aG Gh.out 2))
 go_loopg [3,14] k (fun kq v3 v14 w'=>∃ (fF:Int) (Hu:Int),v3=.int .i64 fF∧v14=.int .i64 Hu∧aA (mQ.l0 kq fF fD (fD.length:Int) Hu=some r)∧aA (kq≤k)∧aA (w'.heap[Qm]?=some (.cells #[.string jI,.int .i64 jU,(.slice uJ fD.length qW)] 54 (0,0)))∧aA (Below w.heap.size w w'))
 case atStart=>exact ⟨(wrap64 (1+(wrap64 (Int.tdiv (wrap64 (aDR+1)) 2)))),(0),gV,gV,H',⟨Nat.le_refl _⟩,⟨by refine aH ?_;exact Gh.out⟩,⟨bV HB.out aFE.out⟩⟩
 case round =>
  clear H'
  obtain ⟨fF,Hu,rfl,rfl,HA,wU,Gh,HB⟩:=hrel
  cases gk with
  | zero=>exact absurd HA.out (by simp [mQ.l0])
  | succ k1 =>
   have H:=HA.out;clear HA;simp only [mQ.l0] at H
   by_cases c7:Hu<(fD.length:Int)
   ·rw [if_pos c7] at H;have EJ:decide (Hu<(fD.length:Int))=true:=fB c7;clear c7
    by_cases c8:0≤Hu
    ·rw [if_pos c8] at H;have XU:decide (0≤Hu)=true:=fB c8;clear c8
     by_cases c9:Hu<(fD.length:Int)
     ·rw [if_pos c9] at H;have aBP:decide (Hu<(fD.length:Int))=true:=fB c9;clear c9;replace H:=Option.bind_eq_some_iff.mp H;obtain ⟨t183,Yd,H⟩:=H;replace H:(mQ.l0 k1 (wrap64 (fF+t183)) fD (fD.length:Int) (wrap64 (Hu+1)))=some r:=H;have A10:=aA.mk Yd;clear Yd;have H':=aA.mk H;clear H;have aR0:0≤(Hu:Int):=dU dW;have aR1:Hu<(fD.length:Int):=dU dW;obtain ⟨bIX,bFM,aA4⟩:=Kd.jJ JD.out Hu aR0 aR1
      cases bFM
      replace aA4:=(HB.out.cell (dM w _ aA4)).trans aA4;replace aR0:=eq_true aR0;replace aR1:=eq_true aR1
      go_wp2_with (first|((with_reducible refine cO (f:=85) rfl ?_);refine gI (some 20) rfl rfl Try.func85 aQ rfl #[.int .i64 (rd fD Hu)] rfl fP ?_;(with_reducible refine (rV.calls k1 (rd fD Hu) t183 _ A10.out).mono ?_);rintro e w' ⟨rfl,⟨nd,rfl⟩⟩;refine ⟨_,rfl,?_⟩))
      go_roundg k1
      case measure=>have:=wU.out;omega
      case rel=>exact ⟨(wrap64 (fF+t183)),(wrap64 (Hu+1)),gV,gV,H',⟨by have:=wU.out;omega⟩,⟨by refine aH ?_;exact Gh.out⟩,⟨bV HB.out aFE.out⟩⟩
     ·rw [if_neg c9] at H;exact absurd H (by simp)
    ·rw [if_neg c8] at H;exact absurd H (by simp)
   ·rw [if_neg c7] at H;have EJ:decide (Hu<(fD.length:Int))=false:=kT c7;clear c7;obtain rfl:=Option.some.inj H
    go_wp2
    go_ret
    exact ⟨by first|rfl|(simp [bK,bM] <;> rfl)|(simp [*,bK,bM] <;> rfl),bV HB.out aFE.out⟩
def iP.f :Option ((List (nJ))):=some (([(⟨(⟨#[97]⟩:ByteArray),7,([]:List Int)⟩:nJ),(⟨(⟨#[98]⟩:ByteArray),9,(([1,3]:List Int))⟩:nJ)]:List (nJ)))
set_option maxHeartbeats 8000000 in
set_option maxRecDepth 100000 in
theorem iP.calls  (r:List (nJ)) (w:World) (h:iP.f =some r) :
  Calls Try.prog 66 #[] w fun e w'=>∃ ZP:Value,e=.returned (ZP)∧Kd.N Nv 54 w' w.heap.size (fun k_=>(w.heap.size≤k_)) ZP r∧Below w.heap.size w w':=by
 have Jf:=Try.underlying54
 have HB:=aA.mk (Below.refl w.heap.size w)
 have H:(some (([(⟨(⟨#[97]⟩:ByteArray),7,([]:List Int)⟩:nJ),(⟨(⟨#[98]⟩:ByteArray),9,(([1,3]:List Int))⟩:nJ)]:List (nJ))))=some r:=h
 clear h
 obtain ⟨aDS,aCh⟩:∃ y_:List Int,y_=(([1,3]:List Int)):=⟨_,rfl⟩
 replace H:(some (([(⟨(⟨#[97]⟩:ByteArray),7,([]:List Int)⟩:nJ),(⟨(⟨#[98]⟩:ByteArray),9,aDS⟩:nJ)]:List (nJ))))=some r:=by first|(rw [aCh];with_reducible exact H)|(have qY:=(Option.bind_some _ _).symm.trans H;rw [aCh];with_reducible exact qY)|(have qY:=(Option.bind_some _ _).symm.trans H;with_reducible exact qY)|with_reducible exact H|(rw [aCh];exact H)|exact H
 have aO8:=aA.mk aCh
 clear aCh
 obtain ⟨bFN,aCi⟩:∃ y_:List (nJ),y_=(([(⟨(⟨#[97]⟩:ByteArray),7,([]:List Int)⟩:nJ),(⟨(⟨#[98]⟩:ByteArray),9,aDS⟩:nJ)]:List (nJ))):=⟨_,rfl⟩
 replace H:(some bFN)=some r:=by first|(rw [aCi];with_reducible exact H)|(have qY:=(Option.bind_some _ _).symm.trans H;rw [aCi];with_reducible exact qY)|(have qY:=(Option.bind_some _ _).symm.trans H;with_reducible exact qY)|with_reducible exact H|(rw [aCi];exact H)|exact H
 have aO9:=aA.mk aCi
 clear aCi
 obtain rfl:=Option.some.inj H
 go_enter Try.func66,Try.ntmps66
 go_wp2_with (first|((with_reducible refine dH (N:=2) rfl ?_);refine Kd.RD (Kd.int .i64) _ 3 ?hg (N:=2) ?hd (xs:=([1,3]:List Int)) (inner:=[.int .i64 1,.int .i64 3]) (ok:=fun _=>True) (Io:=fun _=>True) ?hr ?hp (fun _ hk=>hk) trivial (Below.refl _ _) (Nat.le_refl _) (by simp) ?_;(case hd=>rfl);(case hg=>rfl);(case hr=>first|(go_simp;done)|(go_simp;rfl));(case hp=>exact (kW.one (show Kd.M (Kd.int .i64) _ _ _ 1 [.int .i64 1] from rfl) (kW.one (show Kd.M (Kd.int .i64) _ _ _ 3 [.int .i64 3] from rfl) (kW.none _ _))));intro bLo w1 ho2 hb XT BU;clear XT BU;(first|rw [← aO8.out] at ho2|(simp only [Int.reduceToNat] at ho2;rw [← aO8.out] at ho2));have bT:=aA.mk (Kd.jV (Kd.Ye (M:=fun k_=>(w.heap.size≤k_)) ho2 (aN (dG HB.out)) (fun k_ h_=>h_)) (aN (dG HB.out)));have bW:=aA.mk (aT (dG HB.out) hb);clear HB;have aFF:=bT;have HB:=bW;clear bT bW;clear hb ho2;obtain ⟨Ao3,co3,eo3⟩:=Kd.iK aFF.out;subst eo3)|((with_reducible refine dH (N:=4) rfl ?_);refine Kd.aVU Nv _ 54 ?hg (N':=4) ?hd (xs:=([(⟨(⟨#[97]⟩:ByteArray),7,([]:List Int)⟩:nJ),(⟨(⟨#[98]⟩:ByteArray),9,aDS⟩:nJ)]:List (nJ))) (inner:=[.string (⟨#[97]⟩:ByteArray),.int .i64 7,.slice none 0 0,.string (⟨#[98]⟩:ByteArray),.int .i64 9,.slice Ao3 aDS.length co3]) (ok:=(fun k_=>(w.heap.size≤k_))) (Io:=(fun k_=>(w.heap.size≤k_))) ?hr ?hp (fun _ hk=>hk) ((show ∀ k_,w1.heap.size≤k_→(fun k_=>(w.heap.size≤k_)) k_ from fun k_ hk=>(Nat.le_trans (aN (dG HB.out)) hk)) _ (Nat.le_refl _)) (Below.refl _ _) (Nat.le_refl _) (by simp) ?_;(case hd=>rfl);(case hg=>rfl);(case hr=>first|(go_simp;done)|(go_simp;rfl));(case hp=>exact (kW.c3 (show Kd.FK Nv _ _ (⟨(⟨#[97]⟩:ByteArray),7,([]:List Int)⟩:nJ) [.string (⟨#[97]⟩:ByteArray),.int .i64 7,.slice none 0 0] from (aER _ _ (⟨(⟨#[97]⟩:ByteArray),7,([]:List Int)⟩:nJ) (Nat.le_refl _) (Kd.aO_ _ _ _))) (kW.c3 (show Kd.FK Nv _ _ (⟨(⟨#[98]⟩:ByteArray),9,aDS⟩:nJ) [.string (⟨#[98]⟩:ByteArray),.int .i64 9,.slice Ao3 aDS.length co3] from (aER _ _ (⟨(⟨#[98]⟩:ByteArray),9,aDS⟩:nJ) (Kd.fM (Kd.dX (ok':=(fun k_=>(w.heap.size≤k_))) (aFF.out) (fun k_ hk=>hk.1))).2.1 (Kd.R_F (Kd.dX (ok':=(fun k_=>(w.heap.size≤k_))) (aFF.out) (fun k_ hk=>hk.1))))) (kW.none _ _))));intro bLp w4 ho5 hb XT BU;clear XT BU;(first|rw [← aO9.out] at ho5|(simp only [Int.reduceToNat] at ho5;rw [← aO9.out] at ho5));have bT:=aA.mk (Kd.RV ho5 (aN (dG HB.out)));have bW:=aA.mk (aT (dG HB.out) hb);clear HB aFF;have aVV:=bT;have HB:=bW;clear bT bW;clear hb ho5))
 go_ret
 exact ⟨_,by first|rfl|(simp [bK,bM] <;> rfl)|(simp [*,bK,bM] <;> rfl),by refine vM ?_;exact aVV.out,dG HB.out⟩
def bI.f (a0:Int) (a1:Int) (a2:Int):Option (Bool):=if a0≥a1 then (some (decide (a0≤a2))) else (some false)
set_option maxHeartbeats 8000000 in
set_option maxRecDepth 100000 in
theorem bI.calls (a0:Int) (a1:Int) (a2:Int) (r:Bool) (w:World) (h:bI.f a0 a1 a2=some r) :
  Calls Try.prog 36 #[.int .i64 a0,.int .i64 a1,.int .i64 a2] w fun e w'=>e=.returned (.bool r)∧gQ w w':=by
 have H:(if a0≥a1 then (some (decide (a0≤a2))) else (some false))=some r:=h
 clear h
 by_cases c4:a0≥a1
 ·rw [if_pos c4] at H
  have Jz:decide (a1≤a0)=true:=fB c4
  clear c4
  obtain rfl:=Option.some.inj H
  go_enter Try.func36,Try.ntmps36
  go_wp2
  go_ret
  exact ⟨by first|rfl|(simp;done)|(simp [*];done),by repeat (first|exact gQ.refl _|apply gQ.step)⟩
 ·rw [if_neg c4] at H
  have Jz:decide (a1≤a0)=false:=kT c4
  clear c4
  obtain rfl:=Option.some.inj H
  go_enter Try.func36,Try.ntmps36
  go_wp2
  go_ret
  exact ⟨by first|rfl|(simp;done)|(simp [*];done),by repeat (first|exact gQ.refl _|apply gQ.step)⟩
end Go.Proofs.Ytipjpdiianopcaa.A
