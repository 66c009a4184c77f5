/- Words and contracts for the laws. -/
import Derived.Test.YtipjpdiianopcaarAx0
import Derived.Test.YtipjpdiianopcaarCv
import Derived.Test.YtipjpdiianopcaarCd
import Derived.Test.YtipjpdiianopcaarEx1
import Derived.Test.YtipjpdiianopcaarEx2
import Derived.Test.YtipjpdiianopcaarBd3
import Derived.Test.YtipjpdiianopcaarAx11
import Derived.Test.YtipjpdiianopcaarAx2
import Derived.Test.YtipjpdiianopcaarAx7
import Derived.Test.YtipjpdiianopcaarAx8
import Derived.Test.YtipjpdiianopcaarAx9
import Derived.Test.YtipjpdiianopcaarCdd
import Derived.Test.YtipjpdiianopcaarCfl
namespace Go.Proofs.Ytipjpdiianopcaa.E
open Go.RowKit Go.Proofs.YtipjpdiianopcaaW.aZ Go.Proofs.YtipjpdiianopcaaW.dQ Go.Proofs.YtipjpdiianopcaaW.gW Go.Proofs.Ytipjpdiianopcaa.A Go.Proofs.Ytipjpdiianopcaa.Cv Go.Proofs.Ytipjpdiianopcaa.Cd Go.Proofs.Ytipjpdiianopcaa.Zu
attribute [local go_sem] jY jZ kY kZ jD jE kC kD
set_option linter.unusedVariables false
set_option linter.unusedSimpArgs false
attribute [local go_sem high] GY
attribute [local go_sem high] GU GV
mutual
def aC.j0:Nat→Int→List (iJ)→List (iJ)→Bool→Option (Bool)
 | 0,_,_,_,_=>none
 | k+1,x0,x3,x4,x24=>if x24=true then (some false) else (aC.l0 k x0 x3 x4 0)
def aC.l0:Nat→Int→List (iJ)→List (iJ)→Int→Option (Bool)
 | 0,_,_,_,_=>none
 | k+1,x0,x3,x4,x5=>if x5<(x3.length:Int) then (if 0≤x5 then (if x5<(x4.length:Int) then (if ((aG x3 x5).f1)=((aG x4 x5).f1) then ((fF.f k ((aG x3 x5).f0) ((aG x3 x5).f1) ((aG x3 x5).f2) ((aG x4 x5).f0) ((aG x4 x5).f1) ((aG x4 x5).f2)).bind fun NC=>(if NC=true then (aC.l0 k x0 x3 x4 (wrap64 (x5+1))) else (some false))) else (some false)) else (none)) else (none)) else ((bQ.f k x0).bind fun sW=>((dL.f x0 0 (wrap64 ((x4.length:Int)-1))).bind fun zD=>(if zD=true then (if sW.2.1=0 then ((aK.f k x0).bind fun t203=>(some (sW.1==t203))) else (some false)) else ((bF.f 3 (-2)).bind fun tC=>(if (sW.2.1==tC.1&&(sW.2.2==tC.2))=true then (some (sW.1==0)) else (some false))))))
end
def aC.f (k:Nat) (a0:Int):Option (Bool):=(kM.f).bind fun gV=>((aT.f k).bind fun gX=>((dG.f k).bind fun Aa=>(if Aa=true then (if (gV.length:Int)=(gX.length:Int) then ((aH.f k gV).bind fun tH=>(aC.j0 k a0 gV gX (tH.1 != 0))) else (aC.j0 k a0 gV gX true)) else (aC.j0 k a0 gV gX true))))
theorem JV (k:Nat) (a0:Int) (t u:List iJ) (r:Bool) (h:aC.j0 k a0 t u true=some r):r=false:=by
 cases k with
 | zero=>rw [aC.j0] at h;cases h
 | succ k=>rw [aC.j0,if_pos rfl] at h;exact (Option.some.inj h).symm
def aC.T8:Bool × List (List Nat × List Nat):=(true,[([],[]),([],[]),([0,1],[0,1]),([2],[2]),([3],[3]),([],[]),([],[]),([5,6],[5,6]),([7],[7]),([8],[8]),([4,9],[4,9]),([10],[10]),([11],[11]),([11],[11]),([12,13,11],[11,12,13]),([14,11],[11,14]),([11],[11]),([11],[11]),([16,17,11],[11,16,17]),([18,11],[11,18]),([15,19,11,11],[11,15,19]),([20,11],[11,20]),([11,21],[11,21])])
def aC.B8:List Nat:=[0,0,3,7,15,0,0,96,224,480,1023,2047,4095,4095,16383,32767,4095,4095,200703,462847,1048575,2097151,4194303]
theorem aC.QZ:oP .any (opsOf Try.f12 8)=aC.T8:=by kernel_rfl
theorem aC.JW:oZ aC.T8.2 aC.B8=true:=by kernel_rfl
def aC.T12:Bool × List (List Nat × List Nat):=(true,[([],[]),([],[]),([0,1],[0,1]),([2,1],[2]),([3],[3]),([4,3],[3,4]),([3,5],[3,5]),([6,3,0,1,2,3,4,5,6],[6])])
def aC.B12:List Nat:=[0,0,3,7,15,31,63,127]
theorem aC.UA:oP .any (opsOf Try.f12 12)=aC.T12:=by kernel_rfl
theorem aC.Rf:oZ aC.T12.2 aC.B12=true:=by kernel_rfl
set_option maxHeartbeats 8000000 in
set_option maxRecDepth 100000 in
theorem aC.calls (k:Nat) (a0:Int) (r:Bool) (w:World) (hT:r=true) (h:aC.f k a0=some r) :
  Calls Try.prog 12 #[.int .i64 a0] w fun e w'=>e=.returned (.bool r)∧Below w.heap.size w w':=by
 have vH:=Try.underlying54
 have Eu:=Try.underlying27
 have HT:=aA.mk hT
 clear hT
 have HB:=aA.mk (Below.refl w.heap.size w)
 have H:((kM.f).bind fun gV=>((aT.f k).bind fun gX=>((dG.f k).bind fun Aa=>(if Aa=true then (if (gV.length:Int)=(gX.length:Int) then ((aH.f k gV).bind fun tH=>(aC.j0 k a0 gV gX (tH.1 != 0))) else (aC.j0 k a0 gV gX true)) else (aC.j0 k a0 gV gX true)))))=some r:=h
 clear h
 replace H:=Option.bind_eq_some_iff.mp H
 obtain ⟨gV,GH,H⟩:=H
 replace H:((aT.f k).bind fun gX=>((dG.f k).bind fun Aa=>(if Aa=true then (if (gV.length:Int)=(gX.length:Int) then ((aH.f k gV).bind fun tH=>(aC.j0 k a0 gV gX (tH.1 != 0))) else (aC.j0 k a0 gV gX true)) else (aC.j0 k a0 gV gX true))))=some r:=H
 have A2:=aA.mk GH
 clear GH
 replace H:=Option.bind_eq_some_iff.mp H
 obtain ⟨gX,GN,H⟩:=H
 replace H:((dG.f k).bind fun Aa=>(if Aa=true then (if (gV.length:Int)=(gX.length:Int) then ((aH.f k gV).bind fun tH=>(aC.j0 k a0 gV gX (tH.1 != 0))) else (aC.j0 k a0 gV gX true)) else (aC.j0 k a0 gV gX true)))=some r:=H
 have A3:=aA.mk GN
 clear GN
 have Jz:=aA.mk H
 clear H
 go_enter Try.func12,Try.ntmps12
 go_upto_region 3 with (first|((with_reducible refine cZ (f:=41) rfl ?_);refine gQ (some 8) rfl rfl Try.func41 aV rfl #[] rfl fU ?_;(with_reducible refine (kM.calls  gV _ A2.out).mono ?_);rintro e w5 ⟨JX,rfl,ho0,hb⟩;refine ⟨_,rfl,?_⟩;have bU:=aA.mk (Kd.oV (Kd.gY (ok':=fun k_=>True) ho0 (fun k_ JR=>trivial)) (aQ (bM HB.out)));have bV:=aA.mk (aN (bM HB.out) hb);clear HB;have oC:=bU;have HB:=bV;clear bU bV)|((with_reducible refine cZ (f:=42) rfl ?_);refine gQ (some 9) rfl rfl Try.func42 aV rfl #[] rfl fU ?_;(with_reducible refine (aT.calls k  gX _ A3.out).mono ?_);rintro e w6 ⟨ND,rfl,ho0,hb⟩;refine ⟨_,rfl,?_⟩;have bU:=aA.mk (Kd.pV (fG oC.out) (Kd.BO ho0) hb);have bV:=aA.mk (Kd.oV (Kd.gY (ok':=fun k_=>some k_≠(JX:Value).ownBlock) ho0 (fun k_ JR=>(Kd.fresh' (Kd.IU (fG oC.out)) k_ JR))) (aQ (bM HB.out)));have bZ:=aA.mk (aN (bM HB.out) hb);clear oC HB;have oC:=bU;have qV:=bV;have HB:=bZ;clear bU bV bZ))
 (try simp only [Act.put,Aq,Ar,Au])
 go_cut [24] (fun v24 wc=>∃ (kq:Nat) (GZ:Bool),v24=.bool GZ∧aA (aC.j0 kq a0 gV gX GZ=some r)∧aA (kq≤k)∧aA (Kd.N rC 54 wc w.heap.size (fun k_=>some k_≠(ND:Value).ownBlock) JX gV)∧aA (Kd.N rC 54 wc w.heap.size (fun k_=>some k_≠(JX:Value).ownBlock) ND gX)∧aA (Below w.heap.size w wc))
 case first =>
  have H:=Jz.out
  clear Jz
  replace H:=Option.bind_eq_some_iff.mp H
  obtain ⟨Aa,TZ,H⟩:=H
  replace H:(if Aa=true then (if (gV.length:Int)=(gX.length:Int) then ((aH.f k gV).bind fun tH=>(aC.j0 k a0 gV gX (tH.1 != 0))) else (aC.j0 k a0 gV gX true)) else (aC.j0 k a0 gV gX true))=some r:=H
  have A7:=aA.mk TZ
  clear TZ
  by_cases c8:Aa=true
  ·subst c8;have H1:(if (gV.length:Int)=(gX.length:Int) then ((aH.f k gV).bind fun tH=>(aC.j0 k a0 gV gX (tH.1 != 0))) else (aC.j0 k a0 gV gX true))=some r:=by rw [if_pos rfl] at H;exact H
   clear H;have H:=H1;clear H1
   by_cases c9:(gV.length:Int)=(gX.length:Int)
   ·rw [if_pos c9] at H;have yZ:((gV.length:Int)==(gX.length:Int))=true:=beq_iff_eq.mpr c9;have Jw:((gV.length:Int) != (gX.length:Int))=false:=bne_eq_false_iff_eq.mpr c9;have Zy:(gV.length==gX.length)=true:=by first|simpa using c9|(simp at c9 ⊢;omega)
    clear c9
    (first|rw [yZ]|(simp only [lK,lM];rw [yZ])|skip)
    replace H:=Option.bind_eq_some_iff.mp H;obtain ⟨⟨Rh,Zz⟩,Dx,H⟩:=H;replace H:(aC.j0 k a0 gV gX (Rh != 0))=some r:=H;have Dy:=aA.mk Dx;clear Dx;have H':=aA.mk H;clear H
    go_wp2_with (first|((with_reducible refine cZ (f:=33) rfl ?_);refine gQ (some 10) rfl rfl Try.func33 aV rfl #[] rfl fU ?_;(with_reducible refine (dG.calls k  true _ rfl A7.out).mono ?_);rintro e JJ ⟨rfl,hb⟩;refine ⟨_,rfl,?_⟩;have bU:=aA.mk (Kd.gJ (fG oC.out) hb);have bV:=aA.mk (Kd.gJ (fG qV.out) hb);have bZ:=aA.mk (aN (bM HB.out) hb);clear oC qV HB;have oC:=bU;have qV:=bV;have HB:=bZ;clear bU bV bZ;obtain ⟨aD2,aD3,ZA⟩:=Kd.kQ oC.out;subst ZA;obtain ⟨aD4,aD5,ZB⟩:=Kd.kQ qV.out;subst ZB)|(go_at_call 34;(with_reducible refine (aH.calls k _ _ gV Rh Zz _ ?nS ?nT Dy.out).mono ?_);(case nS=>repeat (first|exact (Kd.iK oC.out).2.2|(with_reducible refine Kd.gZ ?_ _)|(with_reducible refine Kd.iC ?_ _)|(with_reducible refine Kd.iU ?_)));(case nT=>exact (Kd.iK oC.out).2.1);rintro e ZC ⟨rfl,hb⟩;have bU:=aA.mk (Kd.gJ (fG oC.out) hb);have bV:=aA.mk (Kd.gJ (fG qV.out) hb);have bZ:=aA.mk (aN (bM HB.out) hb);clear oC qV HB;have oC:=bU;have qV:=bV;have HB:=bZ;clear bU bV bZ))
    go_meet
    case rel=>exact ⟨_,((Rh != 0)),fB,H',⟨by first|omega|exact Nat.le_refl _⟩,⟨by refine fG ?_;exact Kd.gY oC.out (fun _ hk=>hk.2)⟩,⟨by refine fG ?_;exact qV.out⟩,⟨bM HB.out⟩⟩
   ·rw [if_neg c9] at H;have yZ:((gV.length:Int)==(gX.length:Int))=false:=beq_eq_false_iff_ne.mpr c9;have Jw:((gV.length:Int) != (gX.length:Int))=true:=bne_iff_ne.mpr c9;have Zy:(gV.length==gX.length)=false:=by first|simpa using c9|(simp at c9 ⊢;omega)
    (first|rw [yZ]|(simp only [lK,lM];rw [yZ])|skip)
    have H':=aA.mk H;clear H
    go_wp2_with (first|((with_reducible refine cZ (f:=33) rfl ?_);refine gQ (some 10) rfl rfl Try.func33 aV rfl #[] rfl fU ?_;(with_reducible refine (dG.calls k  true _ rfl A7.out).mono ?_);rintro e w15 ⟨rfl,hb⟩;refine ⟨_,rfl,?_⟩;have bU:=aA.mk (Kd.gJ (fG oC.out) hb);have bV:=aA.mk (Kd.gJ (fG qV.out) hb);have bZ:=aA.mk (aN (bM HB.out) hb);clear oC qV HB;have oC:=bU;have qV:=bV;have HB:=bZ;clear bU bV bZ;obtain ⟨aD6,aD7,ZE⟩:=Kd.kQ oC.out;subst ZE;obtain ⟨aD8,aD9,ZF⟩:=Kd.kQ qV.out;subst ZF))
    go_meet
    case rel=>exact ⟨_,(true),fB,H',⟨by first|omega|exact Nat.le_refl _⟩,⟨by refine fG ?_;exact Kd.gY oC.out (fun _ hk=>hk.2)⟩,⟨by refine fG ?_;exact qV.out⟩,⟨bM HB.out⟩⟩
  ·replace c8:=Bool.eq_false_iff.mpr c8;subst c8;have H1:(aC.j0 k a0 gV gX true)=some r:=by rw [if_neg (show ¬ (false=true) by decide)] at H;exact H
   clear H;have H:=H1;clear H1;have H':=aA.mk H;clear H;exact absurd ((JV k a0 gV gX r H'.out).symm.trans HT.out) (by decide)
 case rest =>
  clear Jz
  obtain ⟨kq,GZ,rfl,HA,Mc,jB,kF,HB⟩:=hcut
  cases kq with
  | zero=>exact absurd HA.out (by simp [aC.j0])
  | succ Md =>
   have H:=HA.out;clear HA;simp only [aC.j0] at H
   by_cases c19:GZ=true
   ·subst c19;have H1:(some false)=some r:=by rw [if_pos rfl] at H;exact H
    clear H;have H:=H1;clear H1;exact absurd ((Option.some.inj H).trans HT.out) (by decide)
   ·replace c19:=Bool.eq_false_iff.mpr c19;subst c19;have H1:(aC.l0 Md a0 gV gX 0)=some r:=by rw [if_neg (show ¬ (false=true) by decide)] at H;exact H
    clear H;have H:=H1;clear H1;have H':=aA.mk H;clear H
    go_wp2
    go_loopg [5] Md (fun kq v5 w'=>∃ (fD:Int),v5=.int .i64 fD∧aA (aC.l0 kq a0 gV gX fD=some r)∧aA (kq≤Md)∧aA (Kd.N rC 54 w' w.heap.size (fun k_=>some k_≠(ND:Value).ownBlock) JX gV)∧aA (Kd.N rC 54 w' w.heap.size (fun k_=>some k_≠(JX:Value).ownBlock) ND gX)∧aA (Below w.heap.size w w'))
    case atStart=>exact ⟨(0),fB,H',⟨Nat.le_refl _⟩,⟨by refine fG ?_;exact jB.out⟩,⟨by refine fG ?_;exact kF.out⟩,⟨bM HB.out⟩⟩
    case round =>
     clear H';obtain ⟨fD,rfl,HA,Dk,jB,kF,HB⟩:=hrel
     cases gk with
     | zero=>exact absurd HA.out (by simp [aC.l0])
     | succ k2 =>
      have H:=HA.out;clear HA;simp only [aC.l0] at H
      by_cases c20:fD<(gV.length:Int)
      ·rw [if_pos c20] at H;have JE:decide (fD<(gV.length:Int))=true:=eH c20;clear c20
       by_cases c21:0≤fD
       ·rw [if_pos c21] at H;have GK:decide (0≤fD)=true:=eH c21;clear c21
        by_cases Aw:fD<(gX.length:Int)
        ·rw [if_pos Aw] at H;have Gs:decide (fD<(gX.length:Int))=true:=eH Aw;clear Aw
         by_cases c23:((aG gV fD).f1)=((aG gX fD).f1)
         ·rw [if_pos c23] at H;have JS:(((aG gV fD).f1)==((aG gX fD).f1))=true:=beq_iff_eq.mpr c23;have JU:(((aG gV fD).f1) != ((aG gX fD).f1))=false:=bne_eq_false_iff_eq.mpr c23;clear c23;replace H:=Option.bind_eq_some_iff.mp H;obtain ⟨NC,UB,H⟩:=H;replace H:(if NC=true then (aC.l0 k2 a0 gV gX (wrap64 (fD+1))) else (some false))=some r:=H;have A24:=aA.mk UB;clear UB
          by_cases c25:NC=true
          ·subst c25;have H1:(aC.l0 k2 a0 gV gX (wrap64 (fD+1)))=some r:=by rw [if_pos rfl] at H;exact H
           clear H;have H:=H1;clear H1;have H':=aA.mk H;clear H;obtain ⟨aD_,aEa,ZG⟩:=Kd.kQ jB.out;subst ZG
           try go_wp2
           have bU:=aA.mk (Kd.uX jB.out);have bV:=aA.mk (Kd.uX kF.out);have bZ:=aA.mk (fZ HB.out);clear jB;clear kF;clear HB;have jB:=bU;have kF:=bV;have HB:=bZ;clear bU bV bZ;have NF:0≤(fD:Int):=dW dX;have NG:fD<(gV.length:Int):=dW dX;obtain ⟨tJ,EZ,Fa,ZH,He,Hf,yB,Hg,Hl⟩:=lC (Kd.iK jB.out).2.2 fD NF NG
           cases ZH
           obtain ⟨aC9,Ri,Rj,JY⟩:=Kd.xO jB.out z54 fD NF (by first|exact NG|exact dW dX|(have e_:=(Kd.iK jB.out).1;omega));obtain ⟨XX,XY,rfl,BP,BQ⟩:=oI Rj;have yC:=JY 2 _ rfl;rw [mJ _ _ 2 (by omega)] at yC;replace yC:=Option.some.inj (yC.symm.trans yB);injection yC with pR uV pU
           rw [pR] at BQ;rw [pU] at BP;have yD:=aA.mk (show Kd.V (Kd.int .i64) 3 _ w.heap.size _ _ ((aG gV fD).f2) from Kd.DJ BP BQ);clear pR uV pU BQ BP;clear JY Ri;have wC:=aA.mk Hl;have XZ:=aA.mk Hg;clear Hl Hg;replace NF:=eq_true NF;replace NG:=eq_true NG;obtain ⟨ZI,ZJ,NH⟩:=Kd.kQ kF.out
           (first|subst NH|(injection NH with UC ZK UD;have ZL:=UC.symm;have ZM:=UD.symm;clear UC ZK UD;subst ZL;subst ZM))
           have NI:0≤(fD:Int):=dW dX;have NJ:fD<(gX.length:Int):=dW dX;obtain ⟨tK,Fb,Fe,ZN,Ho,Hq,yE,Hr,Ht⟩:=lC (Kd.iK kF.out).2.2 fD NI NJ
           cases ZN
           obtain ⟨aC_,Rk,Rl,JZ⟩:=Kd.xO kF.out z54 fD NI (by first|exact NJ|exact dW dX|(have e_:=(Kd.iK kF.out).1;omega));obtain ⟨Ya,Yb,rfl,BR,BU⟩:=oI Rl;have yF:=JZ 2 _ rfl;rw [mJ _ _ 2 (by omega)] at yF;replace yF:=Option.some.inj (yF.symm.trans yE);injection yF with pR uV pU
           rw [pR] at BU;rw [pU] at BR;have yG:=aA.mk (show Kd.V (Kd.int .i64) 3 _ w.heap.size _ _ ((aG gX fD).f2) from Kd.DJ BR BU);clear pR uV pU BU BR;clear JZ Rk;have wE:=aA.mk Ht;have Yc:=aA.mk Hr;clear Ht Hr;replace NI:=eq_true NI;replace NJ:=eq_true NJ;have NK:0≤(fD:Int):=dW dX;have NL:fD<(gV.length:Int):=dW dX;obtain ⟨UE,ZO,ZP,e195,Hu,Hw,yH,Hy,Hz⟩:=lC (Kd.iK jB.out).2.2 fD NK NL;obtain rfl:tJ=UE:=(by injection e195);obtain ⟨aDa,Rn,Ro,Ko⟩:=Kd.xO jB.out z54 fD NK (by first|exact NL|exact dW dX|(have e_:=(Kd.iK jB.out).1;omega));obtain ⟨Yd,Ye,rfl,BV,BX⟩:=oI Ro;have yI:=Ko 2 _ rfl;rw [mJ _ _ 2 (by omega)] at yI;replace yI:=Option.some.inj (yI.symm.trans yH);injection yI with pR uV pU
           rw [pR] at BX;rw [pU] at BV;have yJ:=aA.mk (show Kd.V (Kd.int .i64) 3 _ w.heap.size _ _ ((aG gV fD).f2) from Kd.DJ BV BX);clear pR uV pU BX BV;clear Ko Rn;have rU:=aA.mk Hz;have NM:=aA.mk Hy;clear Hz Hy;replace NK:=eq_true NK;replace NL:=eq_true NL;have EW:=Option.some.inj (yB.symm.trans yH);injection EW with EW QS QT
           subst EW;subst QT;clear QS;have NP:0≤(fD:Int):=dW dX;have NQ:fD<(gX.length:Int):=dW dX;obtain ⟨UF,ZQ,ZR,ZT,HY,Ia,yK,Ib,Ic⟩:=lC (Kd.iK kF.out).2.2 fD NP NQ;obtain rfl:tK=UF:=(by injection ZT);obtain ⟨aDb,Rq,Rt,Kq⟩:=Kd.xO kF.out z54 fD NP (by first|exact NQ|exact dW dX|(have e_:=(Kd.iK kF.out).1;omega));obtain ⟨Yf,Yg,rfl,BZ,Cb⟩:=oI Rt;have yL:=Kq 2 _ rfl;rw [mJ _ _ 2 (by omega)] at yL;replace yL:=Option.some.inj (yL.symm.trans yK);injection yL with pR uV pU
           rw [pR] at Cb;rw [pU] at BZ;have yM:=aA.mk (show Kd.V (Kd.int .i64) 3 _ w.heap.size _ _ ((aG gX fD).f2) from Kd.DJ BZ Cb);clear pR uV pU Cb BZ;clear Kq Rq;have rV:=aA.mk Ic;have NR:=aA.mk Ib;clear Ic Ib;replace NP:=eq_true NP;replace NQ:=eq_true NQ;have EW:=Option.some.inj (yE.symm.trans yK);injection EW with EW QS QT
           subst EW;subst QT;clear QS
           refine pO (n:=23) (S:=fun w'=>w'.cell? (tJ.add ((fD).toNat*3))=some (.string ((aG gV fD).f0))∧w'.cell? ⟨(tJ.add ((fD).toNat*3)).block,(tJ.add ((fD).toNat*3)).off+1,none⟩=some (.int .i64 ((aG gV fD).f1))∧w'.cell? ⟨(tJ.add ((fD).toNat*3)).block,(tJ.add ((fD).toNat*3)).off+2,none⟩=some (.slice EZ ((aG gV fD).f2).length Fa)∧w'.cell? (tK.add ((fD).toNat*3))=some (.string ((aG gX fD).f0))∧w'.cell? ⟨(tK.add ((fD).toNat*3)).block,(tK.add ((fD).toNat*3)).off+1,none⟩=some (.int .i64 ((aG gX fD).f1))∧w'.cell? ⟨(tK.add ((fD).toNat*3)).block,(tK.add ((fD).toNat*3)).off+2,none⟩=some (.slice Fb ((aG gX fD).f2).length Fe)∧w'.cell? (tJ.add ((fD).toNat*3))=some (.string ((aG gV fD).f0))∧w'.cell? ⟨(tJ.add ((fD).toNat*3)).block,(tJ.add ((fD).toNat*3)).off+1,none⟩=some (.int .i64 ((aG gV fD).f1))∧w'.cell? ⟨(tJ.add ((fD).toNat*3)).block,(tJ.add ((fD).toNat*3)).off+2,none⟩=some (.slice EZ ((aG gV fD).f2).length Fa)∧w'.cell? (tK.add ((fD).toNat*3))=some (.string ((aG gX fD).f0))∧w'.cell? ⟨(tK.add ((fD).toNat*3)).block,(tK.add ((fD).toNat*3)).off+1,none⟩=some (.int .i64 ((aG gX fD).f1))∧w'.cell? ⟨(tK.add ((fD).toNat*3)).block,(tK.add ((fD).toNat*3)).off+2,none⟩=some (.slice Fb ((aG gX fD).f2).length Fe)) (ds:=[]) #[false,false,false,false,false,false,false,false,false,false,false,false,false,false,false,false,false,false,false,false,false,false,false] aV rfl rfl ⟨He,Hf,yB,Ho,Hq,yE,Hu,Hw,yH,HY,Ia,yK⟩ (fun hHeld=>?_);refine oJ aC.QZ aC.JW (fun jA xU=>?_)
           generalize wr.drew=Jl at jB kF HB yD yG yJ yM wC wE rU rV He Hf yB Ho Hq yE Hu Hw yH HY Ia yK hHeld ⊢;refine dZ (i:=0) (N:=some 31) (v:=?_) (a':=?_) #[true,false,false,false,false,false,false,false,false,false,false,false,false,false,false,false,false,false,false,false,false,false,false] rfl rfl (dR jA.out aV) (fun _ _ _ h=>h) (dO ?_) ?_ ?_;rotate_left
           ·intro w';go_simp;with_reducible rfl
           rotate_left
           ·simp only [Act.put,dD];rfl
           refine dZ (i:=1) (N:=some 32) (v:=?_) (a':=?_) #[true,true,false,false,false,false,false,false,false,false,false,false,false,false,false,false,false,false,false,false,false,false,false] rfl rfl (dR jA.out aV) (fun _ _ _ h=>h) (dO ?_) ?_ ?_;rotate_left
           ·intro w';go_simp;with_reducible rfl
           rotate_left
           ·simp only [Act.put,dD];rfl
           refine dZ (i:=2) (N:=some 33) (v:=?_) (a':=?_) #[true,true,true,false,false,false,false,false,false,false,false,false,false,false,false,false,false,false,false,false,false,false,false] rfl rfl (dR jA.out aV) (fun _ _ _ h=>h) (dO ?_) ?_ ?_;rotate_left
           ·intro w';go_simp;with_reducible rfl
           rotate_left
           ·simp only [Act.put,dD];rfl
           refine dZ (i:=3) (N:=some 34) (v:=?_) (a':=?_) #[true,true,true,true,false,false,false,false,false,false,false,false,false,false,false,false,false,false,false,false,false,false,false] rfl rfl (dR jA.out aV) (fun _ _ _ h=>h) (dO ?_) ?_ ?_;rotate_left
           ·intro w';go_simp;with_reducible rfl
           rotate_left
           ·simp only [Act.put,dD];rfl
           refine dZ (i:=5) (N:=some 36) (v:=?_) (a':=?_) #[true,true,true,true,false,true,false,false,false,false,false,false,false,false,false,false,false,false,false,false,false,false,false] rfl rfl (dR jA.out aV) (fun _ _ _ h=>h) (dO ?_) ?_ ?_;rotate_left
           ·intro w';go_simp;with_reducible rfl
           rotate_left
           ·simp only [Act.put,dD];rfl
           refine dZ (i:=6) (N:=some 37) (v:=?_) (a':=?_) #[true,true,true,true,false,true,true,false,false,false,false,false,false,false,false,false,false,false,false,false,false,false,false] rfl rfl (dR jA.out aV) (fun _ _ _ h=>h) (dO ?_) ?_ ?_;rotate_left
           ·intro w';go_simp;with_reducible rfl
           rotate_left
           ·simp only [Act.put,dD];rfl
           refine dZ (i:=7) (N:=some 38) (v:=?_) (a':=?_) #[true,true,true,true,false,true,true,true,false,false,false,false,false,false,false,false,false,false,false,false,false,false,false] rfl rfl (dR jA.out aV) (fun _ _ _ h=>h) (dO ?_) ?_ ?_;rotate_left
           ·intro w';go_simp;with_reducible rfl
           rotate_left
           ·simp only [Act.put,dD];rfl
           refine dZ (i:=8) (N:=some 39) (v:=?_) (a':=?_) #[true,true,true,true,false,true,true,true,true,false,false,false,false,false,false,false,false,false,false,false,false,false,false] rfl rfl (dR jA.out aV) (fun _ _ _ h=>h) (dO ?_) ?_ ?_;rotate_left
           ·intro w';go_simp;with_reducible rfl
           rotate_left
           ·simp only [Act.put,dD];rfl
           refine kT (i:=4) (N:=some 35) (v:=?_) (a':=?_) #[true,true,true,true,true,true,true,true,true,false,false,false,false,false,false,false,false,false,false,false,false,false,false] rfl rfl (iY jA.out xU.out aV) (fun _ _ _ h=>h) (dO ?_) hHeld ?_ ?_;rotate_left
           ·rintro w' ⟨s0,s1,s2,s3,s4,s5,s6,s7,s8,s9,s10,s11⟩;go_simp;with_reducible rfl
           rotate_left
           ·simp only [Act.put,dD];rfl
           refine kT (i:=9) (N:=some 40) (v:=?_) (a':=?_) #[true,true,true,true,true,true,true,true,true,true,false,false,false,false,false,false,false,false,false,false,false,false,false] rfl rfl (iY jA.out xU.out aV) (fun _ _ _ h=>h) (dO ?_) hHeld ?_ ?_;rotate_left
           ·rintro w' ⟨s0,s1,s2,s3,s4,s5,s6,s7,s8,s9,s10,s11⟩;go_simp;with_reducible rfl
           rotate_left
           ·simp only [Act.put,dD];rfl
           refine dZ (i:=10) (N:=some 41) (v:=?_) (a':=?_) #[true,true,true,true,true,true,true,true,true,true,true,false,false,false,false,false,false,false,false,false,false,false,false] rfl rfl (dR jA.out aV) (fun _ _ _ h=>h) (dO ?_) ?_ ?_;rotate_left
           ·intro w';go_simp;with_reducible rfl
           rotate_left
           ·simp only [Act.put,dD];rfl
           refine dZ (i:=11) (N:=some 42) (v:=?_) (a':=?_) #[true,true,true,true,true,true,true,true,true,true,true,true,false,false,false,false,false,false,false,false,false,false,false] rfl rfl (dR jA.out aV) (fun _ _ _ h=>h) (dO ?_) ?_ ?_;rotate_left
           ·intro w';go_simp;with_reducible rfl
           rotate_left
           ·simp only [Act.put,dD];rfl
           refine dZ (i:=12) (N:=some 43) (v:=?_) (a':=?_) #[true,true,true,true,true,true,true,true,true,true,true,true,true,false,false,false,false,false,false,false,false,false,false] rfl rfl (dR jA.out aV) (fun _ _ _ h=>h) (dO ?_) ?_ ?_;rotate_left
           ·intro w';go_simp;with_reducible rfl
           rotate_left
           ·simp only [Act.put,dD];rfl
           refine dZ (i:=13) (N:=some 44) (v:=?_) (a':=?_) #[true,true,true,true,true,true,true,true,true,true,true,true,true,true,false,false,false,false,false,false,false,false,false] rfl rfl (dR jA.out aV) (fun _ _ _ h=>h) (dO ?_) ?_ ?_;rotate_left
           ·intro w';go_simp;with_reducible rfl
           rotate_left
           ·simp only [Act.put,dD];rfl
           refine dZ (i:=14) (N:=some 45) (v:=?_) (a':=?_) #[true,true,true,true,true,true,true,true,true,true,true,true,true,true,true,false,false,false,false,false,false,false,false] rfl rfl (dR jA.out aV) (fun _ _ _ h=>h) (dO ?_) ?_ ?_;rotate_left
           ·intro w';go_simp;with_reducible rfl
           rotate_left
           ·simp only [Act.put,dD];rfl
           refine dZ (i:=16) (N:=some 47) (v:=?_) (a':=?_) #[true,true,true,true,true,true,true,true,true,true,true,true,true,true,true,false,true,false,false,false,false,false,false] rfl rfl (dR jA.out aV) (fun _ _ _ h=>h) (dO ?_) ?_ ?_;rotate_left
           ·intro w';go_simp;with_reducible rfl
           rotate_left
           ·simp only [Act.put,dD];rfl
           refine dZ (i:=17) (N:=some 48) (v:=?_) (a':=?_) #[true,true,true,true,true,true,true,true,true,true,true,true,true,true,true,false,true,true,false,false,false,false,false] rfl rfl (dR jA.out aV) (fun _ _ _ h=>h) (dO ?_) ?_ ?_;rotate_left
           ·intro w';go_simp;with_reducible rfl
           rotate_left
           ·simp only [Act.put,dD];rfl
           refine dZ (i:=18) (N:=some 49) (v:=?_) (a':=?_) #[true,true,true,true,true,true,true,true,true,true,true,true,true,true,true,false,true,true,true,false,false,false,false] rfl rfl (dR jA.out aV) (fun _ _ _ h=>h) (dO ?_) ?_ ?_;rotate_left
           ·intro w';go_simp;with_reducible rfl
           rotate_left
           ·simp only [Act.put,dD];rfl
           refine kT (i:=15) (N:=some 46) (v:=?_) (a':=?_) #[true,true,true,true,true,true,true,true,true,true,true,true,true,true,true,true,true,true,true,false,false,false,false] rfl rfl (iY jA.out xU.out aV) (fun _ _ _ h=>h) (dO ?_) hHeld ?_ ?_;rotate_left
           ·rintro w' ⟨s0,s1,s2,s3,s4,s5,s6,s7,s8,s9,s10,s11⟩;go_simp;with_reducible rfl
           rotate_left
           ·simp only [Act.put,dD];rfl
           refine kT (i:=19) (N:=some 50) (v:=?_) (a':=?_) #[true,true,true,true,true,true,true,true,true,true,true,true,true,true,true,true,true,true,true,true,false,false,false] rfl rfl (iY jA.out xU.out aV) (fun _ _ _ h=>h) (dO ?_) hHeld ?_ ?_;rotate_left
           ·rintro w' ⟨s0,s1,s2,s3,s4,s5,s6,s7,s8,s9,s10,s11⟩;go_simp;with_reducible rfl
           rotate_left
           ·simp only [Act.put,dD];rfl
           refine xW (i:=20) (N:=some 51) #[true,true,true,true,true,true,true,true,true,true,true,true,true,true,true,true,true,true,true,true,true,false,false] rfl rfl (sZ jA.out aV) (by decide) (fun K hK=>?_);refine DI Try.func40 aV rfl #[.agg #[.string ((aG gV fD).f0),.int .i64 ((aG gV fD).f1),.slice EZ ((aG gV fD).f2).length Fa],.agg #[.string ((aG gX fD).f0),.int .i64 ((aG gX fD).f1),.slice Fb ((aG gX fD).f2).length Fe]] (by rfl) rfl rfl fU ?_
           with_reducible refine (fF.calls k2 ((aG gV fD).f0) ((aG gV fD).f1) _ _ ((aG gV fD).f2) ((aG gX fD).f0) ((aG gX fD).f1) _ _ ((aG gX fD).f2) true _ ?nS ?nT ?vN ?vO A24.out).mono ?_
           (case nS=>repeat (first|exact (by repeat (first|(with_reducible exact rU.out)|(with_reducible refine Kd.gZ ?_ _)|(with_reducible refine Kd.iC ?_ _)|(with_reducible refine Kd.iU ?_)|exact rU.out))|(with_reducible refine Kd.gZ ?_ _)|(with_reducible refine Kd.iC ?_ _)|(with_reducible refine Kd.iU ?_)))
           (case nT=>exact NM.out)
           (case vN=>repeat (first|exact (by repeat (first|(with_reducible exact rV.out)|(with_reducible refine Kd.gZ ?_ _)|(with_reducible refine Kd.iC ?_ _)|(with_reducible refine Kd.iU ?_)|exact rV.out))|(with_reducible refine Kd.gZ ?_ _)|(with_reducible refine Kd.iC ?_ _)|(with_reducible refine Kd.iU ?_)))
           (case vO=>exact NR.out)
           rintro e w29 ⟨rfl,hb⟩;have ZU:=(hb.cell (dJ _ _ (hHeld.1))).trans (hHeld.1);have ZV:=(hb.cell (dJ _ _ (hHeld.2.1))).trans (hHeld.2.1);have ZW:=(hb.cell (dJ _ _ (hHeld.2.2.1))).trans (hHeld.2.2.1);have ZX:=(hb.cell (dJ _ _ (hHeld.2.2.2.1))).trans (hHeld.2.2.2.1);have ZY:=(hb.cell (dJ _ _ (hHeld.2.2.2.2.1))).trans (hHeld.2.2.2.2.1);have ZZ:=(hb.cell (dJ _ _ (hHeld.2.2.2.2.2.1))).trans (hHeld.2.2.2.2.2.1);have aAa:=(hb.cell (dJ _ _ (hHeld.2.2.2.2.2.2.1))).trans (hHeld.2.2.2.2.2.2.1);have aAb:=(hb.cell (dJ _ _ (hHeld.2.2.2.2.2.2.2.1))).trans (hHeld.2.2.2.2.2.2.2.1);have aAc:=(hb.cell (dJ _ _ (hHeld.2.2.2.2.2.2.2.2.1))).trans (hHeld.2.2.2.2.2.2.2.2.1);have aAd:=(hb.cell (dJ _ _ (hHeld.2.2.2.2.2.2.2.2.2.1))).trans (hHeld.2.2.2.2.2.2.2.2.2.1);have UG:=(hb.cell (dJ _ _ (hHeld.2.2.2.2.2.2.2.2.2.2.1))).trans (hHeld.2.2.2.2.2.2.2.2.2.2.1);have UH:=(hb.cell (dJ _ _ (hHeld.2.2.2.2.2.2.2.2.2.2.2))).trans (hHeld.2.2.2.2.2.2.2.2.2.2.2);refine ⟨_,rfl,?_⟩;have bU:=aA.mk (Kd.gJ (fG jB.out) hb);have bV:=aA.mk (Kd.gJ (fG kF.out) hb);have bZ:=aA.mk (Kd.yN (DK yD.out) hb);have jF:=aA.mk (Kd.yN (DK yG.out) hb)
           have mQ:=aA.mk (Kd.yN (DK yJ.out) hb);have mM:=aA.mk (Kd.yN (DK yM.out) hb);have sF:=aA.mk (Kd.gI (by repeat (first|(with_reducible exact wC.out)|(with_reducible refine Kd.gZ ?_ _)|(with_reducible refine Kd.iC ?_ _)|(with_reducible refine Kd.iU ?_)|exact wC.out)) hb);have xA:=aA.mk (Kd.gI (by repeat (first|(with_reducible exact wE.out)|(with_reducible refine Kd.gZ ?_ _)|(with_reducible refine Kd.iC ?_ _)|(with_reducible refine Kd.iU ?_)|exact wE.out)) hb);have Ac:=aA.mk (Kd.gI (by repeat (first|(with_reducible exact rU.out)|(with_reducible refine Kd.gZ ?_ _)|(with_reducible refine Kd.iC ?_ _)|(with_reducible refine Kd.iU ?_)|exact rU.out)) hb);have UI:=aA.mk (Kd.gI (by repeat (first|(with_reducible exact rV.out)|(with_reducible refine Kd.gZ ?_ _)|(with_reducible refine Kd.iC ?_ _)|(with_reducible refine Kd.iU ?_)|exact rV.out)) hb);have Kr:=aA.mk (aN (bM HB.out) hb);clear jB;clear kF;clear yD;clear yG;clear yJ;clear yM;clear wC;clear wE;clear rU;clear rV;clear HB;have jB:=bU;have kF:=bV;have yD:=bZ;have yG:=jF;have yJ:=mQ;have yM:=mM;have wC:=sF;have wE:=xA;have rU:=Ac;have rV:=UI;have HB:=Kr
           clear bU bV bZ jF mQ mM sF xA Ac UI Kr
           (try clear hb)
           (try clear hb2)
           (try clear hk)
           (try clear hi)
           refine hK.out _ _ ⟨ZU,ZV,ZW,ZX,ZY,ZZ,aAa,aAb,aAc,aAd,UG,UH⟩ (fun hHeld=>?_);clear hK K;refine vW (a':=?_) ?_ ?_;rotate_left
           ·show Act.put _ (some 51) _=_;simp only [Act.put,dD];rfl
           refine dZ (i:=21) (N:=some 52) (v:=?_) (a':=?_) #[true,true,true,true,true,true,true,true,true,true,true,true,true,true,true,true,true,true,true,true,true,true,false] rfl rfl (dR jA.out aV) (fun _ _ _ h=>h) (dO ?_) ?_ ?_;rotate_left
           ·intro w';go_simp;with_reducible rfl
           rotate_left
           ·simp only [Act.put,dD];rfl
           refine dZ (i:=22) (N:=some 53) (v:=?_) (a':=?_) #[true,true,true,true,true,true,true,true,true,true,true,true,true,true,true,true,true,true,true,true,true,true,true] rfl rfl (dR jA.out aV) (fun _ _ _ h=>h) (dO ?_) ?_ ?_;rotate_left
           ·intro w';go_simp;with_reducible rfl
           rotate_left
           ·simp only [Act.put,dD];rfl
           refine sG (rO jA.out aV) ?_
           try go_wp2
           go_roundg k2
           case measure=>have:=Mc.out;have:=Dk.out;omega
           case rel=>exact ⟨(wrap64 (fD+1)),fB,H',⟨by have:=Mc.out;have:=Dk.out;omega⟩,⟨by refine fG ?_;exact jB.out⟩,⟨by refine fG ?_;exact kF.out⟩,⟨bM HB.out⟩⟩
          ·replace c25:=Bool.eq_false_iff.mpr c25;subst c25;have H1:(some false)=some r:=by rw [if_neg (show ¬ (false=true) by decide)] at H;exact H
           clear H;have H:=H1;clear H1;exact absurd ((Option.some.inj H).trans HT.out) (by decide)
         ·rw [if_neg c23] at H;have JS:(((aG gV fD).f1)==((aG gX fD).f1))=false:=beq_eq_false_iff_ne.mpr c23;have JU:(((aG gV fD).f1) != ((aG gX fD).f1))=true:=bne_iff_ne.mpr c23;exact absurd ((Option.some.inj H).trans HT.out) (by decide)
        ·rw [if_neg Aw] at H;exact absurd H (by simp)
       ·rw [if_neg c21] at H;exact absurd H (by simp)
      ·rw [if_neg c20] at H;have JE:decide (fD<(gV.length:Int))=false:=iE c20;clear c20;replace H:=Option.bind_eq_some_iff.mp H;obtain ⟨⟨t198,kP,oG⟩,UJ,H⟩:=H;replace H:((dL.f a0 0 (wrap64 ((gX.length:Int)-1))).bind fun zD=>(if zD=true then (if kP=0 then ((aK.f k2 a0).bind fun t203=>(some (t198==t203))) else (some false)) else ((bF.f 3 (-2)).bind fun tC=>(if (kP==tC.1&&(oG==tC.2))=true then (some (t198==0)) else (some false)))))=some r:=H;have GN:=aA.mk UJ;clear UJ;replace H:=Option.bind_eq_some_iff.mp H;obtain ⟨zD,UK,H⟩:=H;replace H:(if zD=true then (if kP=0 then ((aK.f k2 a0).bind fun t203=>(some (t198==t203))) else (some false)) else ((bF.f 3 (-2)).bind fun tC=>(if (kP==tC.1&&(oG==tC.2))=true then (some (t198==0)) else (some false))))=some r:=H;have A31:=aA.mk UK;clear UK
       by_cases c32:zD=true
       ·subst c32;have H1:(if kP=0 then ((aK.f k2 a0).bind fun t203=>(some (t198==t203))) else (some false))=some r:=by rw [if_pos rfl] at H;exact H
        clear H;have H:=H1;clear H1
        by_cases Ru:kP=0
        ·rw [if_pos Ru] at H;have UL:(kP==0)=true:=beq_iff_eq.mpr Ru;have UM:(kP != 0)=false:=bne_eq_false_iff_eq.mpr Ru;clear Ru;replace H:=Option.bind_eq_some_iff.mp H;obtain ⟨t203,UN,H⟩:=H;replace H:(some (t198==t203))=some r:=H;have A34:=aA.mk UN;clear UN;obtain rfl:=Option.some.inj H;obtain ⟨aEb,aEc,aAe⟩:=Kd.kQ jB.out;subst aAe
         go_wp2_with (first|((with_reducible refine cZ (f:=43) rfl ?_);refine gQ (some 56) rfl rfl Try.func43 aV rfl #[.int .i64 a0] rfl fU ?_;(with_reducible refine (bQ.calls k2 a0 t198 kP oG _ GN.out).mono ?_);rintro e WO ⟨rfl,hb⟩;refine ⟨_,rfl,?_⟩;have bU:=aA.mk (Kd.gJ (fG jB.out) hb);have bV:=aA.mk (Kd.gJ (fG kF.out) hb);have bZ:=aA.mk (aN (bM HB.out) hb);clear jB kF HB;have jB:=bU;have kF:=bV;have HB:=bZ;clear bU bV bZ)|((with_reducible refine bC (N:=7) rfl ?_);(try (refine rW (by rfl) ?_;dsimp only));refine eX ?hg (N:=7) ?hd (cs:=#[.int .i64 0,.int .i64 0]) (t:=27) ?hr ?_;(case hd=>rfl);(case hg=>rfl);(case hr=>first|(go_simp;done)|(go_simp;rfl));intro dI hg UO hbox hb;have bU:=aA.mk (Kd.gJ (Kd.oD (fG jB.out) dI (Nat.le_of_eq hg.symm)) hb);have bV:=aA.mk (Kd.gJ (Kd.oD (fG kF.out) dI (Nat.le_of_eq hg.symm)) hb);have bZ:=aA.mk (aN (bM HB.out) hb);have jF:=aA.mk (hbox);have mQ:=aA.mk ((by rw [hg];exact (aQ (bM HB.out)):w.heap.size≤dI));have mM:=aA.mk ((by rw [hg];exact (aQ (bM HB.out)):w.heap.size≤dI));clear jB kF HB;have jB:=bU;have kF:=bV;have HB:=bZ;have bI:=jF;have DD:=mQ;have jK:=mM;clear bU bV bZ jF mQ mM;clear hb hbox hg;have Yh:UO.cell? ⟨dI,0,none⟩=some (.int .i64 0):=(aJ bI.out 0).trans rfl;have Yi:UO.cell? ⟨dI,1,none⟩=some (.int .i64 0):=(aJ bI.out 1).trans rfl;have Yj:=aI bI.out 0;have Yk:=aI bI.out 1;obtain ⟨aEd,aEe,aAf⟩:=Kd.kQ kF.out;subst aAf)|((with_reducible refine cZ (f:=36) rfl ?_);refine gQ (some 63) rfl rfl Try.func36 aV rfl #[.int .i64 a0,.int .i64 0,.int .i64 (wrap64 ((gX.length:Int)-1))] rfl fU ?_;(with_reducible refine (dL.calls a0 0 (wrap64 ((gX.length:Int)-1)) true _ A31.out).mono ?_);rintro e w' ⟨rfl,⟨nd,rfl⟩⟩;refine ⟨_,rfl,?_⟩)|(go_at_call 44;(with_reducible refine (aK.calls k2 a0 t203 _ A34.out).mono ?_);rintro e w40 ⟨rfl,hb⟩;have bU:=aA.mk (Kd.gJ (by refine fG ?_;exact (Kd.gY (Kd.mP (p:=⟨dI,1,none⟩) (Kd.mP (p:=⟨dI,0,none⟩) (Kd.gY jB.out (fun k_ hk=>(⟨hk,hk.2⟩:_∧k_≠dI))) (fun _ hk=>hk.2) (.int .i64 kP)) (fun _ hk=>hk.2) (.int .i64 oG)) (fun _ h_=>h_.1))) hb);have bV:=aA.mk (Kd.gJ (by refine fG ?_;exact (Kd.gY (Kd.mP (p:=⟨dI,1,none⟩) (Kd.mP (p:=⟨dI,0,none⟩) (Kd.gY kF.out (fun k_ hk=>(⟨hk,hk.2⟩:_∧k_≠dI))) (fun _ hk=>hk.2) (.int .i64 kP)) (fun _ hk=>hk.2) (.int .i64 oG)) (fun _ h_=>h_.1))) hb);have bZ:=aA.mk (bJ (g:=dI) (o:=.cells #[.int .i64 kP,.int .i64 oG] 27 (0,0)) (by refine aU ?_;refine bH (cs:=#[.int .i64 kP,.int .i64 0]) ?_ 1 _ rfl;refine aU ?_;refine bH (cs:=#[.int .i64 0,.int .i64 0]) ?_ 0 _ rfl;refine aU ?_;exact bI.out) hb);have jF:=aA.mk (aN (dA HB.out jK.out) hb);clear jB kF bI HB;have jB:=bU;have kF:=bV;have bI:=bZ;have HB:=jF;clear bU bV bZ jF))
         go_ret
         exact ⟨by first|rfl|(simp [aX,aY] <;> rfl)|(simp [*,aX,aY] <;> rfl),dA HB.out jK.out⟩
        ·rw [if_neg Ru] at H;have UL:(kP==0)=false:=beq_eq_false_iff_ne.mpr Ru;have UM:(kP != 0)=true:=bne_iff_ne.mpr Ru;exact absurd ((Option.some.inj H).trans HT.out) (by decide)
       ·replace c32:=Bool.eq_false_iff.mpr c32;subst c32;have H1:((bF.f 3 (-2)).bind fun tC=>(if (kP==tC.1&&(oG==tC.2))=true then (some (t198==0)) else (some false)))=some r:=by rw [if_neg (show ¬ (false=true) by decide)] at H;exact H
        clear H;have H:=H1;clear H1;replace H:=Option.bind_eq_some_iff.mp H;obtain ⟨⟨vX,rF⟩,UQ,H⟩:=H;replace H:(if (kP==vX&&(oG==rF))=true then (some (t198==0)) else (some false))=some r:=H;have A41:=aA.mk UQ;clear UQ
        by_cases Kt:(kP==vX&&(oG==rF))=true
        ·rw [if_pos Kt] at H;have UR:(kP==vX&&(oG==rF))=true:=Kt
         (try (have UT:decide (kP=vX&&(oG==rF))=true:=by simpa using Kt))
         (try (have UU:(kP==vX&&(oG==rF))=true:=by simpa using Kt))
         clear Kt;obtain rfl:=Option.some.inj H;obtain ⟨NS,NT,aAg⟩:=Kd.kQ jB.out;subst aAg
         try go_wp2_with (first|((with_reducible refine cZ (f:=43) rfl ?_);refine gQ (some 56) rfl rfl Try.func43 aV rfl #[.int .i64 a0] rfl fU ?_;(with_reducible refine (bQ.calls k2 a0 t198 kP oG _ GN.out).mono ?_);rintro e w44 ⟨rfl,hb⟩;refine ⟨_,rfl,?_⟩;have bU:=aA.mk (Kd.gJ (fG jB.out) hb);have bV:=aA.mk (Kd.gJ (fG kF.out) hb);have bZ:=aA.mk (aN (bM HB.out) hb);clear jB kF HB;have jB:=bU;have kF:=bV;have HB:=bZ;clear bU bV bZ)|((with_reducible refine bC (N:=7) rfl ?_);(try (refine rW (by rfl) ?_;dsimp only));refine eX ?hg (N:=7) ?hd (cs:=#[.int .i64 0,.int .i64 0]) (t:=27) ?hr ?_;(case hd=>rfl);(case hg=>rfl);(case hr=>first|(go_simp;done)|(go_simp;rfl));intro dI hg Rw hbox hb;have bU:=aA.mk (Kd.gJ (Kd.oD (fG jB.out) dI (Nat.le_of_eq hg.symm)) hb);have bV:=aA.mk (Kd.gJ (Kd.oD (fG kF.out) dI (Nat.le_of_eq hg.symm)) hb);have bZ:=aA.mk (aN (bM HB.out) hb);have jF:=aA.mk (hbox);have mQ:=aA.mk ((by rw [hg];exact (aQ (bM HB.out)):w.heap.size≤dI));have mM:=aA.mk ((by rw [hg];exact (aQ (bM HB.out)):w.heap.size≤dI));clear jB kF HB;have jB:=bU;have kF:=bV;have HB:=bZ;have bI:=jF;have DD:=mQ;have jK:=mM;clear bU bV bZ jF mQ mM;clear hb hbox hg;have Yl:Rw.cell? ⟨dI,0,none⟩=some (.int .i64 0):=(aJ bI.out 0).trans rfl;have Ym:Rw.cell? ⟨dI,1,none⟩=some (.int .i64 0):=(aJ bI.out 1).trans rfl;have Yn:=aI bI.out 0;have Yo:=aI bI.out 1;obtain ⟨NU,NV,aAh⟩:=Kd.kQ kF.out;subst aAh)|((with_reducible refine cZ (f:=36) rfl ?_);refine gQ (some 63) rfl rfl Try.func36 aV rfl #[.int .i64 a0,.int .i64 0,.int .i64 (wrap64 ((gX.length:Int)-1))] rfl fU ?_;(with_reducible refine (dL.calls a0 0 (wrap64 ((gX.length:Int)-1)) false _ A31.out).mono ?_);rintro e w' ⟨rfl,⟨nd,rfl⟩⟩;refine ⟨_,rfl,?_⟩))
         have bU:aA (Kd.N rC 54 ((Rw.setCell ⟨dI,0,none⟩ (.int .i64 kP)).setCell ⟨dI,1,none⟩ (.int .i64 oG)) w.heap.size (fun k_=>some k_≠(.slice NU gX.length NV:Value).ownBlock∧k_≠dI) (.slice NS gV.length NT) gV):=⟨by refine fG ?_;exact Kd.gY (Kd.mP (p:=⟨dI,1,none⟩) (Kd.mP (p:=⟨dI,0,none⟩) (Kd.gY jB.out (fun k_ hk=>(⟨hk,hk.2⟩:_∧k_≠dI))) (fun _ hk=>hk.2) (.int .i64 kP)) (fun _ hk=>hk.2) (.int .i64 oG)) (fun _ hk=>⟨hk.1.1,hk.1.2⟩)⟩;have bV:aA (Kd.N rC 54 ((Rw.setCell ⟨dI,0,none⟩ (.int .i64 kP)).setCell ⟨dI,1,none⟩ (.int .i64 oG)) w.heap.size (fun k_=>some k_≠(.slice NS gV.length NT:Value).ownBlock∧k_≠dI) (.slice NU gX.length NV) gX):=⟨by refine fG ?_;exact Kd.gY (Kd.mP (p:=⟨dI,1,none⟩) (Kd.mP (p:=⟨dI,0,none⟩) (Kd.gY kF.out (fun k_ hk=>(⟨hk,hk.2⟩:_∧k_≠dI))) (fun _ hk=>hk.2) (.int .i64 kP)) (fun _ hk=>hk.2) (.int .i64 oG)) (fun _ hk=>⟨hk.1.1,hk.1.2⟩)⟩;have bZ:aA (((Rw.setCell ⟨dI,0,none⟩ (.int .i64 kP)).setCell ⟨dI,1,none⟩ (.int .i64 oG)).heap[dI]?=some (.cells #[.int .i64 kP,.int .i64 oG] 27 (0,0))):=⟨by refine aU ?_;refine bH (cs:=#[.int .i64 kP,.int .i64 0]) ?_ 1 _ rfl;refine aU ?_;refine bH (cs:=#[.int .i64 0,.int .i64 0]) ?_ 0 _ rfl;refine aU ?_;exact bI.out⟩
         have jF:aA (Below w.heap.size w ((Rw.setCell ⟨dI,0,none⟩ (.int .i64 kP)).setCell ⟨dI,1,none⟩ (.int .i64 oG))):=⟨dA HB.out jK.out⟩
         (try clear jB)
         (try clear kF)
         (try clear bI)
         (try clear HB)
         generalize ((Rw.setCell ⟨dI,0,none⟩ (.int .i64 kP)).setCell ⟨dI,1,none⟩ (.int .i64 oG))=PW at bU bV bZ jF ⊢;have jB:=bU;have kF:=bV;have bI:=bZ;have HB:=jF;clear bU bV bZ jF
         (try (rw [zH PW];generalize Me:World.drewN PW _=PW;have bU:aA (Kd.N rC 54 PW w.heap.size (fun k_=>some k_≠(.slice NU gX.length NV:Value).ownBlock∧k_≠dI) (.slice NS gV.length NT) gV):=⟨by rw [← Me];exact (fG jB.out)⟩;have bV:aA (Kd.N rC 54 PW w.heap.size (fun k_=>some k_≠(.slice NS gV.length NT:Value).ownBlock∧k_≠dI) (.slice NU gX.length NV) gX):=⟨by rw [← Me];exact (fG kF.out)⟩;have bZ:aA (PW.heap[dI]?=some (.cells #[.int .i64 kP,.int .i64 oG] 27 (0,0))):=⟨by rw [← Me];exact (aU bI.out)⟩;have jF:aA (Below w.heap.size w PW):=⟨by rw [← Me];exact (dA HB.out jK.out)⟩;clear jB kF bI HB Me;have jB:=bU;have kF:=bV;have bI:=bZ;have HB:=jF;clear bU bV bZ jF))
         have bU:=aA.mk (Kd.uX jB.out);have bV:=aA.mk (Kd.uX kF.out);have bZ:=aA.mk (iQ bI.out);have jF:=aA.mk (fZ HB.out);clear jB;clear kF;clear bI;clear HB;have jB:=bU;have kF:=bV;have bI:=bZ;have HB:=jF;clear bU bV bZ jF;refine pO (n:=8) (S:=fun w'=>w'.cell? ⟨dI,0,none⟩=some (.int .i64 kP)∧w'.cell? ⟨dI,1,none⟩=some (.int .i64 oG)) (ds:=[]) #[false,false,false,false,false,false,false,false] aV rfl rfl ⟨(aJ bI.out 0).trans rfl,(aJ bI.out 1).trans rfl⟩ (fun hHeld=>?_);refine oJ aC.UA aC.Rf (fun jA xU=>?_);generalize PW.drew=w49 at jB kF bI HB hHeld ⊢;refine kT (i:=0) (N:=some 65) (v:=?_) (a':=?_) #[true,false,false,false,false,false,false,false] rfl rfl (iY jA.out xU.out aV) (fun _ _ _ h=>h) (dO ?_) hHeld ?_ ?_;rotate_left
         ·rintro w' ⟨s0,s1⟩;go_simp;with_reducible rfl
         rotate_left
         ·simp only [Act.put,dD];rfl
         refine xW (i:=1) (N:=some 66) #[true,true,false,false,false,false,false,false] rfl rfl (sZ jA.out aV) (by decide) (fun K hK=>?_);refine DI Try.func23 aV rfl #[.int .i64 3,.int .i64 (-2)] (by rfl) rfl rfl fU ?_
         with_reducible refine (bF.calls 3 (-2) vX rF _ A41.out).mono ?_
         rintro e w50 ⟨rfl,hb⟩;refine ⟨_,rfl,?_⟩;have bU:=aA.mk (Kd.gJ (fG jB.out) hb);have bV:=aA.mk (Kd.gJ (fG kF.out) hb);have bZ:=aA.mk (bJ (g:=dI) (o:=.cells #[.int .i64 kP,.int .i64 oG] 27 (0,0)) (aU bI.out) hb);have jF:=aA.mk (aN (dA HB.out jK.out) hb);clear jB;clear kF;clear bI;clear HB;have jB:=bU;have kF:=bV;have bI:=bZ;have HB:=jF;clear bU bV bZ jF
         (try clear hb)
         (try clear hb2)
         (try clear hk)
         (try clear hi)
         refine hK.out _ _ ⟨(aJ bI.out 0).trans rfl,(aJ bI.out 1).trans rfl⟩ (fun hHeld=>?_);clear hK K;refine vW (a':=?_) ?_ ?_;rotate_left
         ·show Act.put _ (some 66) _=_;simp only [Act.put,dD];rfl
         refine dZ (i:=2) (N:=some 67) (v:=?_) (a':=?_) #[true,true,true,false,false,false,false,false] rfl rfl (dR jA.out aV) (fun _ _ _ h=>h) (dO ?_) ?_ ?_;rotate_left
         ·intro w';go_simp;with_reducible rfl
         rotate_left
         ·simp only [Act.put,dD];rfl
         refine dZ (i:=3) (N:=some 68) (v:=?_) (a':=?_) #[true,true,true,true,false,false,false,false] rfl rfl (dR jA.out aV) (fun _ _ _ h=>h) (dO ?_) ?_ ?_;rotate_left
         ·intro w';go_simp;with_reducible rfl
         rotate_left
         ·simp only [Act.put,dD];rfl
         refine dZ (i:=4) (N:=some 69) (v:=?_) (a':=?_) #[true,true,true,true,true,false,false,false] rfl rfl (dR jA.out aV) (fun _ _ _ h=>h) (dO ?_) ?_ ?_;rotate_left
         ·intro w';go_simp;with_reducible rfl
         rotate_left
         ·simp only [Act.put,dD];rfl
         refine dZ (i:=5) (N:=some 70) (v:=?_) (a':=?_) #[true,true,true,true,true,true,false,false] rfl rfl (dR jA.out aV) (fun _ _ _ h=>h) (dO ?_) ?_ ?_;rotate_left
         ·intro w';go_simp;with_reducible rfl
         rotate_left
         ·simp only [Act.put,dD];rfl
         refine dZ (i:=6) (N:=some 71) (v:=?_) (a':=?_) #[true,true,true,true,true,true,true,false] rfl rfl (dR jA.out aV) (fun _ _ _ h=>h) (dO ?_) ?_ ?_;rotate_left
         ·intro w';go_simp;with_reducible rfl
         rotate_left
         ·simp only [Act.put,dD];rfl
         refine dZ (i:=7) (N:=some 2) (v:=?_) (a':=?_) #[true,true,true,true,true,true,true,true] rfl rfl (dR jA.out aV) (fun _ _ _ h=>h) (dO ?_) ?_ ?_;rotate_left
         ·intro w';go_simp;with_reducible rfl
         rotate_left
         ·simp only [Act.put,dD];rfl
         refine sG (rO jA.out aV) ?_
         try go_wp2
         go_ret
         exact ⟨by first|rfl|(simp [aX,aY] <;> rfl)|(simp [*,aX,aY] <;> rfl),dA HB.out jK.out⟩
        ·rw [if_neg Kt] at H;have UR:(kP==vX&&(oG==rF))=false:=by simpa using Kt
         (try (have UT:decide (kP=vX&&(oG==rF))=false:=by simpa using Kt))
         (try (have UU:(kP==vX&&(oG==rF))=false:=by simpa using Kt))
         (try (have aDc:¬ (kP=vX&&(oG==rF)):=by simpa using Kt))
         clear Kt;exact absurd ((Option.some.inj H).trans HT.out) (by decide)
def aC.Pure:Prop:=∀ (a0:Int),(Lit.int .i64 a0).wf=true→∃ k,aC.f k a0=some true
theorem aC.walk (P:aC.Pure) (a0:Int) (w:World) (w0:(Lit.int .i64 a0).wf=true) :
  Calls Try.prog 12 #[.int .i64 a0] w fun e w'=>e=.returned (.bool true)∧Below w.heap.size w w':=by
 obtain ⟨k,h⟩:=P a0 w0
 refine (aC.calls k a0 true w rfl h).mono ?_
 rintro e w' ⟨rfl,hd⟩
 exact ⟨rfl,hd⟩
end Go.Proofs.Ytipjpdiianopcaa.E
