/- Words and contracts for the laws. -/
import Derived.Test.YtipjpdiianopcaarAx0
import Derived.Test.YtipjpdiianopcaarAx2
import Derived.Test.YtipjpdiianopcaarAx7
import Derived.Test.YtipjpdiianopcaarAx8
namespace Go.Proofs.Ytipjpdiianopcaa.A
open Go.RowKit Go.Proofs.YtipjpdiianopcaaW.aZ Go.Proofs.YtipjpdiianopcaaW.dQ Go.Proofs.YtipjpdiianopcaaW.gW
attribute [local go_sem] jY jZ kY kZ jD jE kC kD
set_option linter.unusedVariables false
set_option linter.unusedSimpArgs false
mutual
def aH.l0:Nat→List (iJ)→Int→Option (Int × Int)
 | 0,_,_=>none
 | k+1,x0,x3=>if x3<(x0.length:Int) then (if 0≤x3 then ((bW.f k ((aG x0 x3).f0)).bind fun zD=>(if zD=true then ((dL.f ((aG x0 x3).f1) 0 255).bind fun rF=>(if rF=true then (if (((aG x0 x3).f2).length:Int)>4 then ((bF.f 2 x3).bind fun qG=>(some (qG.1,qG.2))) else (aH.l1 k x0 x3 0 0 ((aG x0 x3).f0) ((aG x0 x3).f1) ((aG x0 x3).f2))) else ((bF.f 3 x3).bind fun qH=>(some (qH.1,qH.2))))) else ((bF.f 12 x3).bind fun xK=>(some (xK.1,xK.2))))) else (none)) else (some (0,0))
def aH.l1:Nat→List (iJ)→Int→Int→Int→ByteArray→Int→List Int→Option (Int × Int)
 | 0,_,_,_,_,_,_,_=>none
 | k+1,x0,x3,x5,x6,tX,rG,oW=>if x6<(oW.length:Int) then (if 0≤x6 then ((dL.f (rd oW x6) 1 6).bind fun MZ=>(if MZ=true then (if (rd oW x6)≥5 then (aH.l1 k x0 x3 (wrap64 (x5+1)) (wrap64 (x6+1)) tX rG oW) else (aH.l1 k x0 x3 x5 (wrap64 (x6+1)) tX rG oW)) else ((bF.f 4 x3).bind fun xM=>(some (xM.1,xM.2))))) else (none)) else (if x5>1 then ((bF.f 5 x3).bind fun PT=>(some (PT.1,PT.2))) else (aH.l2 k x0 x3 0 tX rG oW))
def aH.l2:Nat→List (iJ)→Int→Int→ByteArray→Int→List Int→Option (Int × Int)
 | 0,_,_,_,_,_,_=>none
 | k+1,x0,x3,x7,tX,rG,oW=>if x7<x3 then (if 0≤x7 then (if x7<(x0.length:Int) then (if ((aG x0 x7).f1)=rG then ((bF.f 7 x3).bind fun PU=>(some (PU.1,PU.2))) else ((fF.f k ((aG x0 x7).f0) ((aG x0 x7).f1) ((aG x0 x7).f2) tX rG oW).bind fun Na=>(if Na=true then ((bF.f 7 x3).bind fun xN=>(some (xN.1,xN.2))) else (aH.l2 k x0 x3 (wrap64 (x7+1)) tX rG oW)))) else (none)) else (none)) else (aH.l0 k x0 (wrap64 (x3+1)))
end
def aH.f (k:Nat) (l0:List (iJ)):Option (Int × Int):=if (l0.length:Int)>100 then ((bF.f 2 (-1)).bind fun sW=>(some (sW.1,sW.2))) else (aH.l0 k l0 0)
def aH.T26:Bool × List (List Nat × List Nat):=(true,[([],[]),([],[]),([0,1],[0,1]),([2],[2]),([3],[3]),([],[]),([5],[5]),([4,6],[4,6]),([7],[7]),([8],[8]),([8],[8]),([9,10,8],[8,9,10]),([11,8],[8,11]),([8],[8]),([12,13,8,8],[8,12,13]),([8,14],[8,14])])
def aH.B26:List Nat:=[0,0,3,7,15,0,32,127,255,511,511,2047,4095,511,16383,32767]
theorem aH.JK:oP .any (opsOf Try.f34 26)=aH.T26:=by kernel_rfl
theorem aH.EO:oZ aH.T26.2 aH.B26=true:=by kernel_rfl
set_option maxHeartbeats 8000000 in
set_option maxRecDepth 100000 in
theorem aH.calls (k:Nat) (A0:Option Addr) (c0:Nat) (l0:List (iJ)) (r1:Int) (r2:Int) (w:World) (hr0:Kd.C rC w A0 l0.length l0) (hc0:l0.length≤c0) (h:aH.f k l0=some (r1,r2)) :
  Calls Try.prog 34 #[.slice A0 l0.length c0] w fun e w'=>e=.returned (.agg #[.int .i64 r1,.int .i64 r2])∧Below w.heap.size w w':=by
 have Eu:=Try.underlying27
 have vH:=Try.underlying54
 have HR0:=aA.mk hr0
 have PE:=aA.mk hc0
 clear hr0 hc0
 have HB:=aA.mk (Below.refl w.heap.size w)
 have H:(if (l0.length:Int)>100 then ((bF.f 2 (-1)).bind fun sW=>(some (sW.1,sW.2))) else (aH.l0 k l0 0))=some (r1,r2):=h
 clear h
 by_cases c2:(l0.length:Int)>100
 ·rw [if_pos c2] at H
  have Jv:decide (100<(l0.length:Int))=true:=eH c2
  have Zn:decide (100<l0.length)=true:=eH (by omega)
  clear c2
  replace H:=Option.bind_eq_some_iff.mp H
  obtain ⟨⟨t198,kP⟩,GN,H⟩:=H
  replace H:(some (t198,kP))=some (r1,r2):=H
  have A3:=aA.mk GN
  clear GN
  simp only [Option.some.injEq,Prod.mk.injEq] at H
  obtain ⟨rfl,rfl⟩:=H
  go_enter Try.func34,Try.ntmps34
  go_wp2_with (first|((with_reducible refine bC (N:=2) rfl ?_);refine eX ?hg (N:=2) ?hd (cs:=#[.int .i64 0,.int .i64 0]) (t:=27) ?hr ?_;(case hd=>rfl);(case hg=>rfl);(case hr=>first|(go_simp;done)|(go_simp;rfl));intro fE hg w4 hbox hb;have bU:=aA.mk (aN (bM HB.out) hb);have bV:=aA.mk (hbox);have bZ:=aA.mk ((by rw [hg];exact (aQ (bM HB.out)):w.heap.size≤fE));have jF:=aA.mk ((by rw [hg];exact (aQ (bM HB.out)):w.heap.size≤fE));clear HB;have HB:=bU;have dB:=bV;have Ua:=bZ;have iV:=jF;clear bU bV bZ jF;clear hb hbox hg)|((with_reducible refine cZ (f:=23) rfl ?_);refine gQ (some 11) rfl rfl Try.func23 aV rfl #[.int .i64 2,.int .i64 (-1)] rfl fU ?_;(with_reducible refine (bF.calls 2 (-1) t198 kP _ A3.out).mono ?_);rintro e w5 ⟨rfl,hb⟩;refine ⟨_,rfl,?_⟩;have bU:=aA.mk (bJ (g:=fE) (o:=.cells #[.int .i64 0,.int .i64 0] 27 (0,0)) (aU dB.out) hb);have bV:=aA.mk (aN (dA HB.out iV.out) hb);clear dB HB;have dB:=bU;have HB:=bV;clear bU bV;have Ew:w5.cell? ⟨fE,0,none⟩=some (.int .i64 0):=(aJ dB.out 0).trans rfl;have Ey:w5.cell? ⟨fE,1,none⟩=some (.int .i64 0):=(aJ dB.out 1).trans rfl;have Ez:=aI dB.out 0;have EC:=aI dB.out 1))
  refine bodyPost_ret (results_cell_row rfl _ _ fE 27 #[.int .i64 t198,.int .i64 kP] (0,0) _ rfl (by refine aU ?_;refine bH (cs:=#[.int .i64 t198,.int .i64 0]) ?_ 1 _ rfl;refine aU ?_;refine bH (cs:=#[.int .i64 0,.int .i64 0]) ?_ 0 _ rfl;refine aU ?_;exact dB.out) Try.underlying27 rfl aV) rfl ?_
  exact ⟨by first|rfl|(simp [aX,aY] <;> rfl)|(simp [*,aX,aY] <;> rfl),dA HB.out iV.out⟩
 ·rw [if_neg c2] at H
  have Jv:decide (100<(l0.length:Int))=false:=iE c2
  have Zn:decide (100<l0.length)=false:=iE (by omega)
  clear c2
  have H':=aA.mk H
  clear H
  go_enter Try.func34,Try.ntmps34
  go_wp2_with (first|((with_reducible refine bC (N:=2) rfl ?_);refine eX ?hg (N:=2) ?hd (cs:=#[.int .i64 0,.int .i64 0]) (t:=27) ?hr ?_;(case hd=>rfl);(case hg=>rfl);(case hr=>first|(go_simp;done)|(go_simp;rfl));intro fE hg w7 hbox hb;have bU:=aA.mk (aN (bM HB.out) hb);have bV:=aA.mk (hbox);have bZ:=aA.mk ((by rw [hg];exact (aQ (bM HB.out)):w.heap.size≤fE));have jF:=aA.mk ((by rw [hg];exact (aQ (bM HB.out)):w.heap.size≤fE));clear HB;have HB:=bU;have dB:=bV;have Ua:=bZ;have iV:=jF;clear bU bV bZ jF;clear hb hbox hg))
  go_loopg [3] k (fun kq v3 w'=>∃ (bG:Int) (fP:Int) (fA:Int),v3=.int .i64 bG∧aA (aH.l0 kq l0 bG=some (r1,r2))∧aA (kq≤k)∧aA (w'.heap[fE]?=some (.cells #[.int .i64 fP,.int .i64 fA] 27 (0,0)))∧aA (Below w.heap.size w w'))
  case atStart=>exact ⟨(0),(0),(0),fB,H',⟨Nat.le_refl _⟩,⟨by refine aU ?_;exact dB.out⟩,⟨dA HB.out iV.out⟩⟩
  case round =>
   clear H';obtain ⟨bG,fP,fA,rfl,HA,rE,dB,HB⟩:=hrel
   cases gk with
   | zero=>exact absurd HA.out (by simp [aH.l0])
   | succ k1 =>
    have H:=HA.out;clear HA;simp only [aH.l0] at H
    by_cases c8:bG<(l0.length:Int)
    ·rw [if_pos c8] at H;have Dt:decide (bG<(l0.length:Int))=true:=eH c8;clear c8
     by_cases c9:0≤bG
     ·rw [if_pos c9] at H;have yZ:decide (0≤bG)=true:=eH c9;clear c9;replace H:=Option.bind_eq_some_iff.mp H;obtain ⟨zD,Dx,H⟩:=H;replace H:(if zD=true then ((dL.f ((aG l0 bG).f1) 0 255).bind fun rF=>(if rF=true then (if (((aG l0 bG).f2).length:Int)>4 then ((bF.f 2 bG).bind fun qG=>(some (qG.1,qG.2))) else (aH.l1 k1 l0 bG 0 0 ((aG l0 bG).f0) ((aG l0 bG).f1) ((aG l0 bG).f2))) else ((bF.f 3 bG).bind fun qH=>(some (qH.1,qH.2))))) else ((bF.f 12 bG).bind fun xK=>(some (xK.1,xK.2))))=some (r1,r2):=H;have Dy:=aA.mk Dx;clear Dx
      by_cases c11:zD=true
      ·subst c11;have H1:((dL.f ((aG l0 bG).f1) 0 255).bind fun rF=>(if rF=true then (if (((aG l0 bG).f2).length:Int)>4 then ((bF.f 2 bG).bind fun qG=>(some (qG.1,qG.2))) else (aH.l1 k1 l0 bG 0 0 ((aG l0 bG).f0) ((aG l0 bG).f1) ((aG l0 bG).f2))) else ((bF.f 3 bG).bind fun qH=>(some (qH.1,qH.2)))))=some (r1,r2):=by rw [if_pos rfl] at H;exact H
       clear H;have H:=H1;clear H1;replace H:=Option.bind_eq_some_iff.mp H;obtain ⟨rF,Ub,H⟩:=H;replace H:(if rF=true then (if (((aG l0 bG).f2).length:Int)>4 then ((bF.f 2 bG).bind fun qG=>(some (qG.1,qG.2))) else (aH.l1 k1 l0 bG 0 0 ((aG l0 bG).f0) ((aG l0 bG).f1) ((aG l0 bG).f2))) else ((bF.f 3 bG).bind fun qH=>(some (qH.1,qH.2))))=some (r1,r2):=H;have Zo:=aA.mk Ub;clear Ub
       by_cases c13:rF=true
       ·subst c13;have H1:(if (((aG l0 bG).f2).length:Int)>4 then ((bF.f 2 bG).bind fun qG=>(some (qG.1,qG.2))) else (aH.l1 k1 l0 bG 0 0 ((aG l0 bG).f0) ((aG l0 bG).f1) ((aG l0 bG).f2)))=some (r1,r2):=by rw [if_pos rfl] at H;exact H
        clear H;have H:=H1;clear H1
        by_cases c14:(((aG l0 bG).f2).length:Int)>4
        ·rw [if_pos c14] at H;have vI:decide (4<(((aG l0 bG).f2).length:Int))=true:=eH c14;have JL:decide (4<((aG l0 bG).f2).length)=true:=eH (by omega);clear c14;replace H:=Option.bind_eq_some_iff.mp H;obtain ⟨⟨t208,QI⟩,Uc,H⟩:=H;replace H:(some (t208,QI))=some (r1,r2):=H;have A15:=aA.mk Uc;clear Uc;simp only [Option.some.injEq,Prod.mk.injEq] at H;obtain ⟨rfl,rfl⟩:=H;have uT:0≤(bG:Int):=dW dX;have uU:bG<(l0.length:Int):=dW dX;obtain ⟨jS,kE,jR,EP,lD,lF,lG,nU,nV⟩:=lC HR0.out bG uT uU
         cases EP
         replace lD:=(HB.out.cell (dJ w _ lD)).trans lD;replace lF:=(HB.out.cell (dJ w _ lF)).trans lF;replace lG:=(HB.out.cell (dJ w _ lG)).trans lG;have oL:=aA.mk nV;have vP:=aA.mk nU;clear nV nU;replace uT:=eq_true uT;replace uU:=eq_true uU
         go_wp2_with (first|((with_reducible refine bC (N:=4) rfl ?_);refine eX ?hg (N:=4) ?hd (cs:=#[.string (⟨#[]⟩:ByteArray),.int .i64 0,.slice none 0 0]) (t:=54) ?hr ?_;(case hd=>rfl);(case hg=>rfl);(case hr=>first|(go_simp;done)|(go_simp;rfl));intro dI hg w16 hbox hb;have bU:=aA.mk (bJ (g:=fE) (o:=.cells #[.int .i64 fP,.int .i64 fA] 27 (0,0)) (aU dB.out) hb);have bV:=aA.mk (aN (dA HB.out iV.out) hb);have bZ:=aA.mk (hbox);have jF:=aA.mk ((by rw [hg];exact (aQ (dA HB.out iV.out)):w.heap.size≤dI));have mQ:=aA.mk ((by rw [hg];exact (aQ (dA HB.out iV.out)):w.heap.size≤dI));have mM:=aA.mk ((by rw [hg];exact Nat.ne_of_lt (gU (g:=fE) (o:=.cells #[.int .i64 fP,.int .i64 fA] 27 (0,0)) (aU dB.out)):fE≠dI));have sF:=aA.mk ((by rw [hg];exact Nat.ne_of_gt (gU (g:=fE) (o:=.cells #[.int .i64 fP,.int .i64 fA] 27 (0,0)) (aU dB.out)):dI≠fE));clear dB HB;have dB:=bU;have HB:=bV;have bI:=bZ;have DD:=jF;have jK:=mQ;have fQ:=mM;have jL:=sF;clear bU bV bZ jF mQ mM sF;clear hb hbox hg;have aCN:=jL.out;have aCO:=fQ.out;have Wq:w16.cell? ⟨dI,0,none⟩=some (.string (⟨#[]⟩:ByteArray)):=(aJ bI.out 0).trans rfl;have Ws:w16.cell? ⟨dI,1,none⟩=some (.int .i64 0):=(aJ bI.out 1).trans rfl;have Wu:w16.cell? ⟨dI,2,none⟩=some (.slice none 0 0):=(aJ bI.out 2).trans rfl;have Wv:=aI bI.out 0;have Wx:=aI bI.out 1;have Wy:=aI bI.out 2)|((with_reducible refine cZ (f:=67) rfl ?_);refine gQ (some 24) rfl rfl Try.func67 aV rfl #[.string ((aG l0 bG).f0)] rfl fU ?_;(with_reducible refine (bW.calls k1 ((aG l0 bG).f0) true _ Dy.out).mono ?_);rintro e w' ⟨rfl,⟨nd,rfl⟩⟩;refine ⟨_,rfl,?_⟩)|((with_reducible refine cZ (f:=36) rfl ?_);refine gQ (some 30) rfl rfl Try.func36 aV rfl #[.int .i64 ((aG l0 bG).f1),.int .i64 0,.int .i64 255] rfl fU ?_;(with_reducible refine (dL.calls ((aG l0 bG).f1) 0 255 true _ Zo.out).mono ?_);rintro e w' ⟨rfl,⟨nd,rfl⟩⟩;refine ⟨_,rfl,?_⟩)|((with_reducible refine cZ (f:=23) rfl ?_);refine gQ (some 39) rfl rfl Try.func23 aV rfl #[.int .i64 2,.int .i64 bG] rfl fU ?_;(with_reducible refine (bF.calls 2 bG t208 QI _ A15.out).mono ?_);rintro e Jk ⟨rfl,hb⟩;refine ⟨_,rfl,?_⟩;have bU:=aA.mk (bJ (g:=fE) (o:=.cells #[.int .i64 fP,.int .i64 fA] 27 (0,0)) (by refine aU ?_;refine fO ?_ fQ.out _;refine aU ?_;refine fO ?_ fQ.out _;refine aU ?_;refine fO ?_ fQ.out _;refine aU ?_;exact dB.out) hb);have bV:=aA.mk (bJ (g:=dI) (o:=.cells #[.string ((aG l0 bG).f0),.int .i64 ((aG l0 bG).f1),.slice kE ((aG l0 bG).f2).length jR] 54 (0,0)) (by refine aU ?_;refine bH (cs:=#[.string ((aG l0 bG).f0),.int .i64 ((aG l0 bG).f1),.slice none 0 0]) ?_ 2 _ rfl;refine aU ?_;refine bH (cs:=#[.string ((aG l0 bG).f0),.int .i64 0,.slice none 0 0]) ?_ 1 _ rfl;refine aU ?_;refine bH (cs:=#[.string (⟨#[]⟩:ByteArray),.int .i64 0,.slice none 0 0]) ?_ 0 _ rfl;refine aU ?_;exact bI.out) hb);have bZ:=aA.mk (aN (fJ HB.out iV.out jK.out) hb);clear dB bI HB;have dB:=bU;have bI:=bV;have HB:=bZ;clear bU bV bZ;have Nb:Jk.cell? ⟨fE,0,none⟩=some (.int .i64 fP):=(aJ dB.out 0).trans rfl;have Nc:Jk.cell? ⟨fE,1,none⟩=some (.int .i64 fA):=(aJ dB.out 1).trans rfl;have Nh:=aI dB.out 0;have Nj:=aI dB.out 1))
         refine bodyPost_ret (results_cell_row rfl _ _ fE 27 #[.int .i64 t208,.int .i64 QI] (0,0) _ rfl (by refine aU ?_;refine bH (cs:=#[.int .i64 t208,.int .i64 fA]) ?_ 1 _ rfl;refine aU ?_;refine bH (cs:=#[.int .i64 fP,.int .i64 fA]) ?_ 0 _ rfl;refine aU ?_;exact dB.out) Try.underlying27 rfl aV) rfl ?_;exact ⟨by first|rfl|(simp [aX,aY] <;> rfl)|(simp [*,aX,aY] <;> rfl),fJ HB.out iV.out jK.out⟩
        ·rw [if_neg c14] at H;have vI:decide (4<(((aG l0 bG).f2).length:Int))=false:=iE c14;have JL:decide (4<((aG l0 bG).f2).length)=false:=iE (by omega);clear c14;have H':=aA.mk H;clear H;have uT:0≤(bG:Int):=dW dX;have uU:bG<(l0.length:Int):=dW dX;obtain ⟨jS,kE,jR,EP,lD,lF,lG,nU,nV⟩:=lC HR0.out bG uT uU
         cases EP
         replace lD:=(HB.out.cell (dJ w _ lD)).trans lD;replace lF:=(HB.out.cell (dJ w _ lF)).trans lF;replace lG:=(HB.out.cell (dJ w _ lG)).trans lG;have oL:=aA.mk nV;have vP:=aA.mk nU;clear nV nU;replace uT:=eq_true uT;replace uU:=eq_true uU
         go_wp2_with (first|((with_reducible refine bC (N:=4) rfl ?_);refine eX ?hg (N:=4) ?hd (cs:=#[.string (⟨#[]⟩:ByteArray),.int .i64 0,.slice none 0 0]) (t:=54) ?hr ?_;(case hd=>rfl);(case hg=>rfl);(case hr=>first|(go_simp;done)|(go_simp;rfl));intro dI hg JM hbox hb;have bU:=aA.mk (bJ (g:=fE) (o:=.cells #[.int .i64 fP,.int .i64 fA] 27 (0,0)) (aU dB.out) hb);have bV:=aA.mk (aN (dA HB.out iV.out) hb);have bZ:=aA.mk (hbox);have jF:=aA.mk ((by rw [hg];exact (aQ (dA HB.out iV.out)):w.heap.size≤dI));have mQ:=aA.mk ((by rw [hg];exact (aQ (dA HB.out iV.out)):w.heap.size≤dI));have mM:=aA.mk ((by rw [hg];exact Nat.ne_of_lt (gU (g:=fE) (o:=.cells #[.int .i64 fP,.int .i64 fA] 27 (0,0)) (aU dB.out)):fE≠dI));have sF:=aA.mk ((by rw [hg];exact Nat.ne_of_gt (gU (g:=fE) (o:=.cells #[.int .i64 fP,.int .i64 fA] 27 (0,0)) (aU dB.out)):dI≠fE));clear dB HB;have dB:=bU;have HB:=bV;have bI:=bZ;have DD:=jF;have jK:=mQ;have fQ:=mM;have jL:=sF;clear bU bV bZ jF mQ mM sF;clear hb hbox hg;have aCP:=jL.out;have aCQ:=fQ.out;have Gt:JM.cell? ⟨dI,0,none⟩=some (.string (⟨#[]⟩:ByteArray)):=(aJ bI.out 0).trans rfl;have Gu:JM.cell? ⟨dI,1,none⟩=some (.int .i64 0):=(aJ bI.out 1).trans rfl;have MS:JM.cell? ⟨dI,2,none⟩=some (.slice none 0 0):=(aJ bI.out 2).trans rfl;have Gv:=aI bI.out 0;have Gw:=aI bI.out 1;have MV:=aI bI.out 2)|((with_reducible refine cZ (f:=67) rfl ?_);refine gQ (some 24) rfl rfl Try.func67 aV rfl #[.string ((aG l0 bG).f0)] rfl fU ?_;(with_reducible refine (bW.calls k1 ((aG l0 bG).f0) true _ Dy.out).mono ?_);rintro e w' ⟨rfl,⟨nd,rfl⟩⟩;refine ⟨_,rfl,?_⟩)|((with_reducible refine cZ (f:=36) rfl ?_);refine gQ (some 30) rfl rfl Try.func36 aV rfl #[.int .i64 ((aG l0 bG).f1),.int .i64 0,.int .i64 255] rfl fU ?_;(with_reducible refine (dL.calls ((aG l0 bG).f1) 0 255 true _ Zo.out).mono ?_);rintro e w' ⟨rfl,⟨nd,rfl⟩⟩;refine ⟨_,rfl,?_⟩))
         go_loopg [5,6] k1 (fun kq v5 v6 w'=>∃ (fD:Int) (kV:Int) (kH:Int) (jM:Int),v5=.int .i64 fD∧v6=.int .i64 kV∧aA (aH.l1 kq l0 bG fD kV ((aG l0 bG).f0) ((aG l0 bG).f1) ((aG l0 bG).f2)=some (r1,r2))∧aA (kq≤k1)∧aA (w'.heap[fE]?=some (.cells #[.int .i64 kH,.int .i64 jM] 27 (0,0)))∧aA (w'.heap[dI]?=some (.cells #[.string ((aG l0 bG).f0),.int .i64 ((aG l0 bG).f1),(.slice kE ((aG l0 bG).f2).length jR)] 54 (0,0)))∧aA (Below w.heap.size w w'))
         case atStart=>exact ⟨(0),(0),(fP),(fA),fB,fB,H',⟨Nat.le_refl _⟩,⟨by refine aU ?_;refine fO ?_ fQ.out _;refine aU ?_;refine fO ?_ fQ.out _;refine aU ?_;refine fO ?_ fQ.out _;refine aU ?_;exact dB.out⟩,⟨by refine aU ?_;refine bH (cs:=#[.string ((aG l0 bG).f0),.int .i64 ((aG l0 bG).f1),.slice none 0 0]) ?_ 2 _ rfl;refine aU ?_;refine bH (cs:=#[.string ((aG l0 bG).f0),.int .i64 0,.slice none 0 0]) ?_ 1 _ rfl;refine aU ?_;refine bH (cs:=#[.string (⟨#[]⟩:ByteArray),.int .i64 0,.slice none 0 0]) ?_ 0 _ rfl;refine aU ?_;exact bI.out⟩,⟨fJ HB.out iV.out jK.out⟩⟩
         case round =>
          clear H';obtain ⟨fD,kV,kH,jM,rfl,rfl,HA,Dk,dB,bI,HB⟩:=hrel
          cases gk with
          | zero=>exact absurd HA.out (by simp [aH.l1])
          | succ k2 =>
           have H:=HA.out;clear HA;simp only [aH.l1] at H
           by_cases c24:kV<(((aG l0 bG).f2).length:Int)
           ·rw [if_pos c24] at H;have Dn:decide (kV<(((aG l0 bG).f2).length:Int))=true:=eH c24;clear c24
            by_cases c25:0≤kV
            ·rw [if_pos c25] at H;have PV:decide (0≤kV)=true:=eH c25;clear c25;replace H:=Option.bind_eq_some_iff.mp H;obtain ⟨MZ,Ud,H⟩:=H;replace H:(if MZ=true then (if (rd ((aG l0 bG).f2) kV)≥5 then (aH.l1 k2 l0 bG (wrap64 (fD+1)) (wrap64 (kV+1)) ((aG l0 bG).f0) ((aG l0 bG).f1) ((aG l0 bG).f2)) else (aH.l1 k2 l0 bG fD (wrap64 (kV+1)) ((aG l0 bG).f0) ((aG l0 bG).f1) ((aG l0 bG).f2))) else ((bF.f 4 bG).bind fun xM=>(some (xM.1,xM.2))))=some (r1,r2):=H;have Zp:=aA.mk Ud;clear Ud
             by_cases WA:MZ=true
             ·subst WA;have H1:(if (rd ((aG l0 bG).f2) kV)≥5 then (aH.l1 k2 l0 bG (wrap64 (fD+1)) (wrap64 (kV+1)) ((aG l0 bG).f0) ((aG l0 bG).f1) ((aG l0 bG).f2)) else (aH.l1 k2 l0 bG fD (wrap64 (kV+1)) ((aG l0 bG).f0) ((aG l0 bG).f1) ((aG l0 bG).f2)))=some (r1,r2):=by rw [if_pos rfl] at H;exact H
              clear H;have H:=H1;clear H1
              by_cases c28:(rd ((aG l0 bG).f2) kV)≥5
              ·rw [if_pos c28] at H;have Jt:decide (5≤(rd ((aG l0 bG).f2) kV))=true:=eH c28;clear c28;have H':=aA.mk H;clear H;have aCR:=jL.out;have aCS:=fQ.out;have Gx:wr.cell? ⟨dI,0,none⟩=some (.string ((aG l0 bG).f0)):=(aJ bI.out 0).trans rfl;have Gy:wr.cell? ⟨dI,1,none⟩=some (.int .i64 ((aG l0 bG).f1)):=(aJ bI.out 1).trans rfl;have WB:wr.cell? ⟨dI,2,none⟩=some (.slice kE ((aG l0 bG).f2).length jR):=(aJ bI.out 2).trans rfl;have Gz:=aI bI.out 0;have GG:=aI bI.out 1;have WC:=aI bI.out 2;have zF:0≤(kV:Int):=dW dX;have zG:kV<(((aG l0 bG).f2).length:Int):=dW dX;obtain ⟨AA,e210,nX⟩:=Kd.lU oL.out kV zF zG
               cases e210
               replace nX:=(HB.out.cell (dJ w _ nX)).trans nX;replace zF:=eq_true zF;replace zG:=eq_true zG
               go_wp2_with (first|((with_reducible refine cZ (f:=36) rfl ?_);refine gQ (some 52) rfl rfl Try.func36 aV rfl #[.int .i64 (rd ((aG l0 bG).f2) kV),.int .i64 1,.int .i64 6] rfl fU ?_;(with_reducible refine (dL.calls (rd ((aG l0 bG).f2) kV) 1 6 true _ Zp.out).mono ?_);rintro e w' ⟨rfl,⟨nd,rfl⟩⟩;refine ⟨_,rfl,?_⟩;have ER:0≤(kV:Int):=dW dX;have ES:kV<(((aG l0 bG).f2).length:Int):=dW dX;obtain ⟨JO,e212,rH⟩:=Kd.lU oL.out kV ER ES;obtain rfl:AA=JO:=(by injection e212);replace rH:=(HB.out.cell (dJ w _ rH)).trans rH;replace ER:=eq_true ER;replace ES:=eq_true ES))
               go_roundg k2
               case measure=>have:=rE.out;have:=Dk.out;omega
               case rel=>exact ⟨(wrap64 (fD+1)),(wrap64 (kV+1)),(kH),(jM),fB,fB,H',⟨by have:=rE.out;have:=Dk.out;omega⟩,⟨by refine aU ?_;exact dB.out⟩,⟨by refine aU ?_;exact bI.out⟩,⟨fJ HB.out iV.out jK.out⟩⟩
              ·rw [if_neg c28] at H;have Jt:decide (5≤(rd ((aG l0 bG).f2) kV))=false:=iE c28;clear c28;have H':=aA.mk H;clear H;have aCT:=jL.out;have aCU:=fQ.out;have WE:wr.cell? ⟨dI,0,none⟩=some (.string ((aG l0 bG).f0)):=(aJ bI.out 0).trans rfl;have WG:wr.cell? ⟨dI,1,none⟩=some (.int .i64 ((aG l0 bG).f1)):=(aJ bI.out 1).trans rfl;have WH:wr.cell? ⟨dI,2,none⟩=some (.slice kE ((aG l0 bG).f2).length jR):=(aJ bI.out 2).trans rfl;have WI:=aI bI.out 0;have WJ:=aI bI.out 1;have WL:=aI bI.out 2;have zF:0≤(kV:Int):=dW dX;have zG:kV<(((aG l0 bG).f2).length:Int):=dW dX;obtain ⟨AA,e210,nX⟩:=Kd.lU oL.out kV zF zG
               cases e210
               replace nX:=(HB.out.cell (dJ w _ nX)).trans nX;replace zF:=eq_true zF;replace zG:=eq_true zG
               go_wp2_with (first|((with_reducible refine cZ (f:=36) rfl ?_);refine gQ (some 52) rfl rfl Try.func36 aV rfl #[.int .i64 (rd ((aG l0 bG).f2) kV),.int .i64 1,.int .i64 6] rfl fU ?_;(with_reducible refine (dL.calls (rd ((aG l0 bG).f2) kV) 1 6 true _ Zp.out).mono ?_);rintro e w' ⟨rfl,⟨nd,rfl⟩⟩;refine ⟨_,rfl,?_⟩;have ER:0≤(kV:Int):=dW dX;have ES:kV<(((aG l0 bG).f2).length:Int):=dW dX;obtain ⟨JO,e212,rH⟩:=Kd.lU oL.out kV ER ES;obtain rfl:AA=JO:=(by injection e212);replace rH:=(HB.out.cell (dJ w _ rH)).trans rH;replace ER:=eq_true ER;replace ES:=eq_true ES))
               go_roundg k2
               case measure=>have:=rE.out;have:=Dk.out;omega
               case rel=>exact ⟨(fD),(wrap64 (kV+1)),(kH),(jM),fB,fB,H',⟨by have:=rE.out;have:=Dk.out;omega⟩,⟨by refine aU ?_;exact dB.out⟩,⟨by refine aU ?_;exact bI.out⟩,⟨fJ HB.out iV.out jK.out⟩⟩
             ·replace WA:=Bool.eq_false_iff.mpr WA;subst WA;have H1:((bF.f 4 bG).bind fun xM=>(some (xM.1,xM.2)))=some (r1,r2):=by rw [if_neg (show ¬ (false=true) by decide)] at H;exact H
              clear H;have H:=H1;clear H1;replace H:=Option.bind_eq_some_iff.mp H;obtain ⟨⟨t213,QJ⟩,JP,H⟩:=H;replace H:(some (t213,QJ))=some (r1,r2):=H;have Zq:=aA.mk JP;clear JP;simp only [Option.some.injEq,Prod.mk.injEq] at H;obtain ⟨rfl,rfl⟩:=H;have Ue:=jL.out;have Uf:=fQ.out;have Nk:wr.cell? ⟨dI,0,none⟩=some (.string ((aG l0 bG).f0)):=(aJ bI.out 0).trans rfl;have Nl:wr.cell? ⟨dI,1,none⟩=some (.int .i64 ((aG l0 bG).f1)):=(aJ bI.out 1).trans rfl;have WM:wr.cell? ⟨dI,2,none⟩=some (.slice kE ((aG l0 bG).f2).length jR):=(aJ bI.out 2).trans rfl;have Np:=aI bI.out 0;have Nq:=aI bI.out 1;have WN:=aI bI.out 2;have zF:0≤(kV:Int):=dW dX;have zG:kV<(((aG l0 bG).f2).length:Int):=dW dX;obtain ⟨AA,e210,nX⟩:=Kd.lU oL.out kV zF zG
              cases e210
              replace nX:=(HB.out.cell (dJ w _ nX)).trans nX;replace zF:=eq_true zF;replace zG:=eq_true zG
              go_wp2_with (first|((with_reducible refine cZ (f:=36) rfl ?_);refine gQ (some 52) rfl rfl Try.func36 aV rfl #[.int .i64 (rd ((aG l0 bG).f2) kV),.int .i64 1,.int .i64 6] rfl fU ?_;(with_reducible refine (dL.calls (rd ((aG l0 bG).f2) kV) 1 6 false _ Zp.out).mono ?_);rintro e w' ⟨rfl,⟨nd,rfl⟩⟩;refine ⟨_,rfl,?_⟩;(try (rw [zH wr];generalize Me:World.drewN wr _=wr;have bU:aA (wr.heap[fE]?=some (.cells #[.int .i64 kH,.int .i64 jM] 27 (0,0))):=⟨by rw [← Me];exact (aU dB.out)⟩;have bV:aA (wr.heap[dI]?=some (.cells #[.string ((aG l0 bG).f0),.int .i64 ((aG l0 bG).f1),.slice (some AA) ((aG l0 bG).f2).length jR] 54 (0,0))):=⟨by rw [← Me];exact (aU bI.out)⟩;have bZ:aA (Below w.heap.size w wr):=⟨by rw [← Me];exact (fJ HB.out iV.out jK.out)⟩;clear dB bI HB Me;have dB:=bU;have bI:=bV;have HB:=bZ;clear bU bV bZ)))|((with_reducible refine cZ (f:=23) rfl ?_);refine gQ (some 55) rfl rfl Try.func23 aV rfl #[.int .i64 4,.int .i64 bG] rfl fU ?_;(with_reducible refine (bF.calls 4 bG t213 QJ _ Zq.out).mono ?_);rintro e WO ⟨rfl,hb⟩;refine ⟨_,rfl,?_⟩;have bU:=aA.mk (bJ (g:=fE) (o:=.cells #[.int .i64 kH,.int .i64 jM] 27 (0,0)) (aU dB.out) hb);have bV:=aA.mk (bJ (g:=dI) (o:=.cells #[.string ((aG l0 bG).f0),.int .i64 ((aG l0 bG).f1),.slice (some AA) ((aG l0 bG).f2).length jR] 54 (0,0)) (aU bI.out) hb);have bZ:=aA.mk (aN (fJ HB.out iV.out jK.out) hb);clear dB bI HB;have dB:=bU;have bI:=bV;have HB:=bZ;clear bU bV bZ;have WQ:WO.cell? ⟨fE,0,none⟩=some (.int .i64 kH):=(aJ dB.out 0).trans rfl;have WS:WO.cell? ⟨fE,1,none⟩=some (.int .i64 jM):=(aJ dB.out 1).trans rfl;have WT:=aI dB.out 0;have WU:=aI dB.out 1))
              refine bodyPost_ret (results_cell_row rfl _ _ fE 27 #[.int .i64 t213,.int .i64 QJ] (0,0) _ rfl (by refine aU ?_;refine bH (cs:=#[.int .i64 t213,.int .i64 jM]) ?_ 1 _ rfl;refine aU ?_;refine bH (cs:=#[.int .i64 kH,.int .i64 jM]) ?_ 0 _ rfl;refine aU ?_;exact dB.out) Try.underlying27 rfl aV) rfl ?_;exact ⟨by first|rfl|(simp [aX,aY] <;> rfl)|(simp [*,aX,aY] <;> rfl),fJ HB.out iV.out jK.out⟩
            ·rw [if_neg c25] at H;exact absurd H (by simp)
           ·rw [if_neg c24] at H;have Dn:decide (kV<(((aG l0 bG).f2).length:Int))=false:=iE c24;clear c24
            by_cases Tq:fD>1
            ·rw [if_pos Tq] at H;have Ug:decide (1<fD)=true:=eH Tq;clear Tq;replace H:=Option.bind_eq_some_iff.mp H;obtain ⟨⟨Nr,QK⟩,Uh,H⟩:=H;replace H:(some (Nr,QK))=some (r1,r2):=H;have A39:=aA.mk Uh;clear Uh;simp only [Option.some.injEq,Prod.mk.injEq] at H;obtain ⟨rfl,rfl⟩:=H;have aCV:=jL.out;have aCW:=fQ.out;have WV:wr.cell? ⟨dI,0,none⟩=some (.string ((aG l0 bG).f0)):=(aJ bI.out 0).trans rfl;have WW:wr.cell? ⟨dI,1,none⟩=some (.int .i64 ((aG l0 bG).f1)):=(aJ bI.out 1).trans rfl;have WX:wr.cell? ⟨dI,2,none⟩=some (.slice kE ((aG l0 bG).f2).length jR):=(aJ bI.out 2).trans rfl;have WY:=aI bI.out 0;have WZ:=aI bI.out 1;have Xa:=aI bI.out 2
             go_wp2_with (first|((with_reducible refine cZ (f:=23) rfl ?_);refine gQ (some 67) rfl rfl Try.func23 aV rfl #[.int .i64 5,.int .i64 bG] rfl fU ?_;(with_reducible refine (bF.calls 5 bG Nr QK _ A39.out).mono ?_);rintro e w42 ⟨rfl,hb⟩;refine ⟨_,rfl,?_⟩;have bU:=aA.mk (bJ (g:=fE) (o:=.cells #[.int .i64 kH,.int .i64 jM] 27 (0,0)) (aU dB.out) hb);have bV:=aA.mk (bJ (g:=dI) (o:=.cells #[.string ((aG l0 bG).f0),.int .i64 ((aG l0 bG).f1),.slice kE ((aG l0 bG).f2).length jR] 54 (0,0)) (aU bI.out) hb);have bZ:=aA.mk (aN (fJ HB.out iV.out jK.out) hb);clear dB bI HB;have dB:=bU;have bI:=bV;have HB:=bZ;clear bU bV bZ;have Xb:w42.cell? ⟨fE,0,none⟩=some (.int .i64 kH):=(aJ dB.out 0).trans rfl;have Xc:w42.cell? ⟨fE,1,none⟩=some (.int .i64 jM):=(aJ dB.out 1).trans rfl;have Xd:=aI dB.out 0;have Xe:=aI dB.out 1))
             refine bodyPost_ret (results_cell_row rfl _ _ fE 27 #[.int .i64 Nr,.int .i64 QK] (0,0) _ rfl (by refine aU ?_;refine bH (cs:=#[.int .i64 Nr,.int .i64 jM]) ?_ 1 _ rfl;refine aU ?_;refine bH (cs:=#[.int .i64 kH,.int .i64 jM]) ?_ 0 _ rfl;refine aU ?_;exact dB.out) Try.underlying27 rfl aV) rfl ?_;exact ⟨by first|rfl|(simp [aX,aY] <;> rfl)|(simp [*,aX,aY] <;> rfl),fJ HB.out iV.out jK.out⟩
            ·rw [if_neg Tq] at H;have Ug:decide (1<fD)=false:=iE Tq;clear Tq;have H':=aA.mk H;clear H;have aCX:=jL.out;have aCY:=fQ.out;have Xf:wr.cell? ⟨dI,0,none⟩=some (.string ((aG l0 bG).f0)):=(aJ bI.out 0).trans rfl;have Xg:wr.cell? ⟨dI,1,none⟩=some (.int .i64 ((aG l0 bG).f1)):=(aJ bI.out 1).trans rfl;have Xh:wr.cell? ⟨dI,2,none⟩=some (.slice kE ((aG l0 bG).f2).length jR):=(aJ bI.out 2).trans rfl;have Xi:=aI bI.out 0;have Xj:=aI bI.out 1;have Xk:=aI bI.out 2
             go_wp2
             go_loopg [7] k2 (fun kq v7 w'=>∃ (gK:Int) (kJ:Int) (jO:Int),v7=.int .i64 gK∧aA (aH.l2 kq l0 bG gK ((aG l0 bG).f0) ((aG l0 bG).f1) ((aG l0 bG).f2)=some (r1,r2))∧aA (kq≤k2)∧aA (w'.heap[fE]?=some (.cells #[.int .i64 kJ,.int .i64 jO] 27 (0,0)))∧aA (w'.heap[dI]?=some (.cells #[.string ((aG l0 bG).f0),.int .i64 ((aG l0 bG).f1),(.slice kE ((aG l0 bG).f2).length jR)] 54 (0,0)))∧aA (Below w.heap.size w w'))
             case atStart=>exact ⟨(0),(kH),(jM),fB,H',⟨Nat.le_refl _⟩,⟨by refine aU ?_;exact dB.out⟩,⟨by refine aU ?_;exact bI.out⟩,⟨fJ HB.out iV.out jK.out⟩⟩
             case round =>
              clear H';obtain ⟨gK,kJ,jO,rfl,HA,Xl,dB,bI,HB⟩:=hrel
              cases gk with
              | zero=>exact absurd HA.out (by simp [aH.l2])
              | succ k3 =>
               have H:=HA.out;clear HA;simp only [aH.l2] at H
               by_cases c46:gK<bG
               ·rw [if_pos c46] at H;have Ui:decide (gK<bG)=true:=eH c46;clear c46
                by_cases Xm:0≤gK
                ·rw [if_pos Xm] at H;have aCZ:decide (0≤gK)=true:=eH Xm;clear Xm
                 by_cases Xn:gK<(l0.length:Int)
                 ·rw [if_pos Xn] at H;have aC0:decide (gK<(l0.length:Int))=true:=eH Xn;clear Xn
                  by_cases c49:((aG l0 gK).f1)=((aG l0 bG).f1)
                  ·rw [if_pos c49] at H;have Uj:(((aG l0 gK).f1)==((aG l0 bG).f1))=true:=beq_iff_eq.mpr c49;have Uk:(((aG l0 gK).f1) != ((aG l0 bG).f1))=false:=bne_eq_false_iff_eq.mpr c49;clear c49;replace H:=Option.bind_eq_some_iff.mp H;obtain ⟨⟨t218,QL⟩,Ul,H⟩:=H;replace H:(some (t218,QL))=some (r1,r2):=H;have QH:=aA.mk Ul;clear Ul;simp only [Option.some.injEq,Prod.mk.injEq] at H;obtain ⟨rfl,rfl⟩:=H
                   try go_wp2
                   have bU:=aA.mk (iQ dB.out);have bV:=aA.mk (iQ bI.out);have bZ:=aA.mk (fZ HB.out);clear dB;clear bI;clear HB;have dB:=bU;have bI:=bV;have HB:=bZ;clear bU bV bZ;have zI:0≤(gK:Int):=dW dX;have zJ:gK<(l0.length:Int):=dW dX;obtain ⟨DF,rJ,rM,e217,kK,kL,jU,qI,qJ⟩:=lC HR0.out gK zI zJ;have nG:=jU;have nH:=kL;have nI:=kK;obtain rfl:jS=DF:=(by injection e217);replace kK:=(HB.out.cell (dJ w _ kK)).trans kK;replace kL:=(HB.out.cell (dJ w _ kL)).trans kL;replace jU:=(HB.out.cell (dJ w _ jU)).trans jU;have vS:=aA.mk qJ;have GR:=aA.mk qI;clear qJ qI;replace zI:=eq_true zI;replace zJ:=eq_true zJ
                   refine pO (n:=16) (S:=fun w'=>w'.cell? ⟨dI,0,none⟩=some (.string ((aG l0 bG).f0))∧w'.cell? ⟨dI,1,none⟩=some (.int .i64 ((aG l0 bG).f1))∧w'.cell? ⟨dI,2,none⟩=some (.slice kE ((aG l0 bG).f2).length jR)∧w'.cell? (jS.add ((gK).toNat*3))=some (.string ((aG l0 gK).f0))∧w'.cell? ⟨(jS.add ((gK).toNat*3)).block,(jS.add ((gK).toNat*3)).off+1,none⟩=some (.int .i64 ((aG l0 gK).f1))∧w'.cell? ⟨(jS.add ((gK).toNat*3)).block,(jS.add ((gK).toNat*3)).off+2,none⟩=some (.slice rJ ((aG l0 gK).f2).length rM)) (ds:=[]) #[false,false,false,false,false,false,false,false,false,false,false,false,false,false,false,false] aV rfl rfl ⟨(aJ bI.out 0).trans rfl,(aJ bI.out 1).trans rfl,(aJ bI.out 2).trans rfl,((HB.out.cell (dJ w _ nI)).trans nI),((HB.out.cell (dJ w _ nH)).trans nH),((HB.out.cell (dJ w _ nG)).trans nG)⟩ (fun hHeld=>?_);refine oJ aH.JK aH.EO (fun jA xU=>?_);generalize wr.drew=w51 at dB bI HB vS kK kL jU hHeld ⊢
                   refine dZ (i:=0) (N:=some 73) (v:=?_) (a':=?_) #[true,false,false,false,false,false,false,false,false,false,false,false,false,false,false,false] rfl rfl (dR jA.out aV) (fun _ _ _ h=>h) (dO ?_) ?_ ?_;rotate_left
                   ·intro w';go_simp;with_reducible rfl
                   rotate_left
                   ·simp only [Act.put,dD];rfl
                   refine dZ (i:=1) (N:=some 74) (v:=?_) (a':=?_) #[true,true,false,false,false,false,false,false,false,false,false,false,false,false,false,false] rfl rfl (dR jA.out aV) (fun _ _ _ h=>h) (dO ?_) ?_ ?_;rotate_left
                   ·intro w';go_simp;with_reducible rfl
                   rotate_left
                   ·simp only [Act.put,dD];rfl
                   refine dZ (i:=2) (N:=some 75) (v:=?_) (a':=?_) #[true,true,true,false,false,false,false,false,false,false,false,false,false,false,false,false] rfl rfl (dR jA.out aV) (fun _ _ _ h=>h) (dO ?_) ?_ ?_;rotate_left
                   ·intro w';go_simp;with_reducible rfl
                   rotate_left
                   ·simp only [Act.put,dD];rfl
                   refine dZ (i:=3) (N:=some 76) (v:=?_) (a':=?_) #[true,true,true,true,false,false,false,false,false,false,false,false,false,false,false,false] rfl rfl (dR jA.out aV) (fun _ _ _ h=>h) (dO ?_) ?_ ?_;rotate_left
                   ·intro w';go_simp;with_reducible rfl
                   rotate_left
                   ·simp only [Act.put,dD];rfl
                   refine dZ (i:=5) (N:=some 78) (v:=?_) (a':=?_) #[true,true,true,true,false,true,false,false,false,false,false,false,false,false,false,false] rfl rfl (dR jA.out aV) (fun _ _ _ h=>h) (dO ?_) ?_ ?_;rotate_left
                   ·intro w';go_simp;with_reducible rfl
                   rotate_left
                   ·simp only [Act.put,dD];rfl
                   refine kT (i:=4) (N:=some 77) (v:=?_) (a':=?_) #[true,true,true,true,true,true,false,false,false,false,false,false,false,false,false,false] rfl rfl (iY jA.out xU.out aV) (fun _ _ _ h=>h) (dO ?_) hHeld ?_ ?_;rotate_left
                   ·rintro w' ⟨s0,s1,s2,s3,s4,s5⟩;go_simp;with_reducible rfl
                   rotate_left
                   ·simp only [Act.put,dD];rfl
                   refine kT (i:=6) (N:=some 79) (v:=?_) (a':=?_) #[true,true,true,true,true,true,true,false,false,false,false,false,false,false,false,false] rfl rfl (iY jA.out xU.out aV) (fun _ _ _ h=>h) (dO ?_) hHeld ?_ ?_;rotate_left
                   ·rintro w' ⟨s0,s1,s2,s3,s4,s5⟩;go_simp;with_reducible rfl
                   rotate_left
                   ·simp only [Act.put,dD];rfl
                   refine dZ (i:=7) (N:=some 80) (v:=?_) (a':=?_) #[true,true,true,true,true,true,true,true,false,false,false,false,false,false,false,false] rfl rfl (dR jA.out aV) (fun _ _ _ h=>h) (dO ?_) ?_ ?_;rotate_left
                   ·intro w';go_simp;with_reducible rfl
                   rotate_left
                   ·simp only [Act.put,dD];rfl
                   refine dZ (i:=8) (N:=some 81) (v:=?_) (a':=?_) #[true,true,true,true,true,true,true,true,true,false,false,false,false,false,false,false] rfl rfl (dR jA.out aV) (fun _ _ _ h=>h) (dO ?_) ?_ ?_;rotate_left
                   ·intro w';go_simp;with_reducible rfl
                   rotate_left
                   ·simp only [Act.put,dD];rfl
                   refine dZ (i:=9) (N:=some 82) (v:=undef) (a':=?_) #[true,true,true,true,true,true,true,true,true,true,false,false,false,false,false,false] rfl rfl (dR jA.out aV) (fun _ _ _ h=>h) (Or.inr ⟨by rfl,rfl⟩) ?_ ?_;rotate_left
                   ·simp only [Act.put,dD];rfl
                   refine dZ (i:=10) (N:=some 83) (v:=undef) (a':=?_) #[true,true,true,true,true,true,true,true,true,true,true,false,false,false,false,false] rfl rfl (dR jA.out aV) (fun _ _ _ h=>h) (Or.inr ⟨by rfl,rfl⟩) ?_ ?_;rotate_left
                   ·simp only [Act.put,dD];rfl
                   refine dZ (i:=11) (N:=some 84) (v:=undef) (a':=?_) #[true,true,true,true,true,true,true,true,true,true,true,true,false,false,false,false] rfl rfl (dR jA.out aV) (fun _ _ _ h=>h) (Or.inr ⟨by rfl,rfl⟩) ?_ ?_;rotate_left
                   ·simp only [Act.put,dD];rfl
                   refine dZ (i:=12) (N:=some 85) (v:=undef) (a':=?_) #[true,true,true,true,true,true,true,true,true,true,true,true,true,false,false,false] rfl rfl (dR jA.out aV) (fun _ _ _ h=>h) (Or.inr ⟨by rfl,rfl⟩) ?_ ?_;rotate_left
                   ·simp only [Act.put,dD];rfl
                   refine dZ (i:=13) (N:=some 86) (v:=undef) (a':=?_) #[true,true,true,true,true,true,true,true,true,true,true,true,true,true,false,false] rfl rfl (dR jA.out aV) (fun _ _ _ h=>h) (Or.inr ⟨by rfl,rfl⟩) ?_ ?_;rotate_left
                   ·simp only [Act.put,dD];rfl
                   refine dZ (i:=14) (N:=some 87) (v:=undef) (a':=?_) #[true,true,true,true,true,true,true,true,true,true,true,true,true,true,true,false] rfl rfl (dR jA.out aV) (fun _ _ _ h=>h) (Or.inr ⟨by rfl,rfl⟩) ?_ ?_;rotate_left
                   ·simp only [Act.put,dD];rfl
                   refine dZ (i:=15) (N:=some 88) (v:=?_) (a':=?_) #[true,true,true,true,true,true,true,true,true,true,true,true,true,true,true,true] rfl rfl (dR jA.out aV) (fun _ _ _ h=>h) (dO ?_) ?_ ?_;rotate_left
                   ·intro w';go_simp;with_reducible rfl
                   rotate_left
                   ·simp only [Act.put,dD];rfl
                   refine sG (rO jA.out aV) ?_
                   try go_wp2_with (first|((with_reducible refine cZ (f:=23) rfl ?_);refine gQ (some 90) rfl rfl Try.func23 aV rfl #[.int .i64 7,.int .i64 bG] rfl fU ?_;(with_reducible refine (bF.calls 7 bG t218 QL _ QH.out).mono ?_);rintro e w52 ⟨rfl,hb⟩;refine ⟨_,rfl,?_⟩;have bU:=aA.mk (bJ (g:=fE) (o:=.cells #[.int .i64 kJ,.int .i64 jO] 27 (0,0)) (aU dB.out) hb);have bV:=aA.mk (bJ (g:=dI) (o:=.cells #[.string ((aG l0 bG).f0),.int .i64 ((aG l0 bG).f1),.slice kE ((aG l0 bG).f2).length jR] 54 (0,0)) (aU bI.out) hb);have bZ:=aA.mk (aN (fJ HB.out iV.out jK.out) hb);clear dB bI HB;have dB:=bU;have bI:=bV;have HB:=bZ;clear bU bV bZ;have aC1:=fQ.out;have aC2:=jL.out;have Xo:w52.cell? ⟨fE,0,none⟩=some (.int .i64 kJ):=(aJ dB.out 0).trans rfl;have Xp:w52.cell? ⟨fE,1,none⟩=some (.int .i64 jO):=(aJ dB.out 1).trans rfl;have Xq:=aI dB.out 0;have Xr:=aI dB.out 1))
                   refine bodyPost_ret (results_cell_row rfl _ _ fE 27 #[.int .i64 t218,.int .i64 QL] (0,0) _ rfl (by refine aU ?_;refine bH (cs:=#[.int .i64 t218,.int .i64 jO]) ?_ 1 _ rfl;refine aU ?_;refine bH (cs:=#[.int .i64 kJ,.int .i64 jO]) ?_ 0 _ rfl;refine aU ?_;exact dB.out) Try.underlying27 rfl aV) rfl ?_;exact ⟨by first|rfl|(simp [aX,aY] <;> rfl)|(simp [*,aX,aY] <;> rfl),fJ HB.out iV.out jK.out⟩
                  ·rw [if_neg c49] at H;have Uj:(((aG l0 gK).f1)==((aG l0 bG).f1))=false:=beq_eq_false_iff_ne.mpr c49;have Uk:(((aG l0 gK).f1) != ((aG l0 bG).f1))=true:=bne_iff_ne.mpr c49;replace H:=Option.bind_eq_some_iff.mp H;obtain ⟨Na,Um,H⟩:=H;replace H:(if Na=true then ((bF.f 7 bG).bind fun xN=>(some (xN.1,xN.2))) else (aH.l2 k3 l0 bG (wrap64 (gK+1)) ((aG l0 bG).f0) ((aG l0 bG).f1) ((aG l0 bG).f2)))=some (r1,r2):=H;have A55:=aA.mk Um;clear Um
                   by_cases Xt:Na=true
                   ·subst Xt;have H1:((bF.f 7 bG).bind fun xN=>(some (xN.1,xN.2)))=some (r1,r2):=by rw [if_pos rfl] at H;exact H
                    clear H;have H:=H1;clear H1;replace H:=Option.bind_eq_some_iff.mp H;obtain ⟨⟨t222,QM⟩,Un,H⟩:=H;replace H:(some (t222,QM))=some (r1,r2):=H;have A57:=aA.mk Un;clear Un;simp only [Option.some.injEq,Prod.mk.injEq] at H;obtain ⟨rfl,rfl⟩:=H
                    try go_wp2
                    have bU:=aA.mk (iQ dB.out);have bV:=aA.mk (iQ bI.out);have bZ:=aA.mk (fZ HB.out);clear dB;clear bI;clear HB;have dB:=bU;have bI:=bV;have HB:=bZ;clear bU bV bZ;have zI:0≤(gK:Int):=dW dX;have zJ:gK<(l0.length:Int):=dW dX;obtain ⟨DF,rJ,rM,e217,kK,kL,jU,qI,qJ⟩:=lC HR0.out gK zI zJ;have nG:=jU;have nH:=kL;have nI:=kK;obtain rfl:jS=DF:=(by injection e217);replace kK:=(HB.out.cell (dJ w _ kK)).trans kK;replace kL:=(HB.out.cell (dJ w _ kL)).trans kL;replace jU:=(HB.out.cell (dJ w _ jU)).trans jU;have vS:=aA.mk qJ;have GR:=aA.mk qI;clear qJ qI;replace zI:=eq_true zI;replace zJ:=eq_true zJ;have ET:0≤(gK:Int):=dW dX;have EU:gK<(l0.length:Int):=dW dX;obtain ⟨JQ,QN,QO,e220,nY,nZ,mO,vT,vU⟩:=lC HR0.out gK ET EU;have pF:=mO;have pG:=nZ;have pI:=nY;obtain rfl:jS=JQ:=(by injection e220);replace nY:=(HB.out.cell (dJ w _ nY)).trans nY
                    replace nZ:=(HB.out.cell (dJ w _ nZ)).trans nZ;replace mO:=(HB.out.cell (dJ w _ mO)).trans mO;have vV:=aA.mk vU;have BG:=aA.mk vT;clear vU vT;replace ET:=eq_true ET;replace EU:=eq_true EU;have EW:=Option.some.inj (jU.symm.trans mO);injection EW with EW QS QT
                    subst EW;subst QT;clear QS
                    refine pO (n:=16) (S:=fun w'=>w'.cell? ⟨dI,0,none⟩=some (.string ((aG l0 bG).f0))∧w'.cell? ⟨dI,1,none⟩=some (.int .i64 ((aG l0 bG).f1))∧w'.cell? ⟨dI,2,none⟩=some (.slice kE ((aG l0 bG).f2).length jR)∧w'.cell? (jS.add ((gK).toNat*3))=some (.string ((aG l0 gK).f0))∧w'.cell? ⟨(jS.add ((gK).toNat*3)).block,(jS.add ((gK).toNat*3)).off+1,none⟩=some (.int .i64 ((aG l0 gK).f1))∧w'.cell? ⟨(jS.add ((gK).toNat*3)).block,(jS.add ((gK).toNat*3)).off+2,none⟩=some (.slice rJ ((aG l0 gK).f2).length rM)∧w'.cell? (jS.add ((gK).toNat*3))=some (.string ((aG l0 gK).f0))∧w'.cell? ⟨(jS.add ((gK).toNat*3)).block,(jS.add ((gK).toNat*3)).off+1,none⟩=some (.int .i64 ((aG l0 gK).f1))∧w'.cell? ⟨(jS.add ((gK).toNat*3)).block,(jS.add ((gK).toNat*3)).off+2,none⟩=some (.slice rJ ((aG l0 gK).f2).length rM)) (ds:=[]) #[false,false,false,false,false,false,false,false,false,false,false,false,false,false,false,false] aV rfl rfl ⟨(aJ bI.out 0).trans rfl,(aJ bI.out 1).trans rfl,(aJ bI.out 2).trans rfl,((HB.out.cell (dJ w _ nI)).trans nI),((HB.out.cell (dJ w _ nH)).trans nH),((HB.out.cell (dJ w _ nG)).trans nG),((HB.out.cell (dJ w _ pI)).trans pI),((HB.out.cell (dJ w _ pG)).trans pG),((HB.out.cell (dJ w _ pF)).trans pF)⟩ (fun hHeld=>?_);refine oJ aH.JK aH.EO (fun jA xU=>?_)
                    generalize wr.drew=w58 at dB bI HB vS vV kK kL jU nY nZ mO hHeld ⊢;refine dZ (i:=0) (N:=some 73) (v:=?_) (a':=?_) #[true,false,false,false,false,false,false,false,false,false,false,false,false,false,false,false] rfl rfl (dR jA.out aV) (fun _ _ _ h=>h) (dO ?_) ?_ ?_;rotate_left
                    ·intro w';go_simp;with_reducible rfl
                    rotate_left
                    ·simp only [Act.put,dD];rfl
                    refine dZ (i:=1) (N:=some 74) (v:=?_) (a':=?_) #[true,true,false,false,false,false,false,false,false,false,false,false,false,false,false,false] rfl rfl (dR jA.out aV) (fun _ _ _ h=>h) (dO ?_) ?_ ?_;rotate_left
                    ·intro w';go_simp;with_reducible rfl
                    rotate_left
                    ·simp only [Act.put,dD];rfl
                    refine dZ (i:=2) (N:=some 75) (v:=?_) (a':=?_) #[true,true,true,false,false,false,false,false,false,false,false,false,false,false,false,false] rfl rfl (dR jA.out aV) (fun _ _ _ h=>h) (dO ?_) ?_ ?_;rotate_left
                    ·intro w';go_simp;with_reducible rfl
                    rotate_left
                    ·simp only [Act.put,dD];rfl
                    refine dZ (i:=3) (N:=some 76) (v:=?_) (a':=?_) #[true,true,true,true,false,false,false,false,false,false,false,false,false,false,false,false] rfl rfl (dR jA.out aV) (fun _ _ _ h=>h) (dO ?_) ?_ ?_;rotate_left
                    ·intro w';go_simp;with_reducible rfl
                    rotate_left
                    ·simp only [Act.put,dD];rfl
                    refine dZ (i:=5) (N:=some 78) (v:=?_) (a':=?_) #[true,true,true,true,false,true,false,false,false,false,false,false,false,false,false,false] rfl rfl (dR jA.out aV) (fun _ _ _ h=>h) (dO ?_) ?_ ?_;rotate_left
                    ·intro w';go_simp;with_reducible rfl
                    rotate_left
                    ·simp only [Act.put,dD];rfl
                    refine kT (i:=4) (N:=some 77) (v:=?_) (a':=?_) #[true,true,true,true,true,true,false,false,false,false,false,false,false,false,false,false] rfl rfl (iY jA.out xU.out aV) (fun _ _ _ h=>h) (dO ?_) hHeld ?_ ?_;rotate_left
                    ·rintro w' ⟨s0,s1,s2,s3,s4,s5,s6,s7,s8⟩;go_simp;with_reducible rfl
                    rotate_left
                    ·simp only [Act.put,dD];rfl
                    refine kT (i:=6) (N:=some 79) (v:=?_) (a':=?_) #[true,true,true,true,true,true,true,false,false,false,false,false,false,false,false,false] rfl rfl (iY jA.out xU.out aV) (fun _ _ _ h=>h) (dO ?_) hHeld ?_ ?_;rotate_left
                    ·rintro w' ⟨s0,s1,s2,s3,s4,s5,s6,s7,s8⟩;go_simp;with_reducible rfl
                    rotate_left
                    ·simp only [Act.put,dD];rfl
                    refine dZ (i:=7) (N:=some 80) (v:=?_) (a':=?_) #[true,true,true,true,true,true,true,true,false,false,false,false,false,false,false,false] rfl rfl (dR jA.out aV) (fun _ _ _ h=>h) (dO ?_) ?_ ?_;rotate_left
                    ·intro w';go_simp;with_reducible rfl
                    rotate_left
                    ·simp only [Act.put,dD];rfl
                    refine dZ (i:=8) (N:=some 81) (v:=?_) (a':=?_) #[true,true,true,true,true,true,true,true,true,false,false,false,false,false,false,false] rfl rfl (dR jA.out aV) (fun _ _ _ h=>h) (dO ?_) ?_ ?_;rotate_left
                    ·intro w';go_simp;with_reducible rfl
                    rotate_left
                    ·simp only [Act.put,dD];rfl
                    refine dZ (i:=9) (N:=some 82) (v:=?_) (a':=?_) #[true,true,true,true,true,true,true,true,true,true,false,false,false,false,false,false] rfl rfl (dR jA.out aV) (fun _ _ _ h=>h) (dO ?_) ?_ ?_;rotate_left
                    ·intro w';go_simp;with_reducible rfl
                    rotate_left
                    ·simp only [Act.put,dD];rfl
                    refine dZ (i:=10) (N:=some 83) (v:=?_) (a':=?_) #[true,true,true,true,true,true,true,true,true,true,true,false,false,false,false,false] rfl rfl (dR jA.out aV) (fun _ _ _ h=>h) (dO ?_) ?_ ?_;rotate_left
                    ·intro w';go_simp;with_reducible rfl
                    rotate_left
                    ·simp only [Act.put,dD];rfl
                    refine dZ (i:=11) (N:=some 84) (v:=?_) (a':=?_) #[true,true,true,true,true,true,true,true,true,true,true,true,false,false,false,false] rfl rfl (dR jA.out aV) (fun _ _ _ h=>h) (dO ?_) ?_ ?_;rotate_left
                    ·intro w';go_simp;with_reducible rfl
                    rotate_left
                    ·simp only [Act.put,dD];rfl
                    refine kT (i:=12) (N:=some 85) (v:=?_) (a':=?_) #[true,true,true,true,true,true,true,true,true,true,true,true,true,false,false,false] rfl rfl (iY jA.out xU.out aV) (fun _ _ _ h=>h) (dO ?_) hHeld ?_ ?_;rotate_left
                    ·rintro w' ⟨s0,s1,s2,s3,s4,s5,s6,s7,s8⟩;go_simp;with_reducible rfl
                    rotate_left
                    ·simp only [Act.put,dD];rfl
                    refine kT (i:=13) (N:=some 86) (v:=?_) (a':=?_) #[true,true,true,true,true,true,true,true,true,true,true,true,true,true,false,false] rfl rfl (iY jA.out xU.out aV) (fun _ _ _ h=>h) (dO ?_) hHeld ?_ ?_;rotate_left
                    ·rintro w' ⟨s0,s1,s2,s3,s4,s5,s6,s7,s8⟩;go_simp;with_reducible rfl
                    rotate_left
                    ·simp only [Act.put,dD];rfl
                    refine xW (i:=14) (N:=some 87) #[true,true,true,true,true,true,true,true,true,true,true,true,true,true,true,false] rfl rfl (sZ jA.out aV) (by decide) (fun K hK=>?_);refine DI Try.func40 aV rfl #[.agg #[.string ((aG l0 gK).f0),.int .i64 ((aG l0 gK).f1),.slice rJ ((aG l0 gK).f2).length rM],.agg #[.string ((aG l0 bG).f0),.int .i64 ((aG l0 bG).f1),.slice kE ((aG l0 bG).f2).length jR]] (by rfl) rfl rfl fU ?_
                    with_reducible refine (fF.calls k3 ((aG l0 gK).f0) ((aG l0 gK).f1) _ _ ((aG l0 gK).f2) ((aG l0 bG).f0) ((aG l0 bG).f1) _ _ ((aG l0 bG).f2) true _ ?nS ?nT ?vN ?vO A55.out).mono ?_
                    (case nS=>repeat (first|exact (Kd.gI vV.out HB.out)|(with_reducible refine Kd.gZ ?_ _)|(with_reducible refine Kd.iC ?_ _)|(with_reducible refine Kd.iU ?_)))
                    (case nT=>exact BG.out)
                    (case vN=>repeat (first|exact (Kd.gI oL.out HB.out)|(with_reducible refine Kd.gZ ?_ _)|(with_reducible refine Kd.iC ?_ _)|(with_reducible refine Kd.iU ?_)))
                    (case vO=>exact vP.out)
                    rintro e w59 ⟨rfl,hb⟩;refine ⟨_,rfl,?_⟩;have bU:=aA.mk (bJ (g:=fE) (o:=.cells #[.int .i64 kJ,.int .i64 jO] 27 (0,0)) (aU dB.out) hb);have bV:=aA.mk (bJ (g:=dI) (o:=.cells #[.string ((aG l0 bG).f0),.int .i64 ((aG l0 bG).f1),.slice kE ((aG l0 bG).f2).length jR] 54 (0,0)) (aU bI.out) hb);have bZ:=aA.mk (aN (fJ HB.out iV.out jK.out) hb);clear dB;clear bI;clear HB;have dB:=bU;have bI:=bV;have HB:=bZ;clear bU bV bZ
                    (try clear hb)
                    (try clear hb2)
                    (try clear hk)
                    (try clear hi)
                    refine hK.out _ _ ⟨(aJ bI.out 0).trans rfl,(aJ bI.out 1).trans rfl,(aJ bI.out 2).trans rfl,((HB.out.cell (dJ w _ nI)).trans nI),((HB.out.cell (dJ w _ nH)).trans nH),((HB.out.cell (dJ w _ nG)).trans nG),((HB.out.cell (dJ w _ pI)).trans pI),((HB.out.cell (dJ w _ pG)).trans pG),((HB.out.cell (dJ w _ pF)).trans pF)⟩ (fun hHeld=>?_);clear hK K;refine vW (a':=?_) ?_ ?_;rotate_left
                    ·show Act.put _ (some 87) _=_;simp only [Act.put,dD];rfl
                    refine dZ (i:=15) (N:=some 88) (v:=?_) (a':=?_) #[true,true,true,true,true,true,true,true,true,true,true,true,true,true,true,true] rfl rfl (dR jA.out aV) (fun _ _ _ h=>h) (dO ?_) ?_ ?_;rotate_left
                    ·intro w';go_simp;with_reducible rfl
                    rotate_left
                    ·simp only [Act.put,dD];rfl
                    refine sG (rO jA.out aV) ?_
                    try go_wp2_with (first|((with_reducible refine cZ (f:=23) rfl ?_);refine gQ (some 90) rfl rfl Try.func23 aV rfl #[.int .i64 7,.int .i64 bG] rfl fU ?_;(with_reducible refine (bF.calls 7 bG t222 QM _ A57.out).mono ?_);rintro e w60 ⟨rfl,hb⟩;refine ⟨_,rfl,?_⟩;have bU:=aA.mk (bJ (g:=fE) (o:=.cells #[.int .i64 kJ,.int .i64 jO] 27 (0,0)) (aU dB.out) hb);have bV:=aA.mk (bJ (g:=dI) (o:=.cells #[.string ((aG l0 bG).f0),.int .i64 ((aG l0 bG).f1),.slice kE ((aG l0 bG).f2).length jR] 54 (0,0)) (aU bI.out) hb);have bZ:=aA.mk (aN (fJ HB.out iV.out jK.out) hb);clear dB bI HB;have dB:=bU;have bI:=bV;have HB:=bZ;clear bU bV bZ;have aC3:=fQ.out;have aC4:=jL.out;have Xu:w60.cell? ⟨fE,0,none⟩=some (.int .i64 kJ):=(aJ dB.out 0).trans rfl;have Xv:w60.cell? ⟨fE,1,none⟩=some (.int .i64 jO):=(aJ dB.out 1).trans rfl;have Xw:=aI dB.out 0;have Xx:=aI dB.out 1))
                    refine bodyPost_ret (results_cell_row rfl _ _ fE 27 #[.int .i64 t222,.int .i64 QM] (0,0) _ rfl (by refine aU ?_;refine bH (cs:=#[.int .i64 t222,.int .i64 jO]) ?_ 1 _ rfl;refine aU ?_;refine bH (cs:=#[.int .i64 kJ,.int .i64 jO]) ?_ 0 _ rfl;refine aU ?_;exact dB.out) Try.underlying27 rfl aV) rfl ?_;exact ⟨by first|rfl|(simp [aX,aY] <;> rfl)|(simp [*,aX,aY] <;> rfl),fJ HB.out iV.out jK.out⟩
                   ·replace Xt:=Bool.eq_false_iff.mpr Xt;subst Xt;have H1:(aH.l2 k3 l0 bG (wrap64 (gK+1)) ((aG l0 bG).f0) ((aG l0 bG).f1) ((aG l0 bG).f2))=some (r1,r2):=by rw [if_neg (show ¬ (false=true) by decide)] at H;exact H
                    clear H;have H:=H1;clear H1;have H':=aA.mk H;clear H
                    try go_wp2
                    have bU:=aA.mk (iQ dB.out);have bV:=aA.mk (iQ bI.out);have bZ:=aA.mk (fZ HB.out);clear dB;clear bI;clear HB;have dB:=bU;have bI:=bV;have HB:=bZ;clear bU bV bZ;have zI:0≤(gK:Int):=dW dX;have zJ:gK<(l0.length:Int):=dW dX;obtain ⟨DF,rJ,rM,e217,kK,kL,jU,qI,qJ⟩:=lC HR0.out gK zI zJ;have nG:=jU;have nH:=kL;have nI:=kK;obtain rfl:jS=DF:=(by injection e217);replace kK:=(HB.out.cell (dJ w _ kK)).trans kK;replace kL:=(HB.out.cell (dJ w _ kL)).trans kL;replace jU:=(HB.out.cell (dJ w _ jU)).trans jU;have vS:=aA.mk qJ;have GR:=aA.mk qI;clear qJ qI;replace zI:=eq_true zI;replace zJ:=eq_true zJ;have ET:0≤(gK:Int):=dW dX;have EU:gK<(l0.length:Int):=dW dX;obtain ⟨JQ,QN,QO,e220,nY,nZ,mO,vT,vU⟩:=lC HR0.out gK ET EU;have pF:=mO;have pG:=nZ;have pI:=nY;obtain rfl:jS=JQ:=(by injection e220);replace nY:=(HB.out.cell (dJ w _ nY)).trans nY
                    replace nZ:=(HB.out.cell (dJ w _ nZ)).trans nZ;replace mO:=(HB.out.cell (dJ w _ mO)).trans mO;have vV:=aA.mk vU;have BG:=aA.mk vT;clear vU vT;replace ET:=eq_true ET;replace EU:=eq_true EU;have EW:=Option.some.inj (jU.symm.trans mO);injection EW with EW QS QT
                    subst EW;subst QT;clear QS
                    refine pO (n:=16) (S:=fun w'=>w'.cell? ⟨dI,0,none⟩=some (.string ((aG l0 bG).f0))∧w'.cell? ⟨dI,1,none⟩=some (.int .i64 ((aG l0 bG).f1))∧w'.cell? ⟨dI,2,none⟩=some (.slice kE ((aG l0 bG).f2).length jR)∧w'.cell? (jS.add ((gK).toNat*3))=some (.string ((aG l0 gK).f0))∧w'.cell? ⟨(jS.add ((gK).toNat*3)).block,(jS.add ((gK).toNat*3)).off+1,none⟩=some (.int .i64 ((aG l0 gK).f1))∧w'.cell? ⟨(jS.add ((gK).toNat*3)).block,(jS.add ((gK).toNat*3)).off+2,none⟩=some (.slice rJ ((aG l0 gK).f2).length rM)∧w'.cell? (jS.add ((gK).toNat*3))=some (.string ((aG l0 gK).f0))∧w'.cell? ⟨(jS.add ((gK).toNat*3)).block,(jS.add ((gK).toNat*3)).off+1,none⟩=some (.int .i64 ((aG l0 gK).f1))∧w'.cell? ⟨(jS.add ((gK).toNat*3)).block,(jS.add ((gK).toNat*3)).off+2,none⟩=some (.slice rJ ((aG l0 gK).f2).length rM)) (ds:=[]) #[false,false,false,false,false,false,false,false,false,false,false,false,false,false,false,false] aV rfl rfl ⟨(aJ bI.out 0).trans rfl,(aJ bI.out 1).trans rfl,(aJ bI.out 2).trans rfl,((HB.out.cell (dJ w _ nI)).trans nI),((HB.out.cell (dJ w _ nH)).trans nH),((HB.out.cell (dJ w _ nG)).trans nG),((HB.out.cell (dJ w _ pI)).trans pI),((HB.out.cell (dJ w _ pG)).trans pG),((HB.out.cell (dJ w _ pF)).trans pF)⟩ (fun hHeld=>?_);refine oJ aH.JK aH.EO (fun jA xU=>?_)
                    generalize wr.drew=w63 at dB bI HB vS vV kK kL jU nY nZ mO hHeld ⊢;refine dZ (i:=0) (N:=some 73) (v:=?_) (a':=?_) #[true,false,false,false,false,false,false,false,false,false,false,false,false,false,false,false] rfl rfl (dR jA.out aV) (fun _ _ _ h=>h) (dO ?_) ?_ ?_;rotate_left
                    ·intro w';go_simp;with_reducible rfl
                    rotate_left
                    ·simp only [Act.put,dD];rfl
                    refine dZ (i:=1) (N:=some 74) (v:=?_) (a':=?_) #[true,true,false,false,false,false,false,false,false,false,false,false,false,false,false,false] rfl rfl (dR jA.out aV) (fun _ _ _ h=>h) (dO ?_) ?_ ?_;rotate_left
                    ·intro w';go_simp;with_reducible rfl
                    rotate_left
                    ·simp only [Act.put,dD];rfl
                    refine dZ (i:=2) (N:=some 75) (v:=?_) (a':=?_) #[true,true,true,false,false,false,false,false,false,false,false,false,false,false,false,false] rfl rfl (dR jA.out aV) (fun _ _ _ h=>h) (dO ?_) ?_ ?_;rotate_left
                    ·intro w';go_simp;with_reducible rfl
                    rotate_left
                    ·simp only [Act.put,dD];rfl
                    refine dZ (i:=3) (N:=some 76) (v:=?_) (a':=?_) #[true,true,true,true,false,false,false,false,false,false,false,false,false,false,false,false] rfl rfl (dR jA.out aV) (fun _ _ _ h=>h) (dO ?_) ?_ ?_;rotate_left
                    ·intro w';go_simp;with_reducible rfl
                    rotate_left
                    ·simp only [Act.put,dD];rfl
                    refine dZ (i:=5) (N:=some 78) (v:=?_) (a':=?_) #[true,true,true,true,false,true,false,false,false,false,false,false,false,false,false,false] rfl rfl (dR jA.out aV) (fun _ _ _ h=>h) (dO ?_) ?_ ?_;rotate_left
                    ·intro w';go_simp;with_reducible rfl
                    rotate_left
                    ·simp only [Act.put,dD];rfl
                    refine kT (i:=4) (N:=some 77) (v:=?_) (a':=?_) #[true,true,true,true,true,true,false,false,false,false,false,false,false,false,false,false] rfl rfl (iY jA.out xU.out aV) (fun _ _ _ h=>h) (dO ?_) hHeld ?_ ?_;rotate_left
                    ·rintro w' ⟨s0,s1,s2,s3,s4,s5,s6,s7,s8⟩;go_simp;with_reducible rfl
                    rotate_left
                    ·simp only [Act.put,dD];rfl
                    refine kT (i:=6) (N:=some 79) (v:=?_) (a':=?_) #[true,true,true,true,true,true,true,false,false,false,false,false,false,false,false,false] rfl rfl (iY jA.out xU.out aV) (fun _ _ _ h=>h) (dO ?_) hHeld ?_ ?_;rotate_left
                    ·rintro w' ⟨s0,s1,s2,s3,s4,s5,s6,s7,s8⟩;go_simp;with_reducible rfl
                    rotate_left
                    ·simp only [Act.put,dD];rfl
                    refine dZ (i:=7) (N:=some 80) (v:=?_) (a':=?_) #[true,true,true,true,true,true,true,true,false,false,false,false,false,false,false,false] rfl rfl (dR jA.out aV) (fun _ _ _ h=>h) (dO ?_) ?_ ?_;rotate_left
                    ·intro w';go_simp;with_reducible rfl
                    rotate_left
                    ·simp only [Act.put,dD];rfl
                    refine dZ (i:=8) (N:=some 81) (v:=?_) (a':=?_) #[true,true,true,true,true,true,true,true,true,false,false,false,false,false,false,false] rfl rfl (dR jA.out aV) (fun _ _ _ h=>h) (dO ?_) ?_ ?_;rotate_left
                    ·intro w';go_simp;with_reducible rfl
                    rotate_left
                    ·simp only [Act.put,dD];rfl
                    refine dZ (i:=9) (N:=some 82) (v:=?_) (a':=?_) #[true,true,true,true,true,true,true,true,true,true,false,false,false,false,false,false] rfl rfl (dR jA.out aV) (fun _ _ _ h=>h) (dO ?_) ?_ ?_;rotate_left
                    ·intro w';go_simp;with_reducible rfl
                    rotate_left
                    ·simp only [Act.put,dD];rfl
                    refine dZ (i:=10) (N:=some 83) (v:=?_) (a':=?_) #[true,true,true,true,true,true,true,true,true,true,true,false,false,false,false,false] rfl rfl (dR jA.out aV) (fun _ _ _ h=>h) (dO ?_) ?_ ?_;rotate_left
                    ·intro w';go_simp;with_reducible rfl
                    rotate_left
                    ·simp only [Act.put,dD];rfl
                    refine dZ (i:=11) (N:=some 84) (v:=?_) (a':=?_) #[true,true,true,true,true,true,true,true,true,true,true,true,false,false,false,false] rfl rfl (dR jA.out aV) (fun _ _ _ h=>h) (dO ?_) ?_ ?_;rotate_left
                    ·intro w';go_simp;with_reducible rfl
                    rotate_left
                    ·simp only [Act.put,dD];rfl
                    refine kT (i:=12) (N:=some 85) (v:=?_) (a':=?_) #[true,true,true,true,true,true,true,true,true,true,true,true,true,false,false,false] rfl rfl (iY jA.out xU.out aV) (fun _ _ _ h=>h) (dO ?_) hHeld ?_ ?_;rotate_left
                    ·rintro w' ⟨s0,s1,s2,s3,s4,s5,s6,s7,s8⟩;go_simp;with_reducible rfl
                    rotate_left
                    ·simp only [Act.put,dD];rfl
                    refine kT (i:=13) (N:=some 86) (v:=?_) (a':=?_) #[true,true,true,true,true,true,true,true,true,true,true,true,true,true,false,false] rfl rfl (iY jA.out xU.out aV) (fun _ _ _ h=>h) (dO ?_) hHeld ?_ ?_;rotate_left
                    ·rintro w' ⟨s0,s1,s2,s3,s4,s5,s6,s7,s8⟩;go_simp;with_reducible rfl
                    rotate_left
                    ·simp only [Act.put,dD];rfl
                    refine xW (i:=14) (N:=some 87) #[true,true,true,true,true,true,true,true,true,true,true,true,true,true,true,false] rfl rfl (sZ jA.out aV) (by decide) (fun K hK=>?_);refine DI Try.func40 aV rfl #[.agg #[.string ((aG l0 gK).f0),.int .i64 ((aG l0 gK).f1),.slice rJ ((aG l0 gK).f2).length rM],.agg #[.string ((aG l0 bG).f0),.int .i64 ((aG l0 bG).f1),.slice kE ((aG l0 bG).f2).length jR]] (by rfl) rfl rfl fU ?_
                    with_reducible refine (fF.calls k3 ((aG l0 gK).f0) ((aG l0 gK).f1) _ _ ((aG l0 gK).f2) ((aG l0 bG).f0) ((aG l0 bG).f1) _ _ ((aG l0 bG).f2) false _ ?nS ?nT ?vN ?vO A55.out).mono ?_
                    (case nS=>repeat (first|exact (Kd.gI vV.out HB.out)|(with_reducible refine Kd.gZ ?_ _)|(with_reducible refine Kd.iC ?_ _)|(with_reducible refine Kd.iU ?_)))
                    (case nT=>exact BG.out)
                    (case vN=>repeat (first|exact (Kd.gI oL.out HB.out)|(with_reducible refine Kd.gZ ?_ _)|(with_reducible refine Kd.iC ?_ _)|(with_reducible refine Kd.iU ?_)))
                    (case vO=>exact vP.out)
                    rintro e w64 ⟨rfl,hb⟩;refine ⟨_,rfl,?_⟩;have bU:=aA.mk (bJ (g:=fE) (o:=.cells #[.int .i64 kJ,.int .i64 jO] 27 (0,0)) (aU dB.out) hb);have bV:=aA.mk (bJ (g:=dI) (o:=.cells #[.string ((aG l0 bG).f0),.int .i64 ((aG l0 bG).f1),.slice kE ((aG l0 bG).f2).length jR] 54 (0,0)) (aU bI.out) hb);have bZ:=aA.mk (aN (fJ HB.out iV.out jK.out) hb);clear dB;clear bI;clear HB;have dB:=bU;have bI:=bV;have HB:=bZ;clear bU bV bZ
                    (try clear hb)
                    (try clear hb2)
                    (try clear hk)
                    (try clear hi)
                    refine hK.out _ _ ⟨(aJ bI.out 0).trans rfl,(aJ bI.out 1).trans rfl,(aJ bI.out 2).trans rfl,((HB.out.cell (dJ w _ nI)).trans nI),((HB.out.cell (dJ w _ nH)).trans nH),((HB.out.cell (dJ w _ nG)).trans nG),((HB.out.cell (dJ w _ pI)).trans pI),((HB.out.cell (dJ w _ pG)).trans pG),((HB.out.cell (dJ w _ pF)).trans pF)⟩ (fun hHeld=>?_);clear hK K;refine vW (a':=?_) ?_ ?_;rotate_left
                    ·show Act.put _ (some 87) _=_;simp only [Act.put,dD];rfl
                    refine dZ (i:=15) (N:=some 88) (v:=?_) (a':=?_) #[true,true,true,true,true,true,true,true,true,true,true,true,true,true,true,true] rfl rfl (dR jA.out aV) (fun _ _ _ h=>h) (dO ?_) ?_ ?_;rotate_left
                    ·intro w';go_simp;with_reducible rfl
                    rotate_left
                    ·simp only [Act.put,dD];rfl
                    refine sG (rO jA.out aV) ?_
                    try go_wp2
                    go_roundg k3
                    case measure=>have:=rE.out;have:=Dk.out;have:=Xl.out;omega
                    case rel=>exact ⟨(wrap64 (gK+1)),(kJ),(jO),fB,H',⟨by have:=rE.out;have:=Dk.out;have:=Xl.out;omega⟩,⟨by refine aU ?_;exact dB.out⟩,⟨by refine aU ?_;exact bI.out⟩,⟨fJ HB.out iV.out jK.out⟩⟩
                 ·rw [if_neg Xn] at H;exact absurd H (by simp)
                ·rw [if_neg Xm] at H;exact absurd H (by simp)
               ·rw [if_neg c46] at H;have Ui:decide (gK<bG)=false:=iE c46;clear c46;have H':=aA.mk H;clear H
                go_wp2
                go_roundg k3
                case measure=>have:=rE.out;have:=Dk.out;have:=Xl.out;omega
                case rel=>exact ⟨(wrap64 (bG+1)),(kJ),(jO),fB,H',⟨by have:=rE.out;have:=Dk.out;have:=Xl.out;omega⟩,⟨by refine aU ?_;exact dB.out⟩,⟨fJ HB.out iV.out jK.out⟩⟩
       ·replace c13:=Bool.eq_false_iff.mpr c13;subst c13;have H1:((bF.f 3 bG).bind fun qH=>(some (qH.1,qH.2)))=some (r1,r2):=by rw [if_neg (show ¬ (false=true) by decide)] at H;exact H
        clear H;have H:=H1;clear H1;replace H:=Option.bind_eq_some_iff.mp H;obtain ⟨⟨t206,QU⟩,Uo,H⟩:=H;replace H:(some (t206,QU))=some (r1,r2):=H;have A65:=aA.mk Uo;clear Uo;simp only [Option.some.injEq,Prod.mk.injEq] at H;obtain ⟨rfl,rfl⟩:=H;have uT:0≤(bG:Int):=dW dX;have uU:bG<(l0.length:Int):=dW dX;obtain ⟨jS,kE,jR,EP,lD,lF,lG,nU,nV⟩:=lC HR0.out bG uT uU
        cases EP
        replace lD:=(HB.out.cell (dJ w _ lD)).trans lD;replace lF:=(HB.out.cell (dJ w _ lF)).trans lF;replace lG:=(HB.out.cell (dJ w _ lG)).trans lG;have oL:=aA.mk nV;have vP:=aA.mk nU;clear nV nU;replace uT:=eq_true uT;replace uU:=eq_true uU
        go_wp2_with (first|((with_reducible refine bC (N:=4) rfl ?_);refine eX ?hg (N:=4) ?hd (cs:=#[.string (⟨#[]⟩:ByteArray),.int .i64 0,.slice none 0 0]) (t:=54) ?hr ?_;(case hd=>rfl);(case hg=>rfl);(case hr=>first|(go_simp;done)|(go_simp;rfl));intro dI hg Zr hbox hb;have bU:=aA.mk (bJ (g:=fE) (o:=.cells #[.int .i64 fP,.int .i64 fA] 27 (0,0)) (aU dB.out) hb);have bV:=aA.mk (aN (dA HB.out iV.out) hb);have bZ:=aA.mk (hbox);have jF:=aA.mk ((by rw [hg];exact (aQ (dA HB.out iV.out)):w.heap.size≤dI));have mQ:=aA.mk ((by rw [hg];exact (aQ (dA HB.out iV.out)):w.heap.size≤dI));have mM:=aA.mk ((by rw [hg];exact Nat.ne_of_lt (gU (g:=fE) (o:=.cells #[.int .i64 fP,.int .i64 fA] 27 (0,0)) (aU dB.out)):fE≠dI));have sF:=aA.mk ((by rw [hg];exact Nat.ne_of_gt (gU (g:=fE) (o:=.cells #[.int .i64 fP,.int .i64 fA] 27 (0,0)) (aU dB.out)):dI≠fE));clear dB HB;have dB:=bU;have HB:=bV;have bI:=bZ;have DD:=jF;have jK:=mQ;have fQ:=mM;have jL:=sF;clear bU bV bZ jF mQ mM sF;clear hb hbox hg;have aC5:=jL.out;have aC6:=fQ.out;have Xy:Zr.cell? ⟨dI,0,none⟩=some (.string (⟨#[]⟩:ByteArray)):=(aJ bI.out 0).trans rfl;have Xz:Zr.cell? ⟨dI,1,none⟩=some (.int .i64 0):=(aJ bI.out 1).trans rfl;have XA:Zr.cell? ⟨dI,2,none⟩=some (.slice none 0 0):=(aJ bI.out 2).trans rfl;have XB:=aI bI.out 0;have XC:=aI bI.out 1;have XD:=aI bI.out 2)|((with_reducible refine cZ (f:=67) rfl ?_);refine gQ (some 24) rfl rfl Try.func67 aV rfl #[.string ((aG l0 bG).f0)] rfl fU ?_;(with_reducible refine (bW.calls k1 ((aG l0 bG).f0) true _ Dy.out).mono ?_);rintro e w' ⟨rfl,⟨nd,rfl⟩⟩;refine ⟨_,rfl,?_⟩)|((with_reducible refine cZ (f:=36) rfl ?_);refine gQ (some 30) rfl rfl Try.func36 aV rfl #[.int .i64 ((aG l0 bG).f1),.int .i64 0,.int .i64 255] rfl fU ?_;(with_reducible refine (dL.calls ((aG l0 bG).f1) 0 255 false _ Zo.out).mono ?_);rintro e w' ⟨rfl,⟨nd,rfl⟩⟩;refine ⟨_,rfl,?_⟩)|((with_reducible refine cZ (f:=23) rfl ?_);refine gQ (some 33) rfl rfl Try.func23 aV rfl #[.int .i64 3,.int .i64 bG] rfl fU ?_;(with_reducible refine (bF.calls 3 bG t206 QU _ A65.out).mono ?_);rintro e w69 ⟨rfl,hb⟩;refine ⟨_,rfl,?_⟩;have bU:=aA.mk (bJ (g:=fE) (o:=.cells #[.int .i64 fP,.int .i64 fA] 27 (0,0)) (by refine aU ?_;refine fO ?_ fQ.out _;refine aU ?_;refine fO ?_ fQ.out _;refine aU ?_;refine fO ?_ fQ.out _;refine aU ?_;exact dB.out) hb);have bV:=aA.mk (bJ (g:=dI) (o:=.cells #[.string ((aG l0 bG).f0),.int .i64 ((aG l0 bG).f1),.slice kE ((aG l0 bG).f2).length jR] 54 (0,0)) (by refine aU ?_;refine bH (cs:=#[.string ((aG l0 bG).f0),.int .i64 ((aG l0 bG).f1),.slice none 0 0]) ?_ 2 _ rfl;refine aU ?_;refine bH (cs:=#[.string ((aG l0 bG).f0),.int .i64 0,.slice none 0 0]) ?_ 1 _ rfl;refine aU ?_;refine bH (cs:=#[.string (⟨#[]⟩:ByteArray),.int .i64 0,.slice none 0 0]) ?_ 0 _ rfl;refine aU ?_;exact bI.out) hb);have bZ:=aA.mk (aN (fJ HB.out iV.out jK.out) hb);clear dB bI HB;have dB:=bU;have bI:=bV;have HB:=bZ;clear bU bV bZ;have XE:w69.cell? ⟨fE,0,none⟩=some (.int .i64 fP):=(aJ dB.out 0).trans rfl;have XF:w69.cell? ⟨fE,1,none⟩=some (.int .i64 fA):=(aJ dB.out 1).trans rfl;have XG:=aI dB.out 0;have XH:=aI dB.out 1))
        refine bodyPost_ret (results_cell_row rfl _ _ fE 27 #[.int .i64 t206,.int .i64 QU] (0,0) _ rfl (by refine aU ?_;refine bH (cs:=#[.int .i64 t206,.int .i64 fA]) ?_ 1 _ rfl;refine aU ?_;refine bH (cs:=#[.int .i64 fP,.int .i64 fA]) ?_ 0 _ rfl;refine aU ?_;exact dB.out) Try.underlying27 rfl aV) rfl ?_;exact ⟨by first|rfl|(simp [aX,aY] <;> rfl)|(simp [*,aX,aY] <;> rfl),fJ HB.out iV.out jK.out⟩
      ·replace c11:=Bool.eq_false_iff.mpr c11;subst c11;have H1:((bF.f 12 bG).bind fun xK=>(some (xK.1,xK.2)))=some (r1,r2):=by rw [if_neg (show ¬ (false=true) by decide)] at H;exact H
       clear H;have H:=H1;clear H1;replace H:=Option.bind_eq_some_iff.mp H;obtain ⟨⟨t203,vX⟩,Ur,H⟩:=H;replace H:(some (t203,vX))=some (r1,r2):=H;have A71:=aA.mk Ur;clear Ur;simp only [Option.some.injEq,Prod.mk.injEq] at H;obtain ⟨rfl,rfl⟩:=H;have uT:0≤(bG:Int):=dW dX;have uU:bG<(l0.length:Int):=dW dX;obtain ⟨jS,kE,jR,EP,lD,lF,lG,nU,nV⟩:=lC HR0.out bG uT uU
       cases EP
       replace lD:=(HB.out.cell (dJ w _ lD)).trans lD;replace lF:=(HB.out.cell (dJ w _ lF)).trans lF;replace lG:=(HB.out.cell (dJ w _ lG)).trans lG;have oL:=aA.mk nV;have vP:=aA.mk nU;clear nV nU;replace uT:=eq_true uT;replace uU:=eq_true uU
       go_wp2_with (first|((with_reducible refine bC (N:=4) rfl ?_);refine eX ?hg (N:=4) ?hd (cs:=#[.string (⟨#[]⟩:ByteArray),.int .i64 0,.slice none 0 0]) (t:=54) ?hr ?_;(case hd=>rfl);(case hg=>rfl);(case hr=>first|(go_simp;done)|(go_simp;rfl));intro dI hg Zt hbox hb;have bU:=aA.mk (bJ (g:=fE) (o:=.cells #[.int .i64 fP,.int .i64 fA] 27 (0,0)) (aU dB.out) hb);have bV:=aA.mk (aN (dA HB.out iV.out) hb);have bZ:=aA.mk (hbox);have jF:=aA.mk ((by rw [hg];exact (aQ (dA HB.out iV.out)):w.heap.size≤dI));have mQ:=aA.mk ((by rw [hg];exact (aQ (dA HB.out iV.out)):w.heap.size≤dI));have mM:=aA.mk ((by rw [hg];exact Nat.ne_of_lt (gU (g:=fE) (o:=.cells #[.int .i64 fP,.int .i64 fA] 27 (0,0)) (aU dB.out)):fE≠dI));have sF:=aA.mk ((by rw [hg];exact Nat.ne_of_gt (gU (g:=fE) (o:=.cells #[.int .i64 fP,.int .i64 fA] 27 (0,0)) (aU dB.out)):dI≠fE));clear dB HB;have dB:=bU;have HB:=bV;have bI:=bZ;have DD:=jF;have jK:=mQ;have fQ:=mM;have jL:=sF;clear bU bV bZ jF mQ mM sF;clear hb hbox hg;have aC7:=jL.out;have aC8:=fQ.out;have XI:Zt.cell? ⟨dI,0,none⟩=some (.string (⟨#[]⟩:ByteArray)):=(aJ bI.out 0).trans rfl;have XJ:Zt.cell? ⟨dI,1,none⟩=some (.int .i64 0):=(aJ bI.out 1).trans rfl;have XK:Zt.cell? ⟨dI,2,none⟩=some (.slice none 0 0):=(aJ bI.out 2).trans rfl;have XL:=aI bI.out 0;have XM:=aI bI.out 1;have XN:=aI bI.out 2)|((with_reducible refine cZ (f:=67) rfl ?_);refine gQ (some 24) rfl rfl Try.func67 aV rfl #[.string ((aG l0 bG).f0)] rfl fU ?_;(with_reducible refine (bW.calls k1 ((aG l0 bG).f0) false _ Dy.out).mono ?_);rintro e w' ⟨rfl,⟨nd,rfl⟩⟩;refine ⟨_,rfl,?_⟩)|((with_reducible refine cZ (f:=23) rfl ?_);refine gQ (some 27) rfl rfl Try.func23 aV rfl #[.int .i64 12,.int .i64 bG] rfl fU ?_;(with_reducible refine (bF.calls 12 bG t203 vX _ A71.out).mono ?_);rintro e w75 ⟨rfl,hb⟩;refine ⟨_,rfl,?_⟩;have bU:=aA.mk (bJ (g:=fE) (o:=.cells #[.int .i64 fP,.int .i64 fA] 27 (0,0)) (by refine aU ?_;refine fO ?_ fQ.out _;refine aU ?_;refine fO ?_ fQ.out _;refine aU ?_;refine fO ?_ fQ.out _;refine aU ?_;exact dB.out) hb);have bV:=aA.mk (bJ (g:=dI) (o:=.cells #[.string ((aG l0 bG).f0),.int .i64 ((aG l0 bG).f1),.slice kE ((aG l0 bG).f2).length jR] 54 (0,0)) (by refine aU ?_;refine bH (cs:=#[.string ((aG l0 bG).f0),.int .i64 ((aG l0 bG).f1),.slice none 0 0]) ?_ 2 _ rfl;refine aU ?_;refine bH (cs:=#[.string ((aG l0 bG).f0),.int .i64 0,.slice none 0 0]) ?_ 1 _ rfl;refine aU ?_;refine bH (cs:=#[.string (⟨#[]⟩:ByteArray),.int .i64 0,.slice none 0 0]) ?_ 0 _ rfl;refine aU ?_;exact bI.out) hb);have bZ:=aA.mk (aN (fJ HB.out iV.out jK.out) hb);clear dB bI HB;have dB:=bU;have bI:=bV;have HB:=bZ;clear bU bV bZ;have XO:w75.cell? ⟨fE,0,none⟩=some (.int .i64 fP):=(aJ dB.out 0).trans rfl;have XP:w75.cell? ⟨fE,1,none⟩=some (.int .i64 fA):=(aJ dB.out 1).trans rfl;have XQ:=aI dB.out 0;have XR:=aI dB.out 1))
       refine bodyPost_ret (results_cell_row rfl _ _ fE 27 #[.int .i64 t203,.int .i64 vX] (0,0) _ rfl (by refine aU ?_;refine bH (cs:=#[.int .i64 t203,.int .i64 fA]) ?_ 1 _ rfl;refine aU ?_;refine bH (cs:=#[.int .i64 fP,.int .i64 fA]) ?_ 0 _ rfl;refine aU ?_;exact dB.out) Try.underlying27 rfl aV) rfl ?_;exact ⟨by first|rfl|(simp [aX,aY] <;> rfl)|(simp [*,aX,aY] <;> rfl),fJ HB.out iV.out jK.out⟩
     ·rw [if_neg c9] at H;exact absurd H (by simp)
    ·rw [if_neg c8] at H;have Dt:decide (bG<(l0.length:Int))=false:=iE c8;clear c8;simp only [Option.some.injEq,Prod.mk.injEq] at H;obtain ⟨rfl,rfl⟩:=H;have XT:wr.cell? ⟨fE,0,none⟩=some (.int .i64 fP):=(aJ dB.out 0).trans rfl;have XU:wr.cell? ⟨fE,1,none⟩=some (.int .i64 fA):=(aJ dB.out 1).trans rfl;have XV:=aI dB.out 0;have XW:=aI dB.out 1
     go_wp2
     refine bodyPost_ret (results_cell_row rfl _ _ fE 27 #[.int .i64 0,.int .i64 0] (0,0) _ rfl (by refine aU ?_;refine bH (cs:=#[.int .i64 0,.int .i64 fA]) ?_ 1 _ rfl;refine aU ?_;refine bH (cs:=#[.int .i64 fP,.int .i64 fA]) ?_ 0 _ rfl;refine aU ?_;exact dB.out) Try.underlying27 rfl aV) rfl ?_;exact ⟨by first|rfl|(simp [aX,aY] <;> rfl)|(simp [*,aX,aY] <;> rfl),dA HB.out iV.out⟩
end Go.Proofs.Ytipjpdiianopcaa.A
