/- Words and contracts for the laws of encode. -/
import Derived.Test.YtipjpdiianopcaaqAx0
import Derived.Test.YtipjpdiianopcaaqAx2
import Derived.Test.YtipjpdiianopcaaqAx7
import Derived.Test.YtipjpdiianopcaaqAx8
namespace Go.Proofs.Ytipjpdiianopcaa.A
open Go.RowKit Go.Proofs.YtipjpdiianopcaaW.dF Go.Proofs.YtipjpdiianopcaaW.fO Go.Proofs.YtipjpdiianopcaaW.jP
attribute [local go_sem] mV mW oO oP lC lD mX mY
set_option linter.unusedVariables false
set_option linter.unusedSimpArgs false
mutual
def bC.l0:Nat→List (nJ)→Int→Option (Int × Int)
 | 0,_,_=>none
 | k+1,x0,x3=>if x3<(x0.length:Int) then (if 0≤x3 then ((iC.f k ((aI x0 x3).f0)).bind fun aMw=>(if aMw=true then ((bI.f ((aI x0 x3).f1) 0 255).bind fun LY=>(if LY=true then (if (((aI x0 x3).f2).length:Int)>4 then ((bD.f 2 x3).bind fun JM=>(some (JM.1,JM.2))) else (bC.l1 k x0 x3 0 0 ((aI x0 x3).f0) ((aI x0 x3).f1) ((aI x0 x3).f2))) else ((bD.f 3 x3).bind fun JO=>(some (JO.1,JO.2))))) else ((bD.f 12 x3).bind fun Vk=>(some (Vk.1,Vk.2))))) else (none)) else (some (0,0))
def bC.l1:Nat→List (nJ)→Int→Int→Int→ByteArray→Int→List Int→Option (Int × Int)
 | 0,_,_,_,_,_,_,_=>none
 | k+1,x0,x3,x5,x6,Pq,LZ,IJ=>if x6<(IJ.length:Int) then (if 0≤x6 then ((bI.f (rd IJ x6) 1 6).bind fun Kt=>(if Kt=true then (if (rd IJ x6)≥5 then (bC.l1 k x0 x3 (wrap64 (x5+1)) (wrap64 (x6+1)) Pq LZ IJ) else (bC.l1 k x0 x3 x5 (wrap64 (x6+1)) Pq LZ IJ)) else ((bD.f 4 x3).bind fun Vl=>(some (Vl.1,Vl.2))))) else (none)) else (if x5>1 then ((bD.f 5 x3).bind fun aPc=>(some (aPc.1,aPc.2))) else (bC.l2 k x0 x3 0 Pq LZ IJ))
def bC.l2:Nat→List (nJ)→Int→Int→ByteArray→Int→List Int→Option (Int × Int)
 | 0,_,_,_,_,_,_=>none
 | k+1,x0,x3,x7,Pq,LZ,IJ=>if x7<x3 then (if 0≤x7 then (if x7<(x0.length:Int) then (if ((aI x0 x7).f1)=LZ then ((bD.f 7 x3).bind fun aPd=>(some (aPd.1,aPd.2))) else ((pM.f k ((aI x0 x7).f0) ((aI x0 x7).f1) ((aI x0 x7).f2) Pq LZ IJ).bind fun Nz=>(if Nz=true then ((bD.f 7 x3).bind fun Vm=>(some (Vm.1,Vm.2))) else (bC.l2 k x0 x3 (wrap64 (x7+1)) Pq LZ IJ)))) else (none)) else (none)) else (bC.l0 k x0 (wrap64 (x3+1)))
end
def bC.f (k:Nat) (l0:List (nJ)):Option (Int × Int):=if (l0.length:Int)>100 then ((bD.f 2 (-1)).bind fun aCj=>(some (aCj.1,aCj.2))) else (bC.l0 k l0 0)
def bC.T26:Bool × List (List Nat × List Nat):=(true,[([],[]),([],[]),([0,1],[0,1]),([2],[2]),([3],[3]),([],[]),([5],[5]),([4,6],[4,6]),([7],[7]),([8],[8]),([8],[8]),([9,10,8],[8,9,10]),([11,8],[8,11]),([8],[8]),([12,13,8,8],[8,12,13]),([8,14],[8,14])])
def bC.B26:List Nat:=[0,0,3,7,15,0,32,127,255,511,511,2047,4095,511,16383,32767]
theorem bC.aJv:Ap .any (opsOf Try.f34 26)=bC.T26:=by kernel_rfl
theorem bC.aDT:uF bC.T26.2 bC.B26=true:=by kernel_rfl
set_option maxHeartbeats 8000000 in
set_option maxRecDepth 100000 in
theorem bC.calls (k:Nat) (A0:Option Addr) (c0:Nat) (l0:List (nJ)) (r1:Int) (r2:Int) (w:World) (hr0:Kd.C Nv w A0 l0.length l0) (hc0:l0.length≤c0) (h:bC.f k l0=some (r1,r2)) :
  Calls Try.prog 34 #[.slice A0 l0.length c0] w fun e w'=>e=.returned (.agg #[.int .i64 r1,.int .i64 r2])∧Below w.heap.size w w':=by
 have NL:=Try.underlying27
 have Jf:=Try.underlying54
 have HR0:=aA.mk hr0
 have Am:=aA.mk hc0
 clear hr0 hc0
 have HB:=aA.mk (Below.refl w.heap.size w)
 have H:(if (l0.length:Int)>100 then ((bD.f 2 (-1)).bind fun aCj=>(some (aCj.1,aCj.2))) else (bC.l0 k l0 0))=some (r1,r2):=h
 clear h
 by_cases c2:(l0.length:Int)>100
 ·rw [if_pos c2] at H
  have aAy:decide (100<(l0.length:Int))=true:=fB c2
  have aIL:decide (100<l0.length)=true:=fB (by omega)
  clear c2
  replace H:=Option.bind_eq_some_iff.mp H
  obtain ⟨⟨t198,QC⟩,Wi,H⟩:=H
  replace H:(some (t198,QC))=some (r1,r2):=H
  have A3:=aA.mk Wi
  clear Wi
  simp only [Option.some.injEq,Prod.mk.injEq] at H
  obtain ⟨rfl,rfl⟩:=H
  go_enter Try.func34,Try.ntmps34
  go_wp2_with (first|((with_reducible refine dH (N:=2) rfl ?_);refine dB ?hg (N:=2) ?hd (cs:=#[.int .i64 0,.int .i64 0]) (t:=27) ?hr ?_;(case hd=>rfl);(case hg=>rfl);(case hr=>first|(go_simp;done)|(go_simp;rfl));intro mP hg w4 hbox hb;have bT:=aA.mk (aT (dG HB.out) hb);have bW:=aA.mk (hbox);have dA:=aA.mk ((by rw [hg];exact (aN (dG HB.out)):w.heap.size≤mP));have dN:=aA.mk ((by rw [hg];exact (aN (dG HB.out)):w.heap.size≤mP));clear HB;have HB:=bT;have iL:=bW;have aV1:=dA;have uI:=dN;clear bT bW dA dN;clear hb hbox hg)|((with_reducible refine cO (f:=23) rfl ?_);refine gI (some 11) rfl rfl Try.func23 aQ rfl #[.int .i64 2,.int .i64 (-1)] rfl fP ?_;(with_reducible refine (bD.calls 2 (-1) t198 QC _ A3.out).mono ?_);rintro e w5 ⟨rfl,hb⟩;refine ⟨_,rfl,?_⟩;have bT:=aA.mk (aK (g:=mP) (o:=.cells #[.int .i64 0,.int .i64 0] 27 (0,0)) (aH iL.out) hb);have bW:=aA.mk (aT (bV HB.out uI.out) hb);clear iL HB;have iL:=bT;have HB:=bW;clear bT bW;have aAt:w5.cell? ⟨mP,0,none⟩=some (.int .i64 0):=(aC iL.out 0).trans rfl;have aAu:w5.cell? ⟨mP,1,none⟩=some (.int .i64 0):=(aC iL.out 1).trans rfl;have aAv:=aG iL.out 0;have aAw:=aG iL.out 1))
  refine bodyPost_ret (results_cell_row rfl _ _ mP 27 #[.int .i64 t198,.int .i64 QC] (0,0) _ rfl (by refine aH ?_;refine aY (cs:=#[.int .i64 t198,.int .i64 0]) ?_ 1 _ rfl;refine aH ?_;refine aY (cs:=#[.int .i64 0,.int .i64 0]) ?_ 0 _ rfl;refine aH ?_;exact iL.out) Try.underlying27 rfl aQ) rfl ?_
  exact ⟨by first|rfl|(simp [bK,bM] <;> rfl)|(simp [*,bK,bM] <;> rfl),bV HB.out uI.out⟩
 ·rw [if_neg c2] at H
  have aAy:decide (100<(l0.length:Int))=false:=kT c2
  have aIL:decide (100<l0.length)=false:=kT (by omega)
  clear c2
  have H':=aA.mk H
  clear H
  go_enter Try.func34,Try.ntmps34
  go_wp2_with (first|((with_reducible refine dH (N:=2) rfl ?_);refine dB ?hg (N:=2) ?hd (cs:=#[.int .i64 0,.int .i64 0]) (t:=27) ?hr ?_;(case hd=>rfl);(case hg=>rfl);(case hr=>first|(go_simp;done)|(go_simp;rfl));intro mP hg w7 hbox hb;have bT:=aA.mk (aT (dG HB.out) hb);have bW:=aA.mk (hbox);have dA:=aA.mk ((by rw [hg];exact (aN (dG HB.out)):w.heap.size≤mP));have dN:=aA.mk ((by rw [hg];exact (aN (dG HB.out)):w.heap.size≤mP));clear HB;have HB:=bT;have iL:=bW;have aV1:=dA;have uI:=dN;clear bT bW dA dN;clear hb hbox hg))
  go_loopg [3] k (fun kq v3 w'=>∃ (fF:Int) (nM:Int) (lQ:Int),v3=.int .i64 fF∧aA (bC.l0 kq l0 fF=some (r1,r2))∧aA (kq≤k)∧aA (w'.heap[mP]?=some (.cells #[.int .i64 nM,.int .i64 lQ] 27 (0,0)))∧aA (Below w.heap.size w w'))
  case atStart=>exact ⟨(0),(0),(0),gV,H',⟨Nat.le_refl _⟩,⟨by refine aH ?_;exact iL.out⟩,⟨bV HB.out uI.out⟩⟩
  case round =>
   clear H';obtain ⟨fF,nM,lQ,rfl,HA,wU,iL,HB⟩:=hrel
   cases gk with
   | zero=>exact absurd HA.out (by simp [bC.l0])
   | succ k1 =>
    have H:=HA.out;clear HA;simp only [bC.l0] at H
    by_cases c8:fF<(l0.length:Int)
    ·rw [if_pos c8] at H;have XU:decide (fF<(l0.length:Int))=true:=fB c8;clear c8
     by_cases c9:0≤fF
     ·rw [if_pos c9] at H;have aBP:decide (0≤fF)=true:=fB c9;clear c9;replace H:=Option.bind_eq_some_iff.mp H;obtain ⟨aMw,Yd,H⟩:=H;replace H:(if aMw=true then ((bI.f ((aI l0 fF).f1) 0 255).bind fun LY=>(if LY=true then (if (((aI l0 fF).f2).length:Int)>4 then ((bD.f 2 fF).bind fun JM=>(some (JM.1,JM.2))) else (bC.l1 k1 l0 fF 0 0 ((aI l0 fF).f0) ((aI l0 fF).f1) ((aI l0 fF).f2))) else ((bD.f 3 fF).bind fun JO=>(some (JO.1,JO.2))))) else ((bD.f 12 fF).bind fun Vk=>(some (Vk.1,Vk.2))))=some (r1,r2):=H;have A10:=aA.mk Yd;clear Yd
      by_cases c11:aMw=true
      ·subst c11;have H1:((bI.f ((aI l0 fF).f1) 0 255).bind fun LY=>(if LY=true then (if (((aI l0 fF).f2).length:Int)>4 then ((bD.f 2 fF).bind fun JM=>(some (JM.1,JM.2))) else (bC.l1 k1 l0 fF 0 0 ((aI l0 fF).f0) ((aI l0 fF).f1) ((aI l0 fF).f2))) else ((bD.f 3 fF).bind fun JO=>(some (JO.1,JO.2)))))=some (r1,r2):=by rw [if_pos rfl] at H;exact H
       clear H;have H:=H1;clear H1;replace H:=Option.bind_eq_some_iff.mp H;obtain ⟨LY,aJw,H⟩:=H;replace H:(if LY=true then (if (((aI l0 fF).f2).length:Int)>4 then ((bD.f 2 fF).bind fun JM=>(some (JM.1,JM.2))) else (bC.l1 k1 l0 fF 0 0 ((aI l0 fF).f0) ((aI l0 fF).f1) ((aI l0 fF).f2))) else ((bD.f 3 fF).bind fun JO=>(some (JO.1,JO.2))))=some (r1,r2):=H;have A12:=aA.mk aJw;clear aJw
       by_cases c13:LY=true
       ·subst c13;have H1:(if (((aI l0 fF).f2).length:Int)>4 then ((bD.f 2 fF).bind fun JM=>(some (JM.1,JM.2))) else (bC.l1 k1 l0 fF 0 0 ((aI l0 fF).f0) ((aI l0 fF).f1) ((aI l0 fF).f2)))=some (r1,r2):=by rw [if_pos rfl] at H;exact H
        clear H;have H:=H1;clear H1
        by_cases c14:(((aI l0 fF).f2).length:Int)>4
        ·rw [if_pos c14] at H;have QN:decide (4<(((aI l0 fF).f2).length:Int))=true:=fB c14;have aJx:decide (4<((aI l0 fF).f2).length)=true:=fB (by omega);clear c14;replace H:=Option.bind_eq_some_iff.mp H;obtain ⟨⟨t208,DN⟩,Yf,H⟩:=H;replace H:(some (t208,DN))=some (r1,r2):=H;have A15:=aA.mk Yf;clear Yf;simp only [Option.some.injEq,Prod.mk.injEq] at H;obtain ⟨rfl,rfl⟩:=H;have QD:0≤(fF:Int):=dU dW;have QE:fF<(l0.length:Int):=dU dW;obtain ⟨xW,yI,xO,aDU,AP,AQ,AU,Ff,Fg⟩:=rJ HR0.out fF QD QE
         cases aDU
         replace AP:=(HB.out.cell (dM w _ AP)).trans AP;replace AQ:=(HB.out.cell (dM w _ AQ)).trans AQ;replace AU:=(HB.out.cell (dM w _ AU)).trans AU;have GN:=aA.mk Fg;have RZ:=aA.mk Ff;clear Fg Ff;replace QD:=eq_true QD;replace QE:=eq_true QE
         go_wp2_with (first|((with_reducible refine dH (N:=4) rfl ?_);refine dB ?hg (N:=4) ?hd (cs:=#[.string (⟨#[]⟩:ByteArray),.int .i64 0,.slice none 0 0]) (t:=54) ?hr ?_;(case hd=>rfl);(case hg=>rfl);(case hr=>first|(go_simp;done)|(go_simp;rfl));intro mO hg w16 hbox hb;have bT:=aA.mk (aK (g:=mP) (o:=.cells #[.int .i64 nM,.int .i64 lQ] 27 (0,0)) (aH iL.out) hb);have bW:=aA.mk (aT (bV HB.out uI.out) hb);have dA:=aA.mk (hbox);have dN:=aA.mk ((by rw [hg];exact (aN (bV HB.out uI.out)):w.heap.size≤mO));have eY:=aA.mk ((by rw [hg];exact (aN (bV HB.out uI.out)):w.heap.size≤mO));have fV:=aA.mk ((by rw [hg];exact Nat.ne_of_lt (bU (g:=mP) (o:=.cells #[.int .i64 nM,.int .i64 lQ] 27 (0,0)) (aH iL.out)):mP≠mO));have jA:=aA.mk ((by rw [hg];exact Nat.ne_of_gt (bU (g:=mP) (o:=.cells #[.int .i64 nM,.int .i64 lQ] 27 (0,0)) (aH iL.out)):mO≠mP));clear iL HB;have iL:=bT;have HB:=bW;have iM:=dA;have aJy:=dN;have Aw:=eY;have nN:=fV;have xA:=jA;clear bT bW dA dN eY fV jA;clear hb hbox hg;have aBK:=xA.out;have aBL:=nN.out;have Wj:w16.cell? ⟨mO,0,none⟩=some (.string (⟨#[]⟩:ByteArray)):=(aC iM.out 0).trans rfl;have Wl:w16.cell? ⟨mO,1,none⟩=some (.int .i64 0):=(aC iM.out 1).trans rfl;have bCp:w16.cell? ⟨mO,2,none⟩=some (.slice none 0 0):=(aC iM.out 2).trans rfl;have Wn:=aG iM.out 0;have Wp:=aG iM.out 1;have bCq:=aG iM.out 2)|((with_reducible refine cO (f:=67) rfl ?_);refine gI (some 24) rfl rfl Try.func67 aQ rfl #[.string ((aI l0 fF).f0)] rfl fP ?_;(with_reducible refine (iC.calls k1 ((aI l0 fF).f0) true _ A10.out).mono ?_);rintro e w' ⟨rfl,⟨nd,rfl⟩⟩;refine ⟨_,rfl,?_⟩)|((with_reducible refine cO (f:=36) rfl ?_);refine gI (some 30) rfl rfl Try.func36 aQ rfl #[.int .i64 ((aI l0 fF).f1),.int .i64 0,.int .i64 255] rfl fP ?_;(with_reducible refine (bI.calls ((aI l0 fF).f1) 0 255 true _ A12.out).mono ?_);rintro e w' ⟨rfl,⟨nd,rfl⟩⟩;refine ⟨_,rfl,?_⟩)|((with_reducible refine cO (f:=23) rfl ?_);refine gI (some 39) rfl rfl Try.func23 aQ rfl #[.int .i64 2,.int .i64 fF] rfl fP ?_;(with_reducible refine (bD.calls 2 fF t208 DN _ A15.out).mono ?_);rintro e XX ⟨rfl,hb⟩;refine ⟨_,rfl,?_⟩;have bT:=aA.mk (aK (g:=mP) (o:=.cells #[.int .i64 nM,.int .i64 lQ] 27 (0,0)) (by refine aH ?_;refine aU ?_ nN.out _;refine aH ?_;refine aU ?_ nN.out _;refine aH ?_;refine aU ?_ nN.out _;refine aH ?_;exact iL.out) hb);have bW:=aA.mk (aK (g:=mO) (o:=.cells #[.string ((aI l0 fF).f0),.int .i64 ((aI l0 fF).f1),.slice yI ((aI l0 fF).f2).length xO] 54 (0,0)) (by refine aH ?_;refine aY (cs:=#[.string ((aI l0 fF).f0),.int .i64 ((aI l0 fF).f1),.slice none 0 0]) ?_ 2 _ rfl;refine aH ?_;refine aY (cs:=#[.string ((aI l0 fF).f0),.int .i64 0,.slice none 0 0]) ?_ 1 _ rfl;refine aH ?_;refine aY (cs:=#[.string (⟨#[]⟩:ByteArray),.int .i64 0,.slice none 0 0]) ?_ 0 _ rfl;refine aH ?_;exact iM.out) hb);have dA:=aA.mk (aT (dK HB.out uI.out Aw.out) hb);clear iL iM HB;have iL:=bT;have iM:=bW;have HB:=dA;clear bT bW dA;have aMx:XX.cell? ⟨mP,0,none⟩=some (.int .i64 nM):=(aC iL.out 0).trans rfl;have aMy:XX.cell? ⟨mP,1,none⟩=some (.int .i64 lQ):=(aC iL.out 1).trans rfl;have aMz:=aG iL.out 0;have aMA:=aG iL.out 1))
         refine bodyPost_ret (results_cell_row rfl _ _ mP 27 #[.int .i64 t208,.int .i64 DN] (0,0) _ rfl (by refine aH ?_;refine aY (cs:=#[.int .i64 t208,.int .i64 lQ]) ?_ 1 _ rfl;refine aH ?_;refine aY (cs:=#[.int .i64 nM,.int .i64 lQ]) ?_ 0 _ rfl;refine aH ?_;exact iL.out) Try.underlying27 rfl aQ) rfl ?_;exact ⟨by first|rfl|(simp [bK,bM] <;> rfl)|(simp [*,bK,bM] <;> rfl),dK HB.out uI.out Aw.out⟩
        ·rw [if_neg c14] at H;have QN:decide (4<(((aI l0 fF).f2).length:Int))=false:=kT c14;have aJx:decide (4<((aI l0 fF).f2).length)=false:=kT (by omega);clear c14;have H':=aA.mk H;clear H;have QD:0≤(fF:Int):=dU dW;have QE:fF<(l0.length:Int):=dU dW;obtain ⟨xW,yI,xO,aDU,AP,AQ,AU,Ff,Fg⟩:=rJ HR0.out fF QD QE
         cases aDU
         replace AP:=(HB.out.cell (dM w _ AP)).trans AP;replace AQ:=(HB.out.cell (dM w _ AQ)).trans AQ;replace AU:=(HB.out.cell (dM w _ AU)).trans AU;have GN:=aA.mk Fg;have RZ:=aA.mk Ff;clear Fg Ff;replace QD:=eq_true QD;replace QE:=eq_true QE
         go_wp2_with (first|((with_reducible refine dH (N:=4) rfl ?_);refine dB ?hg (N:=4) ?hd (cs:=#[.string (⟨#[]⟩:ByteArray),.int .i64 0,.slice none 0 0]) (t:=54) ?hr ?_;(case hd=>rfl);(case hg=>rfl);(case hr=>first|(go_simp;done)|(go_simp;rfl));intro mO hg Rf hbox hb;have bT:=aA.mk (aK (g:=mP) (o:=.cells #[.int .i64 nM,.int .i64 lQ] 27 (0,0)) (aH iL.out) hb);have bW:=aA.mk (aT (bV HB.out uI.out) hb);have dA:=aA.mk (hbox);have dN:=aA.mk ((by rw [hg];exact (aN (bV HB.out uI.out)):w.heap.size≤mO));have eY:=aA.mk ((by rw [hg];exact (aN (bV HB.out uI.out)):w.heap.size≤mO));have fV:=aA.mk ((by rw [hg];exact Nat.ne_of_lt (bU (g:=mP) (o:=.cells #[.int .i64 nM,.int .i64 lQ] 27 (0,0)) (aH iL.out)):mP≠mO));have jA:=aA.mk ((by rw [hg];exact Nat.ne_of_gt (bU (g:=mP) (o:=.cells #[.int .i64 nM,.int .i64 lQ] 27 (0,0)) (aH iL.out)):mO≠mP));clear iL HB;have iL:=bT;have HB:=bW;have iM:=dA;have aJy:=dN;have Aw:=eY;have nN:=fV;have xA:=jA;clear bT bW dA dN eY fV jA;clear hb hbox hg;have aPe:=xA.out;have aPf:=nN.out;have aFc:Rf.cell? ⟨mO,0,none⟩=some (.string (⟨#[]⟩:ByteArray)):=(aC iM.out 0).trans rfl;have aFd:Rf.cell? ⟨mO,1,none⟩=some (.int .i64 0):=(aC iM.out 1).trans rfl;have aFe:Rf.cell? ⟨mO,2,none⟩=some (.slice none 0 0):=(aC iM.out 2).trans rfl;have aFf:=aG iM.out 0;have aFg:=aG iM.out 1;have aFh:=aG iM.out 2)|((with_reducible refine cO (f:=67) rfl ?_);refine gI (some 24) rfl rfl Try.func67 aQ rfl #[.string ((aI l0 fF).f0)] rfl fP ?_;(with_reducible refine (iC.calls k1 ((aI l0 fF).f0) true _ A10.out).mono ?_);rintro e w' ⟨rfl,⟨nd,rfl⟩⟩;refine ⟨_,rfl,?_⟩)|((with_reducible refine cO (f:=36) rfl ?_);refine gI (some 30) rfl rfl Try.func36 aQ rfl #[.int .i64 ((aI l0 fF).f1),.int .i64 0,.int .i64 255] rfl fP ?_;(with_reducible refine (bI.calls ((aI l0 fF).f1) 0 255 true _ A12.out).mono ?_);rintro e w' ⟨rfl,⟨nd,rfl⟩⟩;refine ⟨_,rfl,?_⟩))
         go_loopg [5,6] k1 (fun kq v5 v6 w'=>∃ (VE:Int) (Ar:Int) (yV:Int) (xB:Int),v5=.int .i64 VE∧v6=.int .i64 Ar∧aA (bC.l1 kq l0 fF VE Ar ((aI l0 fF).f0) ((aI l0 fF).f1) ((aI l0 fF).f2)=some (r1,r2))∧aA (kq≤k1)∧aA (w'.heap[mP]?=some (.cells #[.int .i64 yV,.int .i64 xB] 27 (0,0)))∧aA (w'.heap[mO]?=some (.cells #[.string ((aI l0 fF).f0),.int .i64 ((aI l0 fF).f1),(.slice yI ((aI l0 fF).f2).length xO)] 54 (0,0)))∧aA (Below w.heap.size w w'))
         case atStart=>exact ⟨(0),(0),(nM),(lQ),gV,gV,H',⟨Nat.le_refl _⟩,⟨by refine aH ?_;refine aU ?_ nN.out _;refine aH ?_;refine aU ?_ nN.out _;refine aH ?_;refine aU ?_ nN.out _;refine aH ?_;exact iL.out⟩,⟨by refine aH ?_;refine aY (cs:=#[.string ((aI l0 fF).f0),.int .i64 ((aI l0 fF).f1),.slice none 0 0]) ?_ 2 _ rfl;refine aH ?_;refine aY (cs:=#[.string ((aI l0 fF).f0),.int .i64 0,.slice none 0 0]) ?_ 1 _ rfl;refine aH ?_;refine aY (cs:=#[.string (⟨#[]⟩:ByteArray),.int .i64 0,.slice none 0 0]) ?_ 0 _ rfl;refine aH ?_;exact iM.out⟩,⟨dK HB.out uI.out Aw.out⟩⟩
         case round =>
          clear H';obtain ⟨VE,Ar,yV,xB,rfl,rfl,HA,Ws,iL,iM,HB⟩:=hrel
          cases gk with
          | zero=>exact absurd HA.out (by simp [bC.l1])
          | succ k2 =>
           have H:=HA.out;clear HA;simp only [bC.l1] at H
           by_cases c24:Ar<(((aI l0 fF).f2).length:Int)
           ·rw [if_pos c24] at H;have aPg:decide (Ar<(((aI l0 fF).f2).length:Int))=true:=fB c24;clear c24
            by_cases c25:0≤Ar
            ·rw [if_pos c25] at H;have aBU:decide (0≤Ar)=true:=fB c25;clear c25;replace H:=Option.bind_eq_some_iff.mp H;obtain ⟨Kt,aJz,H⟩:=H;replace H:(if Kt=true then (if (rd ((aI l0 fF).f2) Ar)≥5 then (bC.l1 k2 l0 fF (wrap64 (VE+1)) (wrap64 (Ar+1)) ((aI l0 fF).f0) ((aI l0 fF).f1) ((aI l0 fF).f2)) else (bC.l1 k2 l0 fF VE (wrap64 (Ar+1)) ((aI l0 fF).f0) ((aI l0 fF).f1) ((aI l0 fF).f2))) else ((bD.f 4 fF).bind fun Vl=>(some (Vl.1,Vl.2))))=some (r1,r2):=H;have A26:=aA.mk aJz;clear aJz
             by_cases TU:Kt=true
             ·subst TU;have H1:(if (rd ((aI l0 fF).f2) Ar)≥5 then (bC.l1 k2 l0 fF (wrap64 (VE+1)) (wrap64 (Ar+1)) ((aI l0 fF).f0) ((aI l0 fF).f1) ((aI l0 fF).f2)) else (bC.l1 k2 l0 fF VE (wrap64 (Ar+1)) ((aI l0 fF).f0) ((aI l0 fF).f1) ((aI l0 fF).f2)))=some (r1,r2):=by rw [if_pos rfl] at H;exact H
              clear H;have H:=H1;clear H1
              by_cases c28:(rd ((aI l0 fF).f2) Ar)≥5
              ·rw [if_pos c28] at H;have aCk:decide (5≤(rd ((aI l0 fF).f2) Ar))=true:=fB c28;clear c28;have H':=aA.mk H;clear H;have aFG:=xA.out;have aFH:=nN.out;have WJ:wr.cell? ⟨mO,0,none⟩=some (.string ((aI l0 fF).f0)):=(aC iM.out 0).trans rfl;have WL:wr.cell? ⟨mO,1,none⟩=some (.int .i64 ((aI l0 fF).f1)):=(aC iM.out 1).trans rfl;have aE9:wr.cell? ⟨mO,2,none⟩=some (.slice yI ((aI l0 fF).f2).length xO):=(aC iM.out 2).trans rfl;have WM:=aG iM.out 0;have WN:=aG iM.out 1;have aE_:=aG iM.out 2;have Yg:0≤(Ar:Int):=dU dW;have Yh:Ar<(((aI l0 fF).f2).length:Int):=dU dW;obtain ⟨ZW,e210,Fh⟩:=Kd.jJ GN.out Ar Yg Yh
               cases e210
               replace Fh:=(HB.out.cell (dM w _ Fh)).trans Fh;replace Yg:=eq_true Yg;replace Yh:=eq_true Yh
               go_wp2_with (first|((with_reducible refine cO (f:=36) rfl ?_);refine gI (some 52) rfl rfl Try.func36 aQ rfl #[.int .i64 (rd ((aI l0 fF).f2) Ar),.int .i64 1,.int .i64 6] rfl fP ?_;(with_reducible refine (bI.calls (rd ((aI l0 fF).f2) Ar) 1 6 true _ A26.out).mono ?_);rintro e w' ⟨rfl,⟨nd,rfl⟩⟩;refine ⟨_,rfl,?_⟩;have aDV:0≤(Ar:Int):=dU dW;have aDW:Ar<(((aI l0 fF).f2).length:Int):=dU dW;obtain ⟨aJA,e212,Mc⟩:=Kd.jJ GN.out Ar aDV aDW;obtain rfl:ZW=aJA:=(by injection e212);replace Mc:=(HB.out.cell (dM w _ Mc)).trans Mc;replace aDV:=eq_true aDV;replace aDW:=eq_true aDW))
               go_roundg k2
               case measure=>have:=wU.out;have:=Ws.out;omega
               case rel=>exact ⟨(wrap64 (VE+1)),(wrap64 (Ar+1)),(yV),(xB),gV,gV,H',⟨by have:=wU.out;have:=Ws.out;omega⟩,⟨by refine aH ?_;exact iL.out⟩,⟨by refine aH ?_;exact iM.out⟩,⟨dK HB.out uI.out Aw.out⟩⟩
              ·rw [if_neg c28] at H;have aCk:decide (5≤(rd ((aI l0 fF).f2) Ar))=false:=kT c28;clear c28;have H':=aA.mk H;clear H;have aFI:=xA.out;have aFJ:=nN.out;have aFK:wr.cell? ⟨mO,0,none⟩=some (.string ((aI l0 fF).f0)):=(aC iM.out 0).trans rfl;have aFL:wr.cell? ⟨mO,1,none⟩=some (.int .i64 ((aI l0 fF).f1)):=(aC iM.out 1).trans rfl;have bCr:wr.cell? ⟨mO,2,none⟩=some (.slice yI ((aI l0 fF).f2).length xO):=(aC iM.out 2).trans rfl;have aFM:=aG iM.out 0;have aFN:=aG iM.out 1;have bCs:=aG iM.out 2;have Yg:0≤(Ar:Int):=dU dW;have Yh:Ar<(((aI l0 fF).f2).length:Int):=dU dW;obtain ⟨ZW,e210,Fh⟩:=Kd.jJ GN.out Ar Yg Yh
               cases e210
               replace Fh:=(HB.out.cell (dM w _ Fh)).trans Fh;replace Yg:=eq_true Yg;replace Yh:=eq_true Yh
               go_wp2_with (first|((with_reducible refine cO (f:=36) rfl ?_);refine gI (some 52) rfl rfl Try.func36 aQ rfl #[.int .i64 (rd ((aI l0 fF).f2) Ar),.int .i64 1,.int .i64 6] rfl fP ?_;(with_reducible refine (bI.calls (rd ((aI l0 fF).f2) Ar) 1 6 true _ A26.out).mono ?_);rintro e w' ⟨rfl,⟨nd,rfl⟩⟩;refine ⟨_,rfl,?_⟩;have aDV:0≤(Ar:Int):=dU dW;have aDW:Ar<(((aI l0 fF).f2).length:Int):=dU dW;obtain ⟨aJA,e212,Mc⟩:=Kd.jJ GN.out Ar aDV aDW;obtain rfl:ZW=aJA:=(by injection e212);replace Mc:=(HB.out.cell (dM w _ Mc)).trans Mc;replace aDV:=eq_true aDV;replace aDW:=eq_true aDW))
               go_roundg k2
               case measure=>have:=wU.out;have:=Ws.out;omega
               case rel=>exact ⟨(VE),(wrap64 (Ar+1)),(yV),(xB),gV,gV,H',⟨by have:=wU.out;have:=Ws.out;omega⟩,⟨by refine aH ?_;exact iL.out⟩,⟨by refine aH ?_;exact iM.out⟩,⟨dK HB.out uI.out Aw.out⟩⟩
             ·replace TU:=Bool.eq_false_iff.mpr TU;subst TU;have H1:((bD.f 4 fF).bind fun Vl=>(some (Vl.1,Vl.2)))=some (r1,r2):=by rw [if_neg (show ¬ (false=true) by decide)] at H;exact H
              clear H;have H:=H1;clear H1;replace H:=Option.bind_eq_some_iff.mp H;obtain ⟨⟨t213,aR2⟩,aCl,H⟩:=H;replace H:(some (t213,aR2))=some (r1,r2):=H;have A33:=aA.mk aCl;clear aCl;simp only [Option.some.injEq,Prod.mk.injEq] at H;obtain ⟨rfl,rfl⟩:=H;have Yi:=xA.out;have Yj:=nN.out;have WZ:wr.cell? ⟨mO,0,none⟩=some (.string ((aI l0 fF).f0)):=(aC iM.out 0).trans rfl;have Xa:wr.cell? ⟨mO,1,none⟩=some (.int .i64 ((aI l0 fF).f1)):=(aC iM.out 1).trans rfl;have bCt:wr.cell? ⟨mO,2,none⟩=some (.slice yI ((aI l0 fF).f2).length xO):=(aC iM.out 2).trans rfl;have Xb:=aG iM.out 0;have Xc:=aG iM.out 1;have bCu:=aG iM.out 2;have Yg:0≤(Ar:Int):=dU dW;have Yh:Ar<(((aI l0 fF).f2).length:Int):=dU dW;obtain ⟨ZW,e210,Fh⟩:=Kd.jJ GN.out Ar Yg Yh
              cases e210
              replace Fh:=(HB.out.cell (dM w _ Fh)).trans Fh;replace Yg:=eq_true Yg;replace Yh:=eq_true Yh
              go_wp2_with (first|((with_reducible refine cO (f:=36) rfl ?_);refine gI (some 52) rfl rfl Try.func36 aQ rfl #[.int .i64 (rd ((aI l0 fF).f2) Ar),.int .i64 1,.int .i64 6] rfl fP ?_;(with_reducible refine (bI.calls (rd ((aI l0 fF).f2) Ar) 1 6 false _ A26.out).mono ?_);rintro e w' ⟨rfl,⟨nd,rfl⟩⟩;refine ⟨_,rfl,?_⟩;(try (rw [zT wr];generalize CP:World.drewN wr _=wr;have bT:aA (wr.heap[mP]?=some (.cells #[.int .i64 yV,.int .i64 xB] 27 (0,0))):=⟨by rw [← CP];exact (aH iL.out)⟩;have bW:aA (wr.heap[mO]?=some (.cells #[.string ((aI l0 fF).f0),.int .i64 ((aI l0 fF).f1),.slice (some ZW) ((aI l0 fF).f2).length xO] 54 (0,0))):=⟨by rw [← CP];exact (aH iM.out)⟩;have dA:aA (Below w.heap.size w wr):=⟨by rw [← CP];exact (dK HB.out uI.out Aw.out)⟩;clear iL iM HB CP;have iL:=bT;have iM:=bW;have HB:=dA;clear bT bW dA)))|((with_reducible refine cO (f:=23) rfl ?_);refine gI (some 55) rfl rfl Try.func23 aQ rfl #[.int .i64 4,.int .i64 fF] rfl fP ?_;(with_reducible refine (bD.calls 4 fF t213 aR2 _ A33.out).mono ?_);rintro e w36 ⟨rfl,hb⟩;refine ⟨_,rfl,?_⟩;have bT:=aA.mk (aK (g:=mP) (o:=.cells #[.int .i64 yV,.int .i64 xB] 27 (0,0)) (aH iL.out) hb);have bW:=aA.mk (aK (g:=mO) (o:=.cells #[.string ((aI l0 fF).f0),.int .i64 ((aI l0 fF).f1),.slice (some ZW) ((aI l0 fF).f2).length xO] 54 (0,0)) (aH iM.out) hb);have dA:=aA.mk (aT (dK HB.out uI.out Aw.out) hb);clear iL iM HB;have iL:=bT;have iM:=bW;have HB:=dA;clear bT bW dA;have aAW:w36.cell? ⟨mP,0,none⟩=some (.int .i64 yV):=(aC iL.out 0).trans rfl;have aAX:w36.cell? ⟨mP,1,none⟩=some (.int .i64 xB):=(aC iL.out 1).trans rfl;have aAY:=aG iL.out 0;have aAZ:=aG iL.out 1))
              refine bodyPost_ret (results_cell_row rfl _ _ mP 27 #[.int .i64 t213,.int .i64 aR2] (0,0) _ rfl (by refine aH ?_;refine aY (cs:=#[.int .i64 t213,.int .i64 xB]) ?_ 1 _ rfl;refine aH ?_;refine aY (cs:=#[.int .i64 yV,.int .i64 xB]) ?_ 0 _ rfl;refine aH ?_;exact iL.out) Try.underlying27 rfl aQ) rfl ?_;exact ⟨by first|rfl|(simp [bK,bM] <;> rfl)|(simp [*,bK,bM] <;> rfl),dK HB.out uI.out Aw.out⟩
            ·rw [if_neg c25] at H;exact absurd H (by simp)
           ·rw [if_neg c24] at H;have aPg:decide (Ar<(((aI l0 fF).f2).length:Int))=false:=kT c24;clear c24
            by_cases VD:VE>1
            ·rw [if_pos VD] at H;have RS:decide (1<VE)=true:=fB VD;clear VD;replace H:=Option.bind_eq_some_iff.mp H;obtain ⟨⟨aMB,aR3⟩,aV2,H⟩:=H;replace H:(some (aMB,aR3))=some (r1,r2):=H;have A39:=aA.mk aV2;clear aV2;simp only [Option.some.injEq,Prod.mk.injEq] at H;obtain ⟨rfl,rfl⟩:=H;have XQ:=xA.out;have XR:=nN.out;have Rw:wr.cell? ⟨mO,0,none⟩=some (.string ((aI l0 fF).f0)):=(aC iM.out 0).trans rfl;have Rx:wr.cell? ⟨mO,1,none⟩=some (.int .i64 ((aI l0 fF).f1)):=(aC iM.out 1).trans rfl;have bCv:wr.cell? ⟨mO,2,none⟩=some (.slice yI ((aI l0 fF).f2).length xO):=(aC iM.out 2).trans rfl;have Ry:=aG iM.out 0;have Rz:=aG iM.out 1;have bCw:=aG iM.out 2
             go_wp2_with (first|((with_reducible refine cO (f:=23) rfl ?_);refine gI (some 67) rfl rfl Try.func23 aQ rfl #[.int .i64 5,.int .i64 fF] rfl fP ?_;(with_reducible refine (bD.calls 5 fF aMB aR3 _ A39.out).mono ?_);rintro e w42 ⟨rfl,hb⟩;refine ⟨_,rfl,?_⟩;have bT:=aA.mk (aK (g:=mP) (o:=.cells #[.int .i64 yV,.int .i64 xB] 27 (0,0)) (aH iL.out) hb);have bW:=aA.mk (aK (g:=mO) (o:=.cells #[.string ((aI l0 fF).f0),.int .i64 ((aI l0 fF).f1),.slice yI ((aI l0 fF).f2).length xO] 54 (0,0)) (aH iM.out) hb);have dA:=aA.mk (aT (dK HB.out uI.out Aw.out) hb);clear iL iM HB;have iL:=bT;have iM:=bW;have HB:=dA;clear bT bW dA;have OW:w42.cell? ⟨mP,0,none⟩=some (.int .i64 yV):=(aC iL.out 0).trans rfl;have OX:w42.cell? ⟨mP,1,none⟩=some (.int .i64 xB):=(aC iL.out 1).trans rfl;have OY:=aG iL.out 0;have OZ:=aG iL.out 1))
             refine bodyPost_ret (results_cell_row rfl _ _ mP 27 #[.int .i64 aMB,.int .i64 aR3] (0,0) _ rfl (by refine aH ?_;refine aY (cs:=#[.int .i64 aMB,.int .i64 xB]) ?_ 1 _ rfl;refine aH ?_;refine aY (cs:=#[.int .i64 yV,.int .i64 xB]) ?_ 0 _ rfl;refine aH ?_;exact iL.out) Try.underlying27 rfl aQ) rfl ?_;exact ⟨by first|rfl|(simp [bK,bM] <;> rfl)|(simp [*,bK,bM] <;> rfl),dK HB.out uI.out Aw.out⟩
            ·rw [if_neg VD] at H;have RS:decide (1<VE)=false:=kT VD;clear VD;have H':=aA.mk H;clear H;have aFs:=xA.out;have aFt:=nN.out;have aMC:wr.cell? ⟨mO,0,none⟩=some (.string ((aI l0 fF).f0)):=(aC iM.out 0).trans rfl;have aMD:wr.cell? ⟨mO,1,none⟩=some (.int .i64 ((aI l0 fF).f1)):=(aC iM.out 1).trans rfl;have bCx:wr.cell? ⟨mO,2,none⟩=some (.slice yI ((aI l0 fF).f2).length xO):=(aC iM.out 2).trans rfl;have aME:=aG iM.out 0;have aMF:=aG iM.out 1;have bCy:=aG iM.out 2
             go_wp2
             go_loopg [7] k2 (fun kq v7 w'=>∃ (oG:Int) (yX:Int) (xC:Int),v7=.int .i64 oG∧aA (bC.l2 kq l0 fF oG ((aI l0 fF).f0) ((aI l0 fF).f1) ((aI l0 fF).f2)=some (r1,r2))∧aA (kq≤k2)∧aA (w'.heap[mP]?=some (.cells #[.int .i64 yX,.int .i64 xC] 27 (0,0)))∧aA (w'.heap[mO]?=some (.cells #[.string ((aI l0 fF).f0),.int .i64 ((aI l0 fF).f1),(.slice yI ((aI l0 fF).f2).length xO)] 54 (0,0)))∧aA (Below w.heap.size w w'))
             case atStart=>exact ⟨(0),(yV),(xB),gV,H',⟨Nat.le_refl _⟩,⟨by refine aH ?_;exact iL.out⟩,⟨by refine aH ?_;exact iM.out⟩,⟨dK HB.out uI.out Aw.out⟩⟩
             case round =>
              clear H';obtain ⟨oG,yX,xC,rfl,HA,MZ,iL,iM,HB⟩:=hrel
              cases gk with
              | zero=>exact absurd HA.out (by simp [bC.l2])
              | succ k3 =>
               have H:=HA.out;clear HA;simp only [bC.l2] at H
               by_cases c46:oG<fF
               ·rw [if_pos c46] at H;have aJB:decide (oG<fF)=true:=fB c46;clear c46
                by_cases Zg:0≤oG
                ·rw [if_pos Zg] at H;have aFO:decide (0≤oG)=true:=fB Zg;clear Zg
                 by_cases c48:oG<(l0.length:Int)
                 ·rw [if_pos c48] at H;have aJb:decide (oG<(l0.length:Int))=true:=fB c48;clear c48
                  by_cases c49:((aI l0 oG).f1)=((aI l0 fF).f1)
                  ·rw [if_pos c49] at H;have aB9:(((aI l0 oG).f1)==((aI l0 fF).f1))=true:=beq_iff_eq.mpr c49;have aFP:(((aI l0 oG).f1) != ((aI l0 fF).f1))=false:=bne_eq_false_iff_eq.mpr c49;clear c49;replace H:=Option.bind_eq_some_iff.mp H;obtain ⟨⟨t218,aR4⟩,aJC,H⟩:=H;replace H:(some (t218,aR4))=some (r1,r2):=H;have A50:=aA.mk aJC;clear aJC;simp only [Option.some.injEq,Prod.mk.injEq] at H;obtain ⟨rfl,rfl⟩:=H
                   try go_wp2
                   have bT:=aA.mk (dY iL.out);have bW:=aA.mk (dY iM.out);have dA:=aA.mk (fZ HB.out);clear iL;clear iM;clear HB;have iL:=bT;have iM:=bW;have HB:=dA;clear bT bW dA;have Yk:0≤(oG:Int):=dU dW;have Yl:oG<(l0.length:Int):=dU dW;obtain ⟨aCm,Md,Me,e217,zH,zI,xZ,JP,JQ⟩:=rJ HR0.out oG Yk Yl;have Ed:=xZ;have Ee:=zI;have Ef:=zH;obtain rfl:xW=aCm:=(by injection e217);replace zH:=(HB.out.cell (dM w _ zH)).trans zH;replace zI:=(HB.out.cell (dM w _ zI)).trans zI;replace xZ:=(HB.out.cell (dM w _ xZ)).trans xZ;have Si:=aA.mk JQ;have aFQ:=aA.mk JP;clear JQ JP;replace Yk:=eq_true Yk;replace Yl:=eq_true Yl
                   refine qZ (n:=16) (S:=fun w'=>w'.cell? ⟨mO,0,none⟩=some (.string ((aI l0 fF).f0))∧w'.cell? ⟨mO,1,none⟩=some (.int .i64 ((aI l0 fF).f1))∧w'.cell? ⟨mO,2,none⟩=some (.slice yI ((aI l0 fF).f2).length xO)∧w'.cell? (xW.add ((oG).toNat*3))=some (.string ((aI l0 oG).f0))∧w'.cell? ⟨(xW.add ((oG).toNat*3)).block,(xW.add ((oG).toNat*3)).off+1,none⟩=some (.int .i64 ((aI l0 oG).f1))∧w'.cell? ⟨(xW.add ((oG).toNat*3)).block,(xW.add ((oG).toNat*3)).off+2,none⟩=some (.slice Md ((aI l0 oG).f2).length Me)) (ds:=[]) #[false,false,false,false,false,false,false,false,false,false,false,false,false,false,false,false] aQ rfl rfl ⟨(aC iM.out 0).trans rfl,(aC iM.out 1).trans rfl,(aC iM.out 2).trans rfl,((HB.out.cell (dM w _ Ef)).trans Ef),((HB.out.cell (dM w _ Ee)).trans Ee),((HB.out.cell (dM w _ Ed)).trans Ed)⟩ (fun hHeld=>?_);refine nK bC.aJv bC.aDT (fun gG zQ=>?_);generalize wr.drew=w51 at iL iM HB Si zH zI xZ hHeld ⊢
                   refine bQ (i:=0) (N:=some 73) (v:=?_) (a':=?_) #[true,false,false,false,false,false,false,false,false,false,false,false,false,false,false,false] rfl rfl (bP gG.out aQ) (fun _ _ _ h=>h) (bG ?_) ?_ ?_;rotate_left
                   ·intro w';go_simp;with_reducible rfl
                   rotate_left
                   ·simp only [Act.put,aX];rfl
                   refine bQ (i:=1) (N:=some 74) (v:=?_) (a':=?_) #[true,true,false,false,false,false,false,false,false,false,false,false,false,false,false,false] rfl rfl (bP gG.out aQ) (fun _ _ _ h=>h) (bG ?_) ?_ ?_;rotate_left
                   ·intro w';go_simp;with_reducible rfl
                   rotate_left
                   ·simp only [Act.put,aX];rfl
                   refine bQ (i:=2) (N:=some 75) (v:=?_) (a':=?_) #[true,true,true,false,false,false,false,false,false,false,false,false,false,false,false,false] rfl rfl (bP gG.out aQ) (fun _ _ _ h=>h) (bG ?_) ?_ ?_;rotate_left
                   ·intro w';go_simp;with_reducible rfl
                   rotate_left
                   ·simp only [Act.put,aX];rfl
                   refine bQ (i:=3) (N:=some 76) (v:=?_) (a':=?_) #[true,true,true,true,false,false,false,false,false,false,false,false,false,false,false,false] rfl rfl (bP gG.out aQ) (fun _ _ _ h=>h) (bG ?_) ?_ ?_;rotate_left
                   ·intro w';go_simp;with_reducible rfl
                   rotate_left
                   ·simp only [Act.put,aX];rfl
                   refine bQ (i:=5) (N:=some 78) (v:=?_) (a':=?_) #[true,true,true,true,false,true,false,false,false,false,false,false,false,false,false,false] rfl rfl (bP gG.out aQ) (fun _ _ _ h=>h) (bG ?_) ?_ ?_;rotate_left
                   ·intro w';go_simp;with_reducible rfl
                   rotate_left
                   ·simp only [Act.put,aX];rfl
                   refine iQ (i:=4) (N:=some 77) (v:=?_) (a':=?_) #[true,true,true,true,true,true,false,false,false,false,false,false,false,false,false,false] rfl rfl (iH gG.out zQ.out aQ) (fun _ _ _ h=>h) (bG ?_) hHeld ?_ ?_;rotate_left
                   ·rintro w' ⟨s0,s1,s2,s3,s4,s5⟩;go_simp;with_reducible rfl
                   rotate_left
                   ·simp only [Act.put,aX];rfl
                   refine iQ (i:=6) (N:=some 79) (v:=?_) (a':=?_) #[true,true,true,true,true,true,true,false,false,false,false,false,false,false,false,false] rfl rfl (iH gG.out zQ.out aQ) (fun _ _ _ h=>h) (bG ?_) hHeld ?_ ?_;rotate_left
                   ·rintro w' ⟨s0,s1,s2,s3,s4,s5⟩;go_simp;with_reducible rfl
                   rotate_left
                   ·simp only [Act.put,aX];rfl
                   refine bQ (i:=7) (N:=some 80) (v:=?_) (a':=?_) #[true,true,true,true,true,true,true,true,false,false,false,false,false,false,false,false] rfl rfl (bP gG.out aQ) (fun _ _ _ h=>h) (bG ?_) ?_ ?_;rotate_left
                   ·intro w';go_simp;with_reducible rfl
                   rotate_left
                   ·simp only [Act.put,aX];rfl
                   refine bQ (i:=8) (N:=some 81) (v:=?_) (a':=?_) #[true,true,true,true,true,true,true,true,true,false,false,false,false,false,false,false] rfl rfl (bP gG.out aQ) (fun _ _ _ h=>h) (bG ?_) ?_ ?_;rotate_left
                   ·intro w';go_simp;with_reducible rfl
                   rotate_left
                   ·simp only [Act.put,aX];rfl
                   refine bQ (i:=9) (N:=some 82) (v:=undef) (a':=?_) #[true,true,true,true,true,true,true,true,true,true,false,false,false,false,false,false] rfl rfl (bP gG.out aQ) (fun _ _ _ h=>h) (Or.inr ⟨by rfl,rfl⟩) ?_ ?_;rotate_left
                   ·simp only [Act.put,aX];rfl
                   refine bQ (i:=10) (N:=some 83) (v:=undef) (a':=?_) #[true,true,true,true,true,true,true,true,true,true,true,false,false,false,false,false] rfl rfl (bP gG.out aQ) (fun _ _ _ h=>h) (Or.inr ⟨by rfl,rfl⟩) ?_ ?_;rotate_left
                   ·simp only [Act.put,aX];rfl
                   refine bQ (i:=11) (N:=some 84) (v:=undef) (a':=?_) #[true,true,true,true,true,true,true,true,true,true,true,true,false,false,false,false] rfl rfl (bP gG.out aQ) (fun _ _ _ h=>h) (Or.inr ⟨by rfl,rfl⟩) ?_ ?_;rotate_left
                   ·simp only [Act.put,aX];rfl
                   refine bQ (i:=12) (N:=some 85) (v:=undef) (a':=?_) #[true,true,true,true,true,true,true,true,true,true,true,true,true,false,false,false] rfl rfl (bP gG.out aQ) (fun _ _ _ h=>h) (Or.inr ⟨by rfl,rfl⟩) ?_ ?_;rotate_left
                   ·simp only [Act.put,aX];rfl
                   refine bQ (i:=13) (N:=some 86) (v:=undef) (a':=?_) #[true,true,true,true,true,true,true,true,true,true,true,true,true,true,false,false] rfl rfl (bP gG.out aQ) (fun _ _ _ h=>h) (Or.inr ⟨by rfl,rfl⟩) ?_ ?_;rotate_left
                   ·simp only [Act.put,aX];rfl
                   refine bQ (i:=14) (N:=some 87) (v:=undef) (a':=?_) #[true,true,true,true,true,true,true,true,true,true,true,true,true,true,true,false] rfl rfl (bP gG.out aQ) (fun _ _ _ h=>h) (Or.inr ⟨by rfl,rfl⟩) ?_ ?_;rotate_left
                   ·simp only [Act.put,aX];rfl
                   refine bQ (i:=15) (N:=some 88) (v:=?_) (a':=?_) #[true,true,true,true,true,true,true,true,true,true,true,true,true,true,true,true] rfl rfl (bP gG.out aQ) (fun _ _ _ h=>h) (bG ?_) ?_ ?_;rotate_left
                   ·intro w';go_simp;with_reducible rfl
                   rotate_left
                   ·simp only [Act.put,aX];rfl
                   refine sG (sH gG.out aQ) ?_
                   try go_wp2_with (first|((with_reducible refine cO (f:=23) rfl ?_);refine gI (some 90) rfl rfl Try.func23 aQ rfl #[.int .i64 7,.int .i64 fF] rfl fP ?_;(with_reducible refine (bD.calls 7 fF t218 aR4 _ A50.out).mono ?_);rintro e w52 ⟨rfl,hb⟩;refine ⟨_,rfl,?_⟩;have bT:=aA.mk (aK (g:=mP) (o:=.cells #[.int .i64 yX,.int .i64 xC] 27 (0,0)) (aH iL.out) hb);have bW:=aA.mk (aK (g:=mO) (o:=.cells #[.string ((aI l0 fF).f0),.int .i64 ((aI l0 fF).f1),.slice yI ((aI l0 fF).f2).length xO] 54 (0,0)) (aH iM.out) hb);have dA:=aA.mk (aT (dK HB.out uI.out Aw.out) hb);clear iL iM HB;have iL:=bT;have iM:=bW;have HB:=dA;clear bT bW dA;have aPh:=nN.out;have aPi:=xA.out;have aMG:w52.cell? ⟨mP,0,none⟩=some (.int .i64 yX):=(aC iL.out 0).trans rfl;have aMH:w52.cell? ⟨mP,1,none⟩=some (.int .i64 xC):=(aC iL.out 1).trans rfl;have aMI:=aG iL.out 0;have aMJ:=aG iL.out 1))
                   refine bodyPost_ret (results_cell_row rfl _ _ mP 27 #[.int .i64 t218,.int .i64 aR4] (0,0) _ rfl (by refine aH ?_;refine aY (cs:=#[.int .i64 t218,.int .i64 xC]) ?_ 1 _ rfl;refine aH ?_;refine aY (cs:=#[.int .i64 yX,.int .i64 xC]) ?_ 0 _ rfl;refine aH ?_;exact iL.out) Try.underlying27 rfl aQ) rfl ?_;exact ⟨by first|rfl|(simp [bK,bM] <;> rfl)|(simp [*,bK,bM] <;> rfl),dK HB.out uI.out Aw.out⟩
                  ·rw [if_neg c49] at H;have aB9:(((aI l0 oG).f1)==((aI l0 fF).f1))=false:=beq_eq_false_iff_ne.mpr c49;have aFP:(((aI l0 oG).f1) != ((aI l0 fF).f1))=true:=bne_iff_ne.mpr c49;replace H:=Option.bind_eq_some_iff.mp H;obtain ⟨Nz,aJD,H⟩:=H;replace H:(if Nz=true then ((bD.f 7 fF).bind fun Vm=>(some (Vm.1,Vm.2))) else (bC.l2 k3 l0 fF (wrap64 (oG+1)) ((aI l0 fF).f0) ((aI l0 fF).f1) ((aI l0 fF).f2)))=some (r1,r2):=H;have A55:=aA.mk aJD;clear aJD
                   by_cases c56:Nz=true
                   ·subst c56;have H1:((bD.f 7 fF).bind fun Vm=>(some (Vm.1,Vm.2)))=some (r1,r2):=by rw [if_pos rfl] at H;exact H
                    clear H;have H:=H1;clear H1;replace H:=Option.bind_eq_some_iff.mp H;obtain ⟨⟨t222,FZ⟩,aV3,H⟩:=H;replace H:(some (t222,FZ))=some (r1,r2):=H;have A57:=aA.mk aV3;clear aV3;simp only [Option.some.injEq,Prod.mk.injEq] at H;obtain ⟨rfl,rfl⟩:=H
                    try go_wp2
                    have bT:=aA.mk (dY iL.out);have bW:=aA.mk (dY iM.out);have dA:=aA.mk (fZ HB.out);clear iL;clear iM;clear HB;have iL:=bT;have iM:=bW;have HB:=dA;clear bT bW dA;have Yk:0≤(oG:Int):=dU dW;have Yl:oG<(l0.length:Int):=dU dW;obtain ⟨aCm,Md,Me,e217,zH,zI,xZ,JP,JQ⟩:=rJ HR0.out oG Yk Yl;have Ed:=xZ;have Ee:=zI;have Ef:=zH;obtain rfl:xW=aCm:=(by injection e217);replace zH:=(HB.out.cell (dM w _ zH)).trans zH;replace zI:=(HB.out.cell (dM w _ zI)).trans zI;replace xZ:=(HB.out.cell (dM w _ xZ)).trans xZ;have Si:=aA.mk JQ;have aFQ:=aA.mk JP;clear JQ JP;replace Yk:=eq_true Yk;replace Yl:=eq_true Yl;have aDX:0≤(oG:Int):=dU dW;have aDY:oG<(l0.length:Int):=dU dW;obtain ⟨aJE,aR5,aR6,e220,Fj,Fp,CZ,Sj,Sl⟩:=rJ HR0.out oG aDX aDY;have IK:=CZ;have IL:=Fp;have IM:=Fj;obtain rfl:xW=aJE:=(by injection e220);replace Fj:=(HB.out.cell (dM w _ Fj)).trans Fj
                    replace Fp:=(HB.out.cell (dM w _ Fp)).trans Fp;replace CZ:=(HB.out.cell (dM w _ CZ)).trans CZ;have Sm:=aA.mk Sl;have aA5:=aA.mk Sj;clear Sl Sj;replace aDX:=eq_true aDX;replace aDY:=eq_true aDY;have KA:=Option.some.inj (xZ.symm.trans CZ);injection KA with KA en_ ec_
                    subst KA;subst ec_;clear en_
                    refine qZ (n:=16) (S:=fun w'=>w'.cell? ⟨mO,0,none⟩=some (.string ((aI l0 fF).f0))∧w'.cell? ⟨mO,1,none⟩=some (.int .i64 ((aI l0 fF).f1))∧w'.cell? ⟨mO,2,none⟩=some (.slice yI ((aI l0 fF).f2).length xO)∧w'.cell? (xW.add ((oG).toNat*3))=some (.string ((aI l0 oG).f0))∧w'.cell? ⟨(xW.add ((oG).toNat*3)).block,(xW.add ((oG).toNat*3)).off+1,none⟩=some (.int .i64 ((aI l0 oG).f1))∧w'.cell? ⟨(xW.add ((oG).toNat*3)).block,(xW.add ((oG).toNat*3)).off+2,none⟩=some (.slice Md ((aI l0 oG).f2).length Me)∧w'.cell? (xW.add ((oG).toNat*3))=some (.string ((aI l0 oG).f0))∧w'.cell? ⟨(xW.add ((oG).toNat*3)).block,(xW.add ((oG).toNat*3)).off+1,none⟩=some (.int .i64 ((aI l0 oG).f1))∧w'.cell? ⟨(xW.add ((oG).toNat*3)).block,(xW.add ((oG).toNat*3)).off+2,none⟩=some (.slice Md ((aI l0 oG).f2).length Me)) (ds:=[]) #[false,false,false,false,false,false,false,false,false,false,false,false,false,false,false,false] aQ rfl rfl ⟨(aC iM.out 0).trans rfl,(aC iM.out 1).trans rfl,(aC iM.out 2).trans rfl,((HB.out.cell (dM w _ Ef)).trans Ef),((HB.out.cell (dM w _ Ee)).trans Ee),((HB.out.cell (dM w _ Ed)).trans Ed),((HB.out.cell (dM w _ IM)).trans IM),((HB.out.cell (dM w _ IL)).trans IL),((HB.out.cell (dM w _ IK)).trans IK)⟩ (fun hHeld=>?_);refine nK bC.aJv bC.aDT (fun gG zQ=>?_)
                    generalize wr.drew=w58 at iL iM HB Si Sm zH zI xZ Fj Fp CZ hHeld ⊢;refine bQ (i:=0) (N:=some 73) (v:=?_) (a':=?_) #[true,false,false,false,false,false,false,false,false,false,false,false,false,false,false,false] rfl rfl (bP gG.out aQ) (fun _ _ _ h=>h) (bG ?_) ?_ ?_;rotate_left
                    ·intro w';go_simp;with_reducible rfl
                    rotate_left
                    ·simp only [Act.put,aX];rfl
                    refine bQ (i:=1) (N:=some 74) (v:=?_) (a':=?_) #[true,true,false,false,false,false,false,false,false,false,false,false,false,false,false,false] rfl rfl (bP gG.out aQ) (fun _ _ _ h=>h) (bG ?_) ?_ ?_;rotate_left
                    ·intro w';go_simp;with_reducible rfl
                    rotate_left
                    ·simp only [Act.put,aX];rfl
                    refine bQ (i:=2) (N:=some 75) (v:=?_) (a':=?_) #[true,true,true,false,false,false,false,false,false,false,false,false,false,false,false,false] rfl rfl (bP gG.out aQ) (fun _ _ _ h=>h) (bG ?_) ?_ ?_;rotate_left
                    ·intro w';go_simp;with_reducible rfl
                    rotate_left
                    ·simp only [Act.put,aX];rfl
                    refine bQ (i:=3) (N:=some 76) (v:=?_) (a':=?_) #[true,true,true,true,false,false,false,false,false,false,false,false,false,false,false,false] rfl rfl (bP gG.out aQ) (fun _ _ _ h=>h) (bG ?_) ?_ ?_;rotate_left
                    ·intro w';go_simp;with_reducible rfl
                    rotate_left
                    ·simp only [Act.put,aX];rfl
                    refine bQ (i:=5) (N:=some 78) (v:=?_) (a':=?_) #[true,true,true,true,false,true,false,false,false,false,false,false,false,false,false,false] rfl rfl (bP gG.out aQ) (fun _ _ _ h=>h) (bG ?_) ?_ ?_;rotate_left
                    ·intro w';go_simp;with_reducible rfl
                    rotate_left
                    ·simp only [Act.put,aX];rfl
                    refine iQ (i:=4) (N:=some 77) (v:=?_) (a':=?_) #[true,true,true,true,true,true,false,false,false,false,false,false,false,false,false,false] rfl rfl (iH gG.out zQ.out aQ) (fun _ _ _ h=>h) (bG ?_) hHeld ?_ ?_;rotate_left
                    ·rintro w' ⟨s0,s1,s2,s3,s4,s5,s6,s7,s8⟩;go_simp;with_reducible rfl
                    rotate_left
                    ·simp only [Act.put,aX];rfl
                    refine iQ (i:=6) (N:=some 79) (v:=?_) (a':=?_) #[true,true,true,true,true,true,true,false,false,false,false,false,false,false,false,false] rfl rfl (iH gG.out zQ.out aQ) (fun _ _ _ h=>h) (bG ?_) hHeld ?_ ?_;rotate_left
                    ·rintro w' ⟨s0,s1,s2,s3,s4,s5,s6,s7,s8⟩;go_simp;with_reducible rfl
                    rotate_left
                    ·simp only [Act.put,aX];rfl
                    refine bQ (i:=7) (N:=some 80) (v:=?_) (a':=?_) #[true,true,true,true,true,true,true,true,false,false,false,false,false,false,false,false] rfl rfl (bP gG.out aQ) (fun _ _ _ h=>h) (bG ?_) ?_ ?_;rotate_left
                    ·intro w';go_simp;with_reducible rfl
                    rotate_left
                    ·simp only [Act.put,aX];rfl
                    refine bQ (i:=8) (N:=some 81) (v:=?_) (a':=?_) #[true,true,true,true,true,true,true,true,true,false,false,false,false,false,false,false] rfl rfl (bP gG.out aQ) (fun _ _ _ h=>h) (bG ?_) ?_ ?_;rotate_left
                    ·intro w';go_simp;with_reducible rfl
                    rotate_left
                    ·simp only [Act.put,aX];rfl
                    refine bQ (i:=9) (N:=some 82) (v:=?_) (a':=?_) #[true,true,true,true,true,true,true,true,true,true,false,false,false,false,false,false] rfl rfl (bP gG.out aQ) (fun _ _ _ h=>h) (bG ?_) ?_ ?_;rotate_left
                    ·intro w';go_simp;with_reducible rfl
                    rotate_left
                    ·simp only [Act.put,aX];rfl
                    refine bQ (i:=10) (N:=some 83) (v:=?_) (a':=?_) #[true,true,true,true,true,true,true,true,true,true,true,false,false,false,false,false] rfl rfl (bP gG.out aQ) (fun _ _ _ h=>h) (bG ?_) ?_ ?_;rotate_left
                    ·intro w';go_simp;with_reducible rfl
                    rotate_left
                    ·simp only [Act.put,aX];rfl
                    refine bQ (i:=11) (N:=some 84) (v:=?_) (a':=?_) #[true,true,true,true,true,true,true,true,true,true,true,true,false,false,false,false] rfl rfl (bP gG.out aQ) (fun _ _ _ h=>h) (bG ?_) ?_ ?_;rotate_left
                    ·intro w';go_simp;with_reducible rfl
                    rotate_left
                    ·simp only [Act.put,aX];rfl
                    refine iQ (i:=12) (N:=some 85) (v:=?_) (a':=?_) #[true,true,true,true,true,true,true,true,true,true,true,true,true,false,false,false] rfl rfl (iH gG.out zQ.out aQ) (fun _ _ _ h=>h) (bG ?_) hHeld ?_ ?_;rotate_left
                    ·rintro w' ⟨s0,s1,s2,s3,s4,s5,s6,s7,s8⟩;go_simp;with_reducible rfl
                    rotate_left
                    ·simp only [Act.put,aX];rfl
                    refine iQ (i:=13) (N:=some 86) (v:=?_) (a':=?_) #[true,true,true,true,true,true,true,true,true,true,true,true,true,true,false,false] rfl rfl (iH gG.out zQ.out aQ) (fun _ _ _ h=>h) (bG ?_) hHeld ?_ ?_;rotate_left
                    ·rintro w' ⟨s0,s1,s2,s3,s4,s5,s6,s7,s8⟩;go_simp;with_reducible rfl
                    rotate_left
                    ·simp only [Act.put,aX];rfl
                    refine wL (i:=14) (N:=some 87) #[true,true,true,true,true,true,true,true,true,true,true,true,true,true,true,false] rfl rfl (qH gG.out aQ) (by decide) (fun K hK=>?_);refine xR Try.func40 aQ rfl #[.agg #[.string ((aI l0 oG).f0),.int .i64 ((aI l0 oG).f1),.slice Md ((aI l0 oG).f2).length Me],.agg #[.string ((aI l0 fF).f0),.int .i64 ((aI l0 fF).f1),.slice yI ((aI l0 fF).f2).length xO]] (by rfl) rfl rfl fP ?_
                    with_reducible refine (pM.calls k3 ((aI l0 oG).f0) ((aI l0 oG).f1) _ _ ((aI l0 oG).f2) ((aI l0 fF).f0) ((aI l0 fF).f1) _ _ ((aI l0 fF).f2) true _ ?fJ ?fK ?gK ?iI A55.out).mono ?_
                    (case fJ=>repeat (first|exact (Kd.dP Sm.out HB.out)|(with_reducible refine Kd.fG ?_ _)|(with_reducible refine Kd.fC ?_ _)|(with_reducible refine Kd.gJ ?_)))
                    (case fK=>exact aA5.out)
                    (case gK=>repeat (first|exact (Kd.dP GN.out HB.out)|(with_reducible refine Kd.fG ?_ _)|(with_reducible refine Kd.fC ?_ _)|(with_reducible refine Kd.gJ ?_)))
                    (case iI=>exact RZ.out)
                    rintro e w59 ⟨rfl,hb⟩;refine ⟨_,rfl,?_⟩;have bT:=aA.mk (aK (g:=mP) (o:=.cells #[.int .i64 yX,.int .i64 xC] 27 (0,0)) (aH iL.out) hb);have bW:=aA.mk (aK (g:=mO) (o:=.cells #[.string ((aI l0 fF).f0),.int .i64 ((aI l0 fF).f1),.slice yI ((aI l0 fF).f2).length xO] 54 (0,0)) (aH iM.out) hb);have dA:=aA.mk (aT (dK HB.out uI.out Aw.out) hb);clear iL;clear iM;clear HB;have iL:=bT;have iM:=bW;have HB:=dA;clear bT bW dA
                    (try clear hb)
                    (try clear hb2)
                    (try clear hk)
                    (try clear hi)
                    refine hK.out _ _ ⟨(aC iM.out 0).trans rfl,(aC iM.out 1).trans rfl,(aC iM.out 2).trans rfl,((HB.out.cell (dM w _ Ef)).trans Ef),((HB.out.cell (dM w _ Ee)).trans Ee),((HB.out.cell (dM w _ Ed)).trans Ed),((HB.out.cell (dM w _ IM)).trans IM),((HB.out.cell (dM w _ IL)).trans IL),((HB.out.cell (dM w _ IK)).trans IK)⟩ (fun hHeld=>?_);clear hK K;refine sJ (a':=?_) ?_ ?_;rotate_left
                    ·show Act.put _ (some 87) _=_;simp only [Act.put,aX];rfl
                    refine bQ (i:=15) (N:=some 88) (v:=?_) (a':=?_) #[true,true,true,true,true,true,true,true,true,true,true,true,true,true,true,true] rfl rfl (bP gG.out aQ) (fun _ _ _ h=>h) (bG ?_) ?_ ?_;rotate_left
                    ·intro w';go_simp;with_reducible rfl
                    rotate_left
                    ·simp only [Act.put,aX];rfl
                    refine sG (sH gG.out aQ) ?_
                    try go_wp2_with (first|((with_reducible refine cO (f:=23) rfl ?_);refine gI (some 90) rfl rfl Try.func23 aQ rfl #[.int .i64 7,.int .i64 fF] rfl fP ?_;(with_reducible refine (bD.calls 7 fF t222 FZ _ A57.out).mono ?_);rintro e w60 ⟨rfl,hb⟩;refine ⟨_,rfl,?_⟩;have bT:=aA.mk (aK (g:=mP) (o:=.cells #[.int .i64 yX,.int .i64 xC] 27 (0,0)) (aH iL.out) hb);have bW:=aA.mk (aK (g:=mO) (o:=.cells #[.string ((aI l0 fF).f0),.int .i64 ((aI l0 fF).f1),.slice yI ((aI l0 fF).f2).length xO] 54 (0,0)) (aH iM.out) hb);have dA:=aA.mk (aT (dK HB.out uI.out Aw.out) hb);clear iL iM HB;have iL:=bT;have iM:=bW;have HB:=dA;clear bT bW dA;have bIY:=nN.out;have bIZ:=xA.out;have bCz:w60.cell? ⟨mP,0,none⟩=some (.int .i64 yX):=(aC iL.out 0).trans rfl;have bCA:w60.cell? ⟨mP,1,none⟩=some (.int .i64 xC):=(aC iL.out 1).trans rfl;have bCB:=aG iL.out 0;have bCC:=aG iL.out 1))
                    refine bodyPost_ret (results_cell_row rfl _ _ mP 27 #[.int .i64 t222,.int .i64 FZ] (0,0) _ rfl (by refine aH ?_;refine aY (cs:=#[.int .i64 t222,.int .i64 xC]) ?_ 1 _ rfl;refine aH ?_;refine aY (cs:=#[.int .i64 yX,.int .i64 xC]) ?_ 0 _ rfl;refine aH ?_;exact iL.out) Try.underlying27 rfl aQ) rfl ?_;exact ⟨by first|rfl|(simp [bK,bM] <;> rfl)|(simp [*,bK,bM] <;> rfl),dK HB.out uI.out Aw.out⟩
                   ·replace c56:=Bool.eq_false_iff.mpr c56;subst c56;have H1:(bC.l2 k3 l0 fF (wrap64 (oG+1)) ((aI l0 fF).f0) ((aI l0 fF).f1) ((aI l0 fF).f2))=some (r1,r2):=by rw [if_neg (show ¬ (false=true) by decide)] at H;exact H
                    clear H;have H:=H1;clear H1;have H':=aA.mk H;clear H
                    try go_wp2
                    have bT:=aA.mk (dY iL.out);have bW:=aA.mk (dY iM.out);have dA:=aA.mk (fZ HB.out);clear iL;clear iM;clear HB;have iL:=bT;have iM:=bW;have HB:=dA;clear bT bW dA;have Yk:0≤(oG:Int):=dU dW;have Yl:oG<(l0.length:Int):=dU dW;obtain ⟨aCm,Md,Me,e217,zH,zI,xZ,JP,JQ⟩:=rJ HR0.out oG Yk Yl;have Ed:=xZ;have Ee:=zI;have Ef:=zH;obtain rfl:xW=aCm:=(by injection e217);replace zH:=(HB.out.cell (dM w _ zH)).trans zH;replace zI:=(HB.out.cell (dM w _ zI)).trans zI;replace xZ:=(HB.out.cell (dM w _ xZ)).trans xZ;have Si:=aA.mk JQ;have aFQ:=aA.mk JP;clear JQ JP;replace Yk:=eq_true Yk;replace Yl:=eq_true Yl;have aDX:0≤(oG:Int):=dU dW;have aDY:oG<(l0.length:Int):=dU dW;obtain ⟨aJE,aR5,aR6,e220,Fj,Fp,CZ,Sj,Sl⟩:=rJ HR0.out oG aDX aDY;have IK:=CZ;have IL:=Fp;have IM:=Fj;obtain rfl:xW=aJE:=(by injection e220);replace Fj:=(HB.out.cell (dM w _ Fj)).trans Fj
                    replace Fp:=(HB.out.cell (dM w _ Fp)).trans Fp;replace CZ:=(HB.out.cell (dM w _ CZ)).trans CZ;have Sm:=aA.mk Sl;have aA5:=aA.mk Sj;clear Sl Sj;replace aDX:=eq_true aDX;replace aDY:=eq_true aDY;have KA:=Option.some.inj (xZ.symm.trans CZ);injection KA with KA en_ ec_
                    subst KA;subst ec_;clear en_
                    refine qZ (n:=16) (S:=fun w'=>w'.cell? ⟨mO,0,none⟩=some (.string ((aI l0 fF).f0))∧w'.cell? ⟨mO,1,none⟩=some (.int .i64 ((aI l0 fF).f1))∧w'.cell? ⟨mO,2,none⟩=some (.slice yI ((aI l0 fF).f2).length xO)∧w'.cell? (xW.add ((oG).toNat*3))=some (.string ((aI l0 oG).f0))∧w'.cell? ⟨(xW.add ((oG).toNat*3)).block,(xW.add ((oG).toNat*3)).off+1,none⟩=some (.int .i64 ((aI l0 oG).f1))∧w'.cell? ⟨(xW.add ((oG).toNat*3)).block,(xW.add ((oG).toNat*3)).off+2,none⟩=some (.slice Md ((aI l0 oG).f2).length Me)∧w'.cell? (xW.add ((oG).toNat*3))=some (.string ((aI l0 oG).f0))∧w'.cell? ⟨(xW.add ((oG).toNat*3)).block,(xW.add ((oG).toNat*3)).off+1,none⟩=some (.int .i64 ((aI l0 oG).f1))∧w'.cell? ⟨(xW.add ((oG).toNat*3)).block,(xW.add ((oG).toNat*3)).off+2,none⟩=some (.slice Md ((aI l0 oG).f2).length Me)) (ds:=[]) #[false,false,false,false,false,false,false,false,false,false,false,false,false,false,false,false] aQ rfl rfl ⟨(aC iM.out 0).trans rfl,(aC iM.out 1).trans rfl,(aC iM.out 2).trans rfl,((HB.out.cell (dM w _ Ef)).trans Ef),((HB.out.cell (dM w _ Ee)).trans Ee),((HB.out.cell (dM w _ Ed)).trans Ed),((HB.out.cell (dM w _ IM)).trans IM),((HB.out.cell (dM w _ IL)).trans IL),((HB.out.cell (dM w _ IK)).trans IK)⟩ (fun hHeld=>?_);refine nK bC.aJv bC.aDT (fun gG zQ=>?_)
                    generalize wr.drew=w63 at iL iM HB Si Sm zH zI xZ Fj Fp CZ hHeld ⊢;refine bQ (i:=0) (N:=some 73) (v:=?_) (a':=?_) #[true,false,false,false,false,false,false,false,false,false,false,false,false,false,false,false] rfl rfl (bP gG.out aQ) (fun _ _ _ h=>h) (bG ?_) ?_ ?_;rotate_left
                    ·intro w';go_simp;with_reducible rfl
                    rotate_left
                    ·simp only [Act.put,aX];rfl
                    refine bQ (i:=1) (N:=some 74) (v:=?_) (a':=?_) #[true,true,false,false,false,false,false,false,false,false,false,false,false,false,false,false] rfl rfl (bP gG.out aQ) (fun _ _ _ h=>h) (bG ?_) ?_ ?_;rotate_left
                    ·intro w';go_simp;with_reducible rfl
                    rotate_left
                    ·simp only [Act.put,aX];rfl
                    refine bQ (i:=2) (N:=some 75) (v:=?_) (a':=?_) #[true,true,true,false,false,false,false,false,false,false,false,false,false,false,false,false] rfl rfl (bP gG.out aQ) (fun _ _ _ h=>h) (bG ?_) ?_ ?_;rotate_left
                    ·intro w';go_simp;with_reducible rfl
                    rotate_left
                    ·simp only [Act.put,aX];rfl
                    refine bQ (i:=3) (N:=some 76) (v:=?_) (a':=?_) #[true,true,true,true,false,false,false,false,false,false,false,false,false,false,false,false] rfl rfl (bP gG.out aQ) (fun _ _ _ h=>h) (bG ?_) ?_ ?_;rotate_left
                    ·intro w';go_simp;with_reducible rfl
                    rotate_left
                    ·simp only [Act.put,aX];rfl
                    refine bQ (i:=5) (N:=some 78) (v:=?_) (a':=?_) #[true,true,true,true,false,true,false,false,false,false,false,false,false,false,false,false] rfl rfl (bP gG.out aQ) (fun _ _ _ h=>h) (bG ?_) ?_ ?_;rotate_left
                    ·intro w';go_simp;with_reducible rfl
                    rotate_left
                    ·simp only [Act.put,aX];rfl
                    refine iQ (i:=4) (N:=some 77) (v:=?_) (a':=?_) #[true,true,true,true,true,true,false,false,false,false,false,false,false,false,false,false] rfl rfl (iH gG.out zQ.out aQ) (fun _ _ _ h=>h) (bG ?_) hHeld ?_ ?_;rotate_left
                    ·rintro w' ⟨s0,s1,s2,s3,s4,s5,s6,s7,s8⟩;go_simp;with_reducible rfl
                    rotate_left
                    ·simp only [Act.put,aX];rfl
                    refine iQ (i:=6) (N:=some 79) (v:=?_) (a':=?_) #[true,true,true,true,true,true,true,false,false,false,false,false,false,false,false,false] rfl rfl (iH gG.out zQ.out aQ) (fun _ _ _ h=>h) (bG ?_) hHeld ?_ ?_;rotate_left
                    ·rintro w' ⟨s0,s1,s2,s3,s4,s5,s6,s7,s8⟩;go_simp;with_reducible rfl
                    rotate_left
                    ·simp only [Act.put,aX];rfl
                    refine bQ (i:=7) (N:=some 80) (v:=?_) (a':=?_) #[true,true,true,true,true,true,true,true,false,false,false,false,false,false,false,false] rfl rfl (bP gG.out aQ) (fun _ _ _ h=>h) (bG ?_) ?_ ?_;rotate_left
                    ·intro w';go_simp;with_reducible rfl
                    rotate_left
                    ·simp only [Act.put,aX];rfl
                    refine bQ (i:=8) (N:=some 81) (v:=?_) (a':=?_) #[true,true,true,true,true,true,true,true,true,false,false,false,false,false,false,false] rfl rfl (bP gG.out aQ) (fun _ _ _ h=>h) (bG ?_) ?_ ?_;rotate_left
                    ·intro w';go_simp;with_reducible rfl
                    rotate_left
                    ·simp only [Act.put,aX];rfl
                    refine bQ (i:=9) (N:=some 82) (v:=?_) (a':=?_) #[true,true,true,true,true,true,true,true,true,true,false,false,false,false,false,false] rfl rfl (bP gG.out aQ) (fun _ _ _ h=>h) (bG ?_) ?_ ?_;rotate_left
                    ·intro w';go_simp;with_reducible rfl
                    rotate_left
                    ·simp only [Act.put,aX];rfl
                    refine bQ (i:=10) (N:=some 83) (v:=?_) (a':=?_) #[true,true,true,true,true,true,true,true,true,true,true,false,false,false,false,false] rfl rfl (bP gG.out aQ) (fun _ _ _ h=>h) (bG ?_) ?_ ?_;rotate_left
                    ·intro w';go_simp;with_reducible rfl
                    rotate_left
                    ·simp only [Act.put,aX];rfl
                    refine bQ (i:=11) (N:=some 84) (v:=?_) (a':=?_) #[true,true,true,true,true,true,true,true,true,true,true,true,false,false,false,false] rfl rfl (bP gG.out aQ) (fun _ _ _ h=>h) (bG ?_) ?_ ?_;rotate_left
                    ·intro w';go_simp;with_reducible rfl
                    rotate_left
                    ·simp only [Act.put,aX];rfl
                    refine iQ (i:=12) (N:=some 85) (v:=?_) (a':=?_) #[true,true,true,true,true,true,true,true,true,true,true,true,true,false,false,false] rfl rfl (iH gG.out zQ.out aQ) (fun _ _ _ h=>h) (bG ?_) hHeld ?_ ?_;rotate_left
                    ·rintro w' ⟨s0,s1,s2,s3,s4,s5,s6,s7,s8⟩;go_simp;with_reducible rfl
                    rotate_left
                    ·simp only [Act.put,aX];rfl
                    refine iQ (i:=13) (N:=some 86) (v:=?_) (a':=?_) #[true,true,true,true,true,true,true,true,true,true,true,true,true,true,false,false] rfl rfl (iH gG.out zQ.out aQ) (fun _ _ _ h=>h) (bG ?_) hHeld ?_ ?_;rotate_left
                    ·rintro w' ⟨s0,s1,s2,s3,s4,s5,s6,s7,s8⟩;go_simp;with_reducible rfl
                    rotate_left
                    ·simp only [Act.put,aX];rfl
                    refine wL (i:=14) (N:=some 87) #[true,true,true,true,true,true,true,true,true,true,true,true,true,true,true,false] rfl rfl (qH gG.out aQ) (by decide) (fun K hK=>?_);refine xR Try.func40 aQ rfl #[.agg #[.string ((aI l0 oG).f0),.int .i64 ((aI l0 oG).f1),.slice Md ((aI l0 oG).f2).length Me],.agg #[.string ((aI l0 fF).f0),.int .i64 ((aI l0 fF).f1),.slice yI ((aI l0 fF).f2).length xO]] (by rfl) rfl rfl fP ?_
                    with_reducible refine (pM.calls k3 ((aI l0 oG).f0) ((aI l0 oG).f1) _ _ ((aI l0 oG).f2) ((aI l0 fF).f0) ((aI l0 fF).f1) _ _ ((aI l0 fF).f2) false _ ?fJ ?fK ?gK ?iI A55.out).mono ?_
                    (case fJ=>repeat (first|exact (Kd.dP Sm.out HB.out)|(with_reducible refine Kd.fG ?_ _)|(with_reducible refine Kd.fC ?_ _)|(with_reducible refine Kd.gJ ?_)))
                    (case fK=>exact aA5.out)
                    (case gK=>repeat (first|exact (Kd.dP GN.out HB.out)|(with_reducible refine Kd.fG ?_ _)|(with_reducible refine Kd.fC ?_ _)|(with_reducible refine Kd.gJ ?_)))
                    (case iI=>exact RZ.out)
                    rintro e w64 ⟨rfl,hb⟩;refine ⟨_,rfl,?_⟩;have bT:=aA.mk (aK (g:=mP) (o:=.cells #[.int .i64 yX,.int .i64 xC] 27 (0,0)) (aH iL.out) hb);have bW:=aA.mk (aK (g:=mO) (o:=.cells #[.string ((aI l0 fF).f0),.int .i64 ((aI l0 fF).f1),.slice yI ((aI l0 fF).f2).length xO] 54 (0,0)) (aH iM.out) hb);have dA:=aA.mk (aT (dK HB.out uI.out Aw.out) hb);clear iL;clear iM;clear HB;have iL:=bT;have iM:=bW;have HB:=dA;clear bT bW dA
                    (try clear hb)
                    (try clear hb2)
                    (try clear hk)
                    (try clear hi)
                    refine hK.out _ _ ⟨(aC iM.out 0).trans rfl,(aC iM.out 1).trans rfl,(aC iM.out 2).trans rfl,((HB.out.cell (dM w _ Ef)).trans Ef),((HB.out.cell (dM w _ Ee)).trans Ee),((HB.out.cell (dM w _ Ed)).trans Ed),((HB.out.cell (dM w _ IM)).trans IM),((HB.out.cell (dM w _ IL)).trans IL),((HB.out.cell (dM w _ IK)).trans IK)⟩ (fun hHeld=>?_);clear hK K;refine sJ (a':=?_) ?_ ?_;rotate_left
                    ·show Act.put _ (some 87) _=_;simp only [Act.put,aX];rfl
                    refine bQ (i:=15) (N:=some 88) (v:=?_) (a':=?_) #[true,true,true,true,true,true,true,true,true,true,true,true,true,true,true,true] rfl rfl (bP gG.out aQ) (fun _ _ _ h=>h) (bG ?_) ?_ ?_;rotate_left
                    ·intro w';go_simp;with_reducible rfl
                    rotate_left
                    ·simp only [Act.put,aX];rfl
                    refine sG (sH gG.out aQ) ?_
                    try go_wp2
                    go_roundg k3
                    case measure=>have:=wU.out;have:=Ws.out;have:=MZ.out;omega
                    case rel=>exact ⟨(wrap64 (oG+1)),(yX),(xC),gV,H',⟨by have:=wU.out;have:=Ws.out;have:=MZ.out;omega⟩,⟨by refine aH ?_;exact iL.out⟩,⟨by refine aH ?_;exact iM.out⟩,⟨dK HB.out uI.out Aw.out⟩⟩
                 ·rw [if_neg c48] at H;exact absurd H (by simp)
                ·rw [if_neg Zg] at H;exact absurd H (by simp)
               ·rw [if_neg c46] at H;have aJB:decide (oG<fF)=false:=kT c46;clear c46;have H':=aA.mk H;clear H
                go_wp2
                go_roundg k3
                case measure=>have:=wU.out;have:=Ws.out;have:=MZ.out;omega
                case rel=>exact ⟨(wrap64 (fF+1)),(yX),(xC),gV,H',⟨by have:=wU.out;have:=Ws.out;have:=MZ.out;omega⟩,⟨by refine aH ?_;exact iL.out⟩,⟨dK HB.out uI.out Aw.out⟩⟩
       ·replace c13:=Bool.eq_false_iff.mpr c13;subst c13;have H1:((bD.f 3 fF).bind fun JO=>(some (JO.1,JO.2)))=some (r1,r2):=by rw [if_neg (show ¬ (false=true) by decide)] at H;exact H
        clear H;have H:=H1;clear H1;replace H:=Option.bind_eq_some_iff.mp H;obtain ⟨⟨t206,aR7⟩,aV4,H⟩:=H;replace H:(some (t206,aR7))=some (r1,r2):=H;have A65:=aA.mk aV4;clear aV4;simp only [Option.some.injEq,Prod.mk.injEq] at H;obtain ⟨rfl,rfl⟩:=H;have QD:0≤(fF:Int):=dU dW;have QE:fF<(l0.length:Int):=dU dW;obtain ⟨xW,yI,xO,aDU,AP,AQ,AU,Ff,Fg⟩:=rJ HR0.out fF QD QE
        cases aDU
        replace AP:=(HB.out.cell (dM w _ AP)).trans AP;replace AQ:=(HB.out.cell (dM w _ AQ)).trans AQ;replace AU:=(HB.out.cell (dM w _ AU)).trans AU;have GN:=aA.mk Fg;have RZ:=aA.mk Ff;clear Fg Ff;replace QD:=eq_true QD;replace QE:=eq_true QE
        go_wp2_with (first|((with_reducible refine dH (N:=4) rfl ?_);refine dB ?hg (N:=4) ?hd (cs:=#[.string (⟨#[]⟩:ByteArray),.int .i64 0,.slice none 0 0]) (t:=54) ?hr ?_;(case hd=>rfl);(case hg=>rfl);(case hr=>first|(go_simp;done)|(go_simp;rfl));intro mO hg w66 hbox hb;have bT:=aA.mk (aK (g:=mP) (o:=.cells #[.int .i64 nM,.int .i64 lQ] 27 (0,0)) (aH iL.out) hb);have bW:=aA.mk (aT (bV HB.out uI.out) hb);have dA:=aA.mk (hbox);have dN:=aA.mk ((by rw [hg];exact (aN (bV HB.out uI.out)):w.heap.size≤mO));have eY:=aA.mk ((by rw [hg];exact (aN (bV HB.out uI.out)):w.heap.size≤mO));have fV:=aA.mk ((by rw [hg];exact Nat.ne_of_lt (bU (g:=mP) (o:=.cells #[.int .i64 nM,.int .i64 lQ] 27 (0,0)) (aH iL.out)):mP≠mO));have jA:=aA.mk ((by rw [hg];exact Nat.ne_of_gt (bU (g:=mP) (o:=.cells #[.int .i64 nM,.int .i64 lQ] 27 (0,0)) (aH iL.out)):mO≠mP));clear iL HB;have iL:=bT;have HB:=bW;have iM:=dA;have aJy:=dN;have Aw:=eY;have nN:=fV;have xA:=jA;clear bT bW dA dN eY fV jA;clear hb hbox hg;have aJq:=xA.out;have aJr:=nN.out;have aFR:w66.cell? ⟨mO,0,none⟩=some (.string (⟨#[]⟩:ByteArray)):=(aC iM.out 0).trans rfl;have aFS:w66.cell? ⟨mO,1,none⟩=some (.int .i64 0):=(aC iM.out 1).trans rfl;have bCD:w66.cell? ⟨mO,2,none⟩=some (.slice none 0 0):=(aC iM.out 2).trans rfl;have aFT:=aG iM.out 0;have aFU:=aG iM.out 1;have bCE:=aG iM.out 2)|((with_reducible refine cO (f:=67) rfl ?_);refine gI (some 24) rfl rfl Try.func67 aQ rfl #[.string ((aI l0 fF).f0)] rfl fP ?_;(with_reducible refine (iC.calls k1 ((aI l0 fF).f0) true _ A10.out).mono ?_);rintro e w' ⟨rfl,⟨nd,rfl⟩⟩;refine ⟨_,rfl,?_⟩)|((with_reducible refine cO (f:=36) rfl ?_);refine gI (some 30) rfl rfl Try.func36 aQ rfl #[.int .i64 ((aI l0 fF).f1),.int .i64 0,.int .i64 255] rfl fP ?_;(with_reducible refine (bI.calls ((aI l0 fF).f1) 0 255 false _ A12.out).mono ?_);rintro e w' ⟨rfl,⟨nd,rfl⟩⟩;refine ⟨_,rfl,?_⟩)|((with_reducible refine cO (f:=23) rfl ?_);refine gI (some 33) rfl rfl Try.func23 aQ rfl #[.int .i64 3,.int .i64 fF] rfl fP ?_;(with_reducible refine (bD.calls 3 fF t206 aR7 _ A65.out).mono ?_);rintro e w69 ⟨rfl,hb⟩;refine ⟨_,rfl,?_⟩;have bT:=aA.mk (aK (g:=mP) (o:=.cells #[.int .i64 nM,.int .i64 lQ] 27 (0,0)) (by refine aH ?_;refine aU ?_ nN.out _;refine aH ?_;refine aU ?_ nN.out _;refine aH ?_;refine aU ?_ nN.out _;refine aH ?_;exact iL.out) hb);have bW:=aA.mk (aK (g:=mO) (o:=.cells #[.string ((aI l0 fF).f0),.int .i64 ((aI l0 fF).f1),.slice yI ((aI l0 fF).f2).length xO] 54 (0,0)) (by refine aH ?_;refine aY (cs:=#[.string ((aI l0 fF).f0),.int .i64 ((aI l0 fF).f1),.slice none 0 0]) ?_ 2 _ rfl;refine aH ?_;refine aY (cs:=#[.string ((aI l0 fF).f0),.int .i64 0,.slice none 0 0]) ?_ 1 _ rfl;refine aH ?_;refine aY (cs:=#[.string (⟨#[]⟩:ByteArray),.int .i64 0,.slice none 0 0]) ?_ 0 _ rfl;refine aH ?_;exact iM.out) hb);have dA:=aA.mk (aT (dK HB.out uI.out Aw.out) hb);clear iL iM HB;have iL:=bT;have iM:=bW;have HB:=dA;clear bT bW dA;have bCF:w69.cell? ⟨mP,0,none⟩=some (.int .i64 nM):=(aC iL.out 0).trans rfl;have bCG:w69.cell? ⟨mP,1,none⟩=some (.int .i64 lQ):=(aC iL.out 1).trans rfl;have bCH:=aG iL.out 0;have bCI:=aG iL.out 1))
        refine bodyPost_ret (results_cell_row rfl _ _ mP 27 #[.int .i64 t206,.int .i64 aR7] (0,0) _ rfl (by refine aH ?_;refine aY (cs:=#[.int .i64 t206,.int .i64 lQ]) ?_ 1 _ rfl;refine aH ?_;refine aY (cs:=#[.int .i64 nM,.int .i64 lQ]) ?_ 0 _ rfl;refine aH ?_;exact iL.out) Try.underlying27 rfl aQ) rfl ?_;exact ⟨by first|rfl|(simp [bK,bM] <;> rfl)|(simp [*,bK,bM] <;> rfl),dK HB.out uI.out Aw.out⟩
      ·replace c11:=Bool.eq_false_iff.mpr c11;subst c11;have H1:((bD.f 12 fF).bind fun Vk=>(some (Vk.1,Vk.2)))=some (r1,r2):=by rw [if_neg (show ¬ (false=true) by decide)] at H;exact H
       clear H;have H:=H1;clear H1;replace H:=Option.bind_eq_some_iff.mp H;obtain ⟨⟨t203,aR8⟩,aV5,H⟩:=H;replace H:(some (t203,aR8))=some (r1,r2):=H;have A71:=aA.mk aV5;clear aV5;simp only [Option.some.injEq,Prod.mk.injEq] at H;obtain ⟨rfl,rfl⟩:=H;have QD:0≤(fF:Int):=dU dW;have QE:fF<(l0.length:Int):=dU dW;obtain ⟨xW,yI,xO,aDU,AP,AQ,AU,Ff,Fg⟩:=rJ HR0.out fF QD QE
       cases aDU
       replace AP:=(HB.out.cell (dM w _ AP)).trans AP;replace AQ:=(HB.out.cell (dM w _ AQ)).trans AQ;replace AU:=(HB.out.cell (dM w _ AU)).trans AU;have GN:=aA.mk Fg;have RZ:=aA.mk Ff;clear Fg Ff;replace QD:=eq_true QD;replace QE:=eq_true QE
       go_wp2_with (first|((with_reducible refine dH (N:=4) rfl ?_);refine dB ?hg (N:=4) ?hd (cs:=#[.string (⟨#[]⟩:ByteArray),.int .i64 0,.slice none 0 0]) (t:=54) ?hr ?_;(case hd=>rfl);(case hg=>rfl);(case hr=>first|(go_simp;done)|(go_simp;rfl));intro mO hg w72 hbox hb;have bT:=aA.mk (aK (g:=mP) (o:=.cells #[.int .i64 nM,.int .i64 lQ] 27 (0,0)) (aH iL.out) hb);have bW:=aA.mk (aT (bV HB.out uI.out) hb);have dA:=aA.mk (hbox);have dN:=aA.mk ((by rw [hg];exact (aN (bV HB.out uI.out)):w.heap.size≤mO));have eY:=aA.mk ((by rw [hg];exact (aN (bV HB.out uI.out)):w.heap.size≤mO));have fV:=aA.mk ((by rw [hg];exact Nat.ne_of_lt (bU (g:=mP) (o:=.cells #[.int .i64 nM,.int .i64 lQ] 27 (0,0)) (aH iL.out)):mP≠mO));have jA:=aA.mk ((by rw [hg];exact Nat.ne_of_gt (bU (g:=mP) (o:=.cells #[.int .i64 nM,.int .i64 lQ] 27 (0,0)) (aH iL.out)):mO≠mP));clear iL HB;have iL:=bT;have HB:=bW;have iM:=dA;have aJy:=dN;have Aw:=eY;have nN:=fV;have xA:=jA;clear bT bW dA dN eY fV jA;clear hb hbox hg;have aPj:=xA.out;have aPk:=nN.out;have aFV:w72.cell? ⟨mO,0,none⟩=some (.string (⟨#[]⟩:ByteArray)):=(aC iM.out 0).trans rfl;have aFW:w72.cell? ⟨mO,1,none⟩=some (.int .i64 0):=(aC iM.out 1).trans rfl;have bCJ:w72.cell? ⟨mO,2,none⟩=some (.slice none 0 0):=(aC iM.out 2).trans rfl;have aFX:=aG iM.out 0;have aFY:=aG iM.out 1;have bCK:=aG iM.out 2)|((with_reducible refine cO (f:=67) rfl ?_);refine gI (some 24) rfl rfl Try.func67 aQ rfl #[.string ((aI l0 fF).f0)] rfl fP ?_;(with_reducible refine (iC.calls k1 ((aI l0 fF).f0) false _ A10.out).mono ?_);rintro e w' ⟨rfl,⟨nd,rfl⟩⟩;refine ⟨_,rfl,?_⟩)|((with_reducible refine cO (f:=23) rfl ?_);refine gI (some 27) rfl rfl Try.func23 aQ rfl #[.int .i64 12,.int .i64 fF] rfl fP ?_;(with_reducible refine (bD.calls 12 fF t203 aR8 _ A71.out).mono ?_);rintro e w75 ⟨rfl,hb⟩;refine ⟨_,rfl,?_⟩;have bT:=aA.mk (aK (g:=mP) (o:=.cells #[.int .i64 nM,.int .i64 lQ] 27 (0,0)) (by refine aH ?_;refine aU ?_ nN.out _;refine aH ?_;refine aU ?_ nN.out _;refine aH ?_;refine aU ?_ nN.out _;refine aH ?_;exact iL.out) hb);have bW:=aA.mk (aK (g:=mO) (o:=.cells #[.string ((aI l0 fF).f0),.int .i64 ((aI l0 fF).f1),.slice yI ((aI l0 fF).f2).length xO] 54 (0,0)) (by refine aH ?_;refine aY (cs:=#[.string ((aI l0 fF).f0),.int .i64 ((aI l0 fF).f1),.slice none 0 0]) ?_ 2 _ rfl;refine aH ?_;refine aY (cs:=#[.string ((aI l0 fF).f0),.int .i64 0,.slice none 0 0]) ?_ 1 _ rfl;refine aH ?_;refine aY (cs:=#[.string (⟨#[]⟩:ByteArray),.int .i64 0,.slice none 0 0]) ?_ 0 _ rfl;refine aH ?_;exact iM.out) hb);have dA:=aA.mk (aT (dK HB.out uI.out Aw.out) hb);clear iL iM HB;have iL:=bT;have iM:=bW;have HB:=dA;clear bT bW dA;have aFZ:w75.cell? ⟨mP,0,none⟩=some (.int .i64 nM):=(aC iL.out 0).trans rfl;have aF0:w75.cell? ⟨mP,1,none⟩=some (.int .i64 lQ):=(aC iL.out 1).trans rfl;have aF1:=aG iL.out 0;have aF2:=aG iL.out 1))
       refine bodyPost_ret (results_cell_row rfl _ _ mP 27 #[.int .i64 t203,.int .i64 aR8] (0,0) _ rfl (by refine aH ?_;refine aY (cs:=#[.int .i64 t203,.int .i64 lQ]) ?_ 1 _ rfl;refine aH ?_;refine aY (cs:=#[.int .i64 nM,.int .i64 lQ]) ?_ 0 _ rfl;refine aH ?_;exact iL.out) Try.underlying27 rfl aQ) rfl ?_;exact ⟨by first|rfl|(simp [bK,bM] <;> rfl)|(simp [*,bK,bM] <;> rfl),dK HB.out uI.out Aw.out⟩
     ·rw [if_neg c9] at H;exact absurd H (by simp)
    ·rw [if_neg c8] at H;have XU:decide (fF<(l0.length:Int))=false:=kT c8;clear c8;simp only [Option.some.injEq,Prod.mk.injEq] at H;obtain ⟨rfl,rfl⟩:=H;have bCL:wr.cell? ⟨mP,0,none⟩=some (.int .i64 nM):=(aC iL.out 0).trans rfl;have bCM:wr.cell? ⟨mP,1,none⟩=some (.int .i64 lQ):=(aC iL.out 1).trans rfl;have bCN:=aG iL.out 0;have bCO:=aG iL.out 1
     go_wp2
     refine bodyPost_ret (results_cell_row rfl _ _ mP 27 #[.int .i64 0,.int .i64 0] (0,0) _ rfl (by refine aH ?_;refine aY (cs:=#[.int .i64 0,.int .i64 lQ]) ?_ 1 _ rfl;refine aH ?_;refine aY (cs:=#[.int .i64 nM,.int .i64 lQ]) ?_ 0 _ rfl;refine aH ?_;exact iL.out) Try.underlying27 rfl aQ) rfl ?_;exact ⟨by first|rfl|(simp [bK,bM] <;> rfl)|(simp [*,bK,bM] <;> rfl),bV HB.out uI.out⟩
end Go.Proofs.Ytipjpdiianopcaa.A
