/- Words and contracts for the laws of encode. -/
import Derived.Test.YtipjpdiianopcaaqAx0
import Derived.Test.YtipjpdiianopcaaqCv
import Derived.Test.YtipjpdiianopcaaqCfl
import Derived.Test.YtipjpdiianopcaaqCen
import Derived.Test.YtipjpdiianopcaaqCcc
import Derived.Test.YtipjpdiianopcaaqAx12
import Derived.Test.YtipjpdiianopcaaqAx19
namespace Go.Proofs.Ytipjpdiianopcaa.E
open Go.RowKit Go.Proofs.YtipjpdiianopcaaW.dF Go.Proofs.YtipjpdiianopcaaW.fO Go.Proofs.YtipjpdiianopcaaW.jP Go.Proofs.Ytipjpdiianopcaa.A Go.Proofs.Ytipjpdiianopcaa.Cv Go.Proofs.Ytipjpdiianopcaa.Cfl Go.Proofs.Ytipjpdiianopcaa.Cen
attribute [local go_sem] mV mW oO oP lC lD mX mY
set_option linter.unusedVariables false
set_option linter.unusedSimpArgs false
attribute [local go_sem high] RP
attribute [local go_sem high] Eb Ec
def eH.j0:Nat→List (nJ)→List Int→Int→Int→Int→Int→Bool→Int→List Int→Int→Int→Option (List Int × Int × Int)
 | 0,_,_,_,_,_,_,_,_,_,_,_=>none
 | k+1,x0,x1,x2,x3,x4,Vj,x28,Sr,aGj,aMY,aMZ=>if x28=true then (some (([]:List Int),3,(-6))) else (if 0≤Sr then (if Sr<(x0.length:Int) then (if 0≤x3 then (if x3<(((aI x0 Sr).f2).length:Int) then ((mG.f (rd ((aI x0 Sr).f2) x3) x4).bind fun Uf=>(if Uf=true then (if x3<(aGj.length:Int) then (if 0≤x2 then (if x2≤(x1.length:Int) then ((lW.f x0 Sr (aGj.set (x3:Int).toNat x4)).bind fun Kv=>(if 0≤(wrap64 (x2+Vj)) then (if (wrap64 (x2+Vj))≤(x1.length:Int) then ((jG.f (([(x1.take (x2:Int).toNat),Kv,(x1.drop ((wrap64 (x2+Vj)):Int).toNat)]:List (List Int)))).bind fun JA=>(some (JA,aMY,aMZ))) else (none)) else (none))) else (none)) else (none)) else (none)) else (some (([]:List Int),16,(-7))))) else (none)) else (none)) else (none)) else (none))
def eH.f (k:Nat) (l0:List (nJ)) (l1:List Int) (a2:Int) (a3:Int) (a4:Int):Option (List Int × Int × Int):=(fA.f k l0 l1 a2).bind fun yN=>(if (!(yN.2.2.2.1==0) || (!(yN.2.2.2.2==0)))=true then (some (([]:List Int),yN.2.2.2.1,yN.2.2.2.2)) else (if a3<0 then (eH.j0 k l0 l1 a2 a3 a4 yN.2.2.1 true yN.1 yN.2.1 yN.2.2.2.1 yN.2.2.2.2) else (eH.j0 k l0 l1 a2 a3 a4 yN.2.2.1 (decide (a3≥(yN.2.1.length:Int))) yN.1 yN.2.1 yN.2.2.2.1 yN.2.2.2.2)))
def eH.T9:Bool × List (List Nat × List Nat):=(true,[([],[]),([],[]),([0,1],[0,1]),([],[]),([],[]),([3,4],[3,4]),([],[]),([],[]),([],[]),([7,8],[7,8]),([6,9],[6,9]),([2,5,10],[2,5,10]),([11,5],[11]),([],[]),([12,12,0,1,2,3,4,5,6,7,8,9,10,11,12],[12]),([13,14,0,1,2,3,4,5,6,7,8,9,10,11,12,13,14],[13])])
def eH.B9:List Nat:=[0,0,3,0,0,24,0,0,0,384,960,2047,4095,0,8191,32767]
theorem eH.aAB:Ap .any (opsOf Try.f53 9)=eH.T9:=by kernel_rfl
theorem eH.QY:uF eH.T9.2 eH.B9=true:=by kernel_rfl
set_option maxHeartbeats 8000000 in
set_option maxRecDepth 100000 in
theorem eH.calls (k:Nat) (A0:Option Addr) (c0:Nat) (l0:List (nJ)) (P1_:Nat→Prop) (A1:Option Addr) (c1:Nat) (l1:List Int) (a2:Int) (a3:Int) (a4:Int) (r1:List Int) (r2:Int) (r3:Int) (w:World) (hr0:Kd.C Nv w A0 l0.length l0) (hc0:l0.length≤c0) (hs1:Kd.V (Kd.int .u8) 5 w w.heap.size (fun k_=>P1_ k_) (.slice A1 l1.length c1) l1) (h:eH.f k l0 l1 a2 a3 a4=some (r1,r2,r3)) :
  Calls Try.prog 53 #[.slice A0 l0.length c0,.slice A1 l1.length c1,.int .i64 a2,.int .i64 a3,.int .i64 a4] w fun e w'=>∃ ZP:Value,e=.returned (.tuple #[ZP,.agg #[.int .i64 r2,.int .i64 r3]])∧Kd.R (Kd.int .u8) 5 w' w.heap.size (fun k_=>(w.heap.size≤k_)) ZP r1∧Below w.heap.size w w':=by
 have NL:=Try.underlying27
 have Kz:=Try.underlying65
 have HR0:=aA.mk hr0
 have Am:=aA.mk hc0
 clear hr0 hc0
 have NG:=aA.mk (show Kd.V (Kd.int .u8) 5 w w.heap.size (fun k_=>(P1_ k_∨w.heap.size≤k_)) (.slice A1 l1.length c1) l1 from Kd.Em hs1 (fun k_ hk=>.inl hk))
 have HB:=aA.mk (Below.refl w.heap.size w)
 have H:((fA.f k l0 l1 a2).bind fun yN=>(if (!(yN.2.2.2.1==0) || (!(yN.2.2.2.2==0)))=true then (some (([]:List Int),yN.2.2.2.1,yN.2.2.2.2)) else (if a3<0 then (eH.j0 k l0 l1 a2 a3 a4 yN.2.2.1 true yN.1 yN.2.1 yN.2.2.2.1 yN.2.2.2.2) else (eH.j0 k l0 l1 a2 a3 a4 yN.2.2.1 (decide (a3≥(yN.2.1.length:Int))) yN.1 yN.2.1 yN.2.2.2.1 yN.2.2.2.2))))=some (r1,r2,r3):=h
 clear h
 replace H:=Option.bind_eq_some_iff.mp H
 obtain ⟨⟨tN,t162,Ip,wW,t167⟩,Zh,H⟩:=H
 replace H:(if (!(wW==0) || (!(t167==0)))=true then (some (([]:List Int),wW,t167)) else (if a3<0 then (eH.j0 k l0 l1 a2 a3 a4 Ip true tN t162 wW t167) else (eH.j0 k l0 l1 a2 a3 a4 Ip (decide (a3≥(t162.length:Int))) tN t162 wW t167)))=some (r1,r2,r3):=H
 have A6:=aA.mk Zh
 clear Zh
 by_cases c7:(!(wW==0) || (!(t167==0)))=true
 ·rw [if_pos c7] at H
  have EJ:(!(wW==0) || (!(t167==0)))=true:=c7
  clear c7
  simp only [Option.some.injEq,Prod.mk.injEq] at H
  obtain ⟨rfl,rfl,rfl⟩:=H
  go_enter Try.func53,Try.ntmps53
  try go_wp2_with (first|((with_reducible refine dH (N:=11) rfl ?_);(try (refine dZ (by rfl) ?_;dsimp only));refine dB ?hg (N:=11) ?hd (cs:=#[.int .i64 0,.int .i64 0]) (t:=27) ?hr ?_;(case hd=>rfl);(case hg=>rfl);(case hr=>first|(go_simp;done)|(go_simp;rfl));intro kY hg w8 hbox hb;have bT:=aA.mk (Kd.Pv (Kd.KW (Ce NG.out) kY (Nat.le_of_eq hg.symm)) hb);have bW:=aA.mk (aT (dG HB.out) hb);have dA:=aA.mk (hbox);have dN:=aA.mk ((by rw [hg];exact (aN (dG HB.out)):w.heap.size≤kY));have eY:=aA.mk ((by rw [hg];exact (aN (dG HB.out)):w.heap.size≤kY));clear NG HB;have NG:=bT;have HB:=bW;have kL:=dA;have aWp:=dN;have vO:=eY;clear bT bW dA dN eY;clear hb hbox hg)|((with_reducible refine cO (f:=49) rfl ?_);refine gI (some 19) rfl rfl Try.func49 aQ rfl #[.slice A0 l0.length c0,.slice A1 l1.length c1,.int .i64 a2] rfl fP ?_;(with_reducible refine (fA.calls k _ _ l0 _ _ l1 a2 tN t162 Ip wW t167 _ ?fJ ?fK ?gK ?iI A6.out).mono ?_);(case fJ=>repeat (first|exact (Kd.dP HR0.out HB.out)|(with_reducible refine Kd.fG ?_ _)|(with_reducible refine Kd.fC ?_ _)|(with_reducible refine Kd.gJ ?_)));(case fK=>exact Am.out);(case gK=>repeat (first|exact (Kd.Hy NG.out).2.2|(with_reducible refine Kd.fG ?_ _)|(with_reducible refine Kd.fC ?_ _)|(with_reducible refine Kd.gJ ?_)));(case iI=>exact (Kd.Hy NG.out).2.1);rintro e w9 ⟨bFW,rfl,ho0,hb⟩;refine ⟨_,rfl,?_⟩;have bT:=aA.mk (Kd.Ci (Ce NG.out) (Kd.jY ho0) hb);have bW:=aA.mk (Kd.jV (Kd.Ye (M:=fun k_=>(w.heap.size≤k_)) ho0 (aN (bV HB.out vO.out)) (fun k_ h_=>h_)) (aN (bV HB.out vO.out)));have dA:=aA.mk (aK (g:=kY) (o:=.cells #[.int .i64 0,.int .i64 0] 27 (0,0)) (aH kL.out) hb);have dN:=aA.mk (aT (bV HB.out vO.out) hb);clear NG kL HB;have NG:=bT;have BG:=bW;have kL:=dA;have HB:=dN;clear bT bW dA dN)|((with_reducible refine dH (N:=12) rfl ?_);(try (refine dZ (by rfl) ?_;dsimp only));refine dB ?hg (N:=12) ?hd (cs:=#[.int .i64 0,.slice none 0 0]) (t:=65) ?hr ?_;(case hd=>rfl);(case hg=>rfl);(case hr=>first|(go_simp;done)|(go_simp;rfl));intro kG hg w10 hbox hb;have bT:=aA.mk (Kd.Pv (Kd.KW (Ce NG.out) kG (Nat.le_of_eq hg.symm)) hb);have bW:=aA.mk (Kd.dI (bH BG.out) hb);have dA:=aA.mk (aK (g:=kY) (o:=.cells #[.int .i64 0,.int .i64 0] 27 (0,0)) (aH kL.out) hb);have dN:=aA.mk (aT (bV HB.out vO.out) hb);have eY:=aA.mk (hbox);have fV:=aA.mk ((by rw [hg];exact (aN (bV HB.out vO.out)):w.heap.size≤kG));have jA:=aA.mk ((by rw [hg];exact (aN (bV HB.out vO.out)):w.heap.size≤kG));have nC:=aA.mk ((by rw [hg];exact Nat.ne_of_lt (bU (g:=kY) (o:=.cells #[.int .i64 0,.int .i64 0] 27 (0,0)) (aH kL.out)):kY≠kG));have rC:=aA.mk ((by rw [hg];exact Nat.ne_of_gt (bU (g:=kY) (o:=.cells #[.int .i64 0,.int .i64 0] 27 (0,0)) (aH kL.out)):kG≠kY));clear NG BG kL HB;have NG:=bT;have BG:=bW;have kL:=dA;have HB:=dN;have kV:=eY;have aWq:=fV;have Be:=jA;have uA:=nC;have vU:=rC;clear bT bW dA dN eY fV jA nC rC;clear hb hbox hg)|((with_reducible refine dH (N:=14) rfl ?_);(try (refine dZ (by rfl) ?_;dsimp only));refine dB ?hg (N:=14) ?hd (cs:=#[.int .i64 0,.int .i64 0]) (t:=27) ?hr ?_;(case hd=>rfl);(case hg=>rfl);(case hr=>first|(go_simp;done)|(go_simp;rfl));intro lG hg RY hbox hb;have bT:=aA.mk (Kd.Pv (Kd.KW (Ce NG.out) lG (Nat.le_of_eq hg.symm)) hb);have bW:=aA.mk (Kd.dI (bH BG.out) hb);have dA:=aA.mk (aK (g:=kY) (o:=.cells #[.int .i64 0,.int .i64 0] 27 (0,0)) (aH kL.out) hb);have dN:=aA.mk (aK (g:=kG) (o:=.cells #[.int .i64 0,.slice none 0 0] 65 (0,0)) (aH kV.out) hb);have eY:=aA.mk (aT (dK HB.out vO.out Be.out) hb);have fV:=aA.mk (hbox);have jA:=aA.mk ((by rw [hg];exact (aN (dK HB.out vO.out Be.out)):w.heap.size≤lG));have nC:=aA.mk ((by rw [hg];exact (aN (dK HB.out vO.out Be.out)):w.heap.size≤lG));have rC:=aA.mk ((by rw [hg];exact Nat.ne_of_lt (bU (g:=kY) (o:=.cells #[.int .i64 0,.int .i64 0] 27 (0,0)) (aH kL.out)):kY≠lG));have tC:=aA.mk ((by rw [hg];exact Nat.ne_of_gt (bU (g:=kY) (o:=.cells #[.int .i64 0,.int .i64 0] 27 (0,0)) (aH kL.out)):lG≠kY));have mM:=aA.mk ((by rw [hg];exact Nat.ne_of_lt (bU (g:=kG) (o:=.cells #[.int .i64 0,.slice none 0 0] 65 (0,0)) (aH kV.out)):kG≠lG));have oZ:=aA.mk ((by rw [hg];exact Nat.ne_of_gt (bU (g:=kG) (o:=.cells #[.int .i64 0,.slice none 0 0] 65 (0,0)) (aH kV.out)):lG≠kG));clear NG BG kL kV HB;have NG:=bT;have BG:=bW;have kL:=dA;have kV:=dN;have HB:=eY;have nY:=fV;have aWr:=jA;have Fv:=nC;have vV:=rC;have uB:=tC;have yY:=mM;have yZ:=oZ;clear bT bW dA dN eY fV jA nC rC tC mM oZ;clear hb hbox hg;have XA:=vU.out;have XB:=uA.out;have aWs:=yY.out;have aWt:=yZ.out;have VY:RY.cell? ⟨kG,0,none⟩=some (.int .i64 0):=(aC kV.out 0).trans rfl;have VZ:RY.cell? ⟨kG,1,none⟩=some (.slice none 0 0):=(aC kV.out 1).trans rfl;have We:=aG kV.out 0;have Wh:=aG kV.out 1;obtain ⟨VJ,VK,bFX⟩:=Kd.iK BG.out;subst bFX;have aPp:=uB.out;have aPq:=vV.out;have aFo:RY.cell? ⟨lG,0,none⟩=some (.int .i64 0):=(aC nY.out 0).trans rfl;have aFp:RY.cell? ⟨lG,1,none⟩=some (.int .i64 0):=(aC nY.out 1).trans rfl;have aFq:=aG nY.out 0;have aFr:=aG nY.out 1))
  have bT:aA (Kd.V (Kd.int .u8) 5 ((((RY.setCell ⟨kG,0,none⟩ (.int .i64 tN)).setCell ⟨kG,1,none⟩ (.slice VJ t162.length VK)).setCell ⟨lG,0,none⟩ (.int .i64 wW)).setCell ⟨lG,1,none⟩ (.int .i64 t167)) w.heap.size (fun k_=>(P1_ k_∨w.heap.size≤k_)∧some k_≠(.slice VJ t162.length VK:Value).ownBlock∧k_≠kY∧k_≠kG∧k_≠lG) (.slice A1 l1.length c1) l1):=⟨by refine Ce ?_;exact Kd.Em (Kd.Nc (p:=⟨lG,1,none⟩) (Kd.Nc (p:=⟨lG,0,none⟩) (Kd.Nc (p:=⟨kG,1,none⟩) (Kd.Nc (p:=⟨kG,0,none⟩) (Kd.Em (Kd.Em NG.out (fun k_ hk=>(⟨hk,hk.1.2⟩:_∧k_≠kG))) (fun k_ hk=>(⟨hk,hk.1.2⟩:_∧k_≠lG))) (fun _ hk=>hk.1.2) (.int .i64 tN)) (fun _ hk=>hk.1.2) (.slice VJ t162.length VK)) (fun _ hk=>hk.2) (.int .i64 wW)) (fun _ hk=>hk.2) (.int .i64 t167)) (fun _ hk=>⟨hk.1.1.1.1.1.1,⟨hk.1.1.1.1.2,⟨hk.1.1.1.1.1.2,⟨hk.1.1.1.2,hk.1.1.2⟩⟩⟩⟩)⟩
  have bW:aA (Kd.R (Kd.int .i64) 3 ((((RY.setCell ⟨kG,0,none⟩ (.int .i64 tN)).setCell ⟨kG,1,none⟩ (.slice VJ t162.length VK)).setCell ⟨lG,0,none⟩ (.int .i64 wW)).setCell ⟨lG,1,none⟩ (.int .i64 t167)) w.heap.size (fun k_=>(w.heap.size≤k_)) (.slice VJ t162.length VK) t162):=⟨by refine bH ?_;exact Kd.dX (Kd.dO (p:=⟨lG,1,none⟩) (Kd.dO (p:=⟨lG,0,none⟩) (Kd.dO (p:=⟨kG,1,none⟩) (Kd.dO (p:=⟨kG,0,none⟩) (Kd.dV (Kd.dV BG.out kV.out (by decide)) nY.out (by decide)) (fun _ hk=>hk.1.2) (.int .i64 tN)) (fun _ hk=>hk.1.2) (.slice VJ t162.length VK)) (fun _ hk=>hk.2) (.int .i64 wW)) (fun _ hk=>hk.2) (.int .i64 t167)) (fun _ hk=>hk.1.1.1)⟩
  have dA:aA (((((RY.setCell ⟨kG,0,none⟩ (.int .i64 tN)).setCell ⟨kG,1,none⟩ (.slice VJ t162.length VK)).setCell ⟨lG,0,none⟩ (.int .i64 wW)).setCell ⟨lG,1,none⟩ (.int .i64 t167)).heap[kY]?=some (.cells #[.int .i64 0,.int .i64 0] 27 (0,0))):=⟨by refine aH ?_;refine aU ?_ vV.out _;refine aH ?_;refine aU ?_ vV.out _;refine aH ?_;refine aU ?_ uA.out _;refine aH ?_;refine aU ?_ uA.out _;refine aH ?_;exact kL.out⟩
  have dN:aA (((((RY.setCell ⟨kG,0,none⟩ (.int .i64 tN)).setCell ⟨kG,1,none⟩ (.slice VJ t162.length VK)).setCell ⟨lG,0,none⟩ (.int .i64 wW)).setCell ⟨lG,1,none⟩ (.int .i64 t167)).heap[kG]?=some (.cells #[.int .i64 tN,.slice VJ t162.length VK] 65 (0,0))):=⟨by refine aH ?_;refine aU ?_ yY.out _;refine aH ?_;refine aU ?_ yY.out _;refine aH ?_;refine aY (cs:=#[.int .i64 tN,.slice none 0 0]) ?_ 1 _ rfl;refine aH ?_;refine aY (cs:=#[.int .i64 0,.slice none 0 0]) ?_ 0 _ rfl;refine aH ?_;exact kV.out⟩
  have eY:aA (((((RY.setCell ⟨kG,0,none⟩ (.int .i64 tN)).setCell ⟨kG,1,none⟩ (.slice VJ t162.length VK)).setCell ⟨lG,0,none⟩ (.int .i64 wW)).setCell ⟨lG,1,none⟩ (.int .i64 t167)).heap[lG]?=some (.cells #[.int .i64 wW,.int .i64 t167] 27 (0,0))):=⟨by refine aH ?_;refine aY (cs:=#[.int .i64 wW,.int .i64 0]) ?_ 1 _ rfl;refine aH ?_;refine aY (cs:=#[.int .i64 0,.int .i64 0]) ?_ 0 _ rfl;refine aH ?_;refine aU ?_ yZ.out _;refine aH ?_;refine aU ?_ yZ.out _;refine aH ?_;exact nY.out⟩
  have fV:aA (Below w.heap.size w ((((RY.setCell ⟨kG,0,none⟩ (.int .i64 tN)).setCell ⟨kG,1,none⟩ (.slice VJ t162.length VK)).setCell ⟨lG,0,none⟩ (.int .i64 wW)).setCell ⟨lG,1,none⟩ (.int .i64 t167))):=⟨eG HB.out vO.out Be.out Fv.out⟩
  (try clear NG)
  (try clear BG)
  (try clear kL)
  (try clear kV)
  (try clear nY)
  (try clear HB)
  generalize ((((RY.setCell ⟨kG,0,none⟩ (.int .i64 tN)).setCell ⟨kG,1,none⟩ (.slice VJ t162.length VK)).setCell ⟨lG,0,none⟩ (.int .i64 wW)).setCell ⟨lG,1,none⟩ (.int .i64 t167))=w18 at bT bW dA dN eY fV ⊢
  have NG:=bT
  have BG:=bW
  have kL:=dA
  have kV:=dN
  have nY:=eY
  have HB:=fV
  clear bT bW dA dN eY fV
  have bT:=aA.mk (Kd.aD0 NG.out)
  have bW:=aA.mk (Kd.qG BG.out)
  have dA:=aA.mk (dY kL.out)
  have dN:=aA.mk (dY kV.out)
  have eY:=aA.mk (dY nY.out)
  have fV:=aA.mk (fZ HB.out)
  clear NG
  clear BG
  clear kL
  clear kV
  clear nY
  clear HB
  have NG:=bT
  have BG:=bW
  have kL:=dA
  have kV:=dN
  have nY:=eY
  have HB:=fV
  clear bT bW dA dN eY fV
  refine qZ (n:=3) (S:=fun w'=>w'.cell? ⟨lG,0,none⟩=some (.int .i64 wW)∧w'.cell? ⟨lG,1,none⟩=some (.int .i64 t167)) (ds:=[]) #[false,false,false] aQ rfl rfl ⟨(aC nY.out 0).trans rfl,(aC nY.out 1).trans rfl⟩ (fun hHeld=>?_)
  generalize w18.drew=XX at NG BG kL kV nY HB hHeld ⊢
  refine bQ (i:=1) (N:=some 10) (v:=?_) (a':=?_) #[false,true,false] rfl rfl aQ (fun _ _ _ h=>h) (bG ?_) ?_ ?_
  rotate_left
  ·intro w';go_simp;with_reducible rfl
  rotate_left
  ·simp only [Act.put,aX];rfl
  refine iQ (i:=0) (N:=some 27) (v:=?_) (a':=?_) #[true,true,false] rfl rfl aQ (fun _ _ _ h=>h) (bG ?_) hHeld ?_ ?_
  rotate_left
  ·rintro w' ⟨s0,s1⟩;go_simp;with_reducible rfl
  rotate_left
  ·simp only [Act.put,aX];rfl
  refine wL (i:=2) (N:=none) #[true,true,true] rfl rfl aQ (by decide) (fun K hK=>?_)
  have bFx:XX.cell? ⟨kY,0,none⟩=some (.int .i64 0):=(aC kL.out 0).trans rfl
  have aVG:=aG kL.out 0
  have bCQ:=vU.out
  have aL9:=uB.out
  have bCR:=uA.out
  have aL_:=vV.out
  have bFy:XX.cell? ⟨kY,1,none⟩=some (.int .i64 0):=(aC kL.out 1).trans rfl
  have aVH:=aG kL.out 1
  have bCS:=vU.out
  have aMa:=uB.out
  have bCT:=uA.out
  have aMb:=vV.out
  refine BP (w1:=?_) (by rfl) rfl ?_ ?_
  rotate_left
  ·go_simp;rfl
  refine hK.out _ _ ⟨((cell_far (p:=⟨kY,_,none⟩) uB.out _).trans (((cell_far (p:=⟨kY,_,none⟩) uB.out _).trans (hHeld.1)))),((cell_far (p:=⟨kY,_,none⟩) uB.out _).trans (((cell_far (p:=⟨kY,_,none⟩) uB.out _).trans (hHeld.2))))⟩ (fun hHeld=>?_)
  clear hK K
  refine sG aQ ?_
  try go_wp2
  refine bodyPost_ret (zS rfl _ _ kY 27 #[.int .i64 wW,.int .i64 t167] (0,0) _ rfl (by refine aH ?_;refine aY (cs:=#[.int .i64 wW,.int .i64 0]) ?_ 1 _ rfl;refine aH ?_;refine aY (cs:=#[.int .i64 0,.int .i64 0]) ?_ 0 _ rfl;refine aH ?_;exact kL.out) Try.underlying27 rfl aQ) rfl ?_
  exact ⟨_,by first|rfl|(simp [bK,bM] <;> rfl)|(simp [*,bK,bM] <;> rfl),by first|exact Kd.BV _ _ _ _ _|exact Kd.KE _ _ _ _ _|exact Kd.KF _ _ _ _ _|exact Kd.KG _ _ _ _ _|exact Kd.KH _ _ _ _ _,eG HB.out vO.out Be.out Fv.out⟩
 ·rw [if_neg c7] at H
  have EJ:(!(wW==0) || (!(t167==0)))=false:=by simpa using c7
  clear c7
  have aR_:=aA.mk H
  clear H
  go_enter Try.func53,Try.ntmps53
  go_upto_region 4 with (first|((with_reducible refine dH (N:=11) rfl ?_);(try (refine dZ (by rfl) ?_;dsimp only));refine dB ?hg (N:=11) ?hd (cs:=#[.int .i64 0,.int .i64 0]) (t:=27) ?hr ?_;(case hd=>rfl);(case hg=>rfl);(case hr=>first|(go_simp;done)|(go_simp;rfl));intro kY hg w23 hbox hb;have bT:=aA.mk (Kd.Pv (Kd.KW (Ce NG.out) kY (Nat.le_of_eq hg.symm)) hb);have bW:=aA.mk (aT (dG HB.out) hb);have dA:=aA.mk (hbox);have dN:=aA.mk ((by rw [hg];exact (aN (dG HB.out)):w.heap.size≤kY));have eY:=aA.mk ((by rw [hg];exact (aN (dG HB.out)):w.heap.size≤kY));clear NG HB;have NG:=bT;have HB:=bW;have kL:=dA;have aWp:=dN;have vO:=eY;clear bT bW dA dN eY;clear hb hbox hg)|((with_reducible refine cO (f:=49) rfl ?_);refine gI (some 19) rfl rfl Try.func49 aQ rfl #[.slice A0 l0.length c0,.slice A1 l1.length c1,.int .i64 a2] rfl fP ?_;(with_reducible refine (fA.calls k _ _ l0 _ _ l1 a2 tN t162 Ip wW t167 _ ?fJ ?fK ?gK ?iI A6.out).mono ?_);(case fJ=>repeat (first|exact (Kd.dP HR0.out HB.out)|(with_reducible refine Kd.fG ?_ _)|(with_reducible refine Kd.fC ?_ _)|(with_reducible refine Kd.gJ ?_)));(case fK=>exact Am.out);(case gK=>repeat (first|exact (Kd.Hy NG.out).2.2|(with_reducible refine Kd.fG ?_ _)|(with_reducible refine Kd.fC ?_ _)|(with_reducible refine Kd.gJ ?_)));(case iI=>exact (Kd.Hy NG.out).2.1);rintro e w24 ⟨bFW,rfl,ho0,hb⟩;refine ⟨_,rfl,?_⟩;have bT:=aA.mk (Kd.Ci (Ce NG.out) (Kd.jY ho0) hb);have bW:=aA.mk (Kd.jV (Kd.Ye (M:=fun k_=>(w.heap.size≤k_)) ho0 (aN (bV HB.out vO.out)) (fun k_ h_=>h_)) (aN (bV HB.out vO.out)));have dA:=aA.mk (aK (g:=kY) (o:=.cells #[.int .i64 0,.int .i64 0] 27 (0,0)) (aH kL.out) hb);have dN:=aA.mk (aT (bV HB.out vO.out) hb);clear NG kL HB;have NG:=bT;have BG:=bW;have kL:=dA;have HB:=dN;clear bT bW dA dN)|((with_reducible refine dH (N:=12) rfl ?_);(try (refine dZ (by rfl) ?_;dsimp only));refine dB ?hg (N:=12) ?hd (cs:=#[.int .i64 0,.slice none 0 0]) (t:=65) ?hr ?_;(case hd=>rfl);(case hg=>rfl);(case hr=>first|(go_simp;done)|(go_simp;rfl));intro kG hg w25 hbox hb;have bT:=aA.mk (Kd.Pv (Kd.KW (Ce NG.out) kG (Nat.le_of_eq hg.symm)) hb);have bW:=aA.mk (Kd.dI (bH BG.out) hb);have dA:=aA.mk (aK (g:=kY) (o:=.cells #[.int .i64 0,.int .i64 0] 27 (0,0)) (aH kL.out) hb);have dN:=aA.mk (aT (bV HB.out vO.out) hb);have eY:=aA.mk (hbox);have fV:=aA.mk ((by rw [hg];exact (aN (bV HB.out vO.out)):w.heap.size≤kG));have jA:=aA.mk ((by rw [hg];exact (aN (bV HB.out vO.out)):w.heap.size≤kG));have nC:=aA.mk ((by rw [hg];exact Nat.ne_of_lt (bU (g:=kY) (o:=.cells #[.int .i64 0,.int .i64 0] 27 (0,0)) (aH kL.out)):kY≠kG));have rC:=aA.mk ((by rw [hg];exact Nat.ne_of_gt (bU (g:=kY) (o:=.cells #[.int .i64 0,.int .i64 0] 27 (0,0)) (aH kL.out)):kG≠kY));clear NG BG kL HB;have NG:=bT;have BG:=bW;have kL:=dA;have HB:=dN;have kV:=eY;have aWq:=fV;have Be:=jA;have uA:=nC;have vU:=rC;clear bT bW dA dN eY fV jA nC rC;clear hb hbox hg)|((with_reducible refine dH (N:=14) rfl ?_);(try (refine dZ (by rfl) ?_;dsimp only));refine dB ?hg (N:=14) ?hd (cs:=#[.int .i64 0,.int .i64 0]) (t:=27) ?hr ?_;(case hd=>rfl);(case hg=>rfl);(case hr=>first|(go_simp;done)|(go_simp;rfl));intro lG hg w26 hbox hb;have bT:=aA.mk (Kd.Pv (Kd.KW (Ce NG.out) lG (Nat.le_of_eq hg.symm)) hb);have bW:=aA.mk (Kd.dI (bH BG.out) hb);have dA:=aA.mk (aK (g:=kY) (o:=.cells #[.int .i64 0,.int .i64 0] 27 (0,0)) (aH kL.out) hb);have dN:=aA.mk (aK (g:=kG) (o:=.cells #[.int .i64 0,.slice none 0 0] 65 (0,0)) (aH kV.out) hb);have eY:=aA.mk (aT (dK HB.out vO.out Be.out) hb);have fV:=aA.mk (hbox);have jA:=aA.mk ((by rw [hg];exact (aN (dK HB.out vO.out Be.out)):w.heap.size≤lG));have nC:=aA.mk ((by rw [hg];exact (aN (dK HB.out vO.out Be.out)):w.heap.size≤lG));have rC:=aA.mk ((by rw [hg];exact Nat.ne_of_lt (bU (g:=kY) (o:=.cells #[.int .i64 0,.int .i64 0] 27 (0,0)) (aH kL.out)):kY≠lG));have tC:=aA.mk ((by rw [hg];exact Nat.ne_of_gt (bU (g:=kY) (o:=.cells #[.int .i64 0,.int .i64 0] 27 (0,0)) (aH kL.out)):lG≠kY));have mM:=aA.mk ((by rw [hg];exact Nat.ne_of_lt (bU (g:=kG) (o:=.cells #[.int .i64 0,.slice none 0 0] 65 (0,0)) (aH kV.out)):kG≠lG));have oZ:=aA.mk ((by rw [hg];exact Nat.ne_of_gt (bU (g:=kG) (o:=.cells #[.int .i64 0,.slice none 0 0] 65 (0,0)) (aH kV.out)):lG≠kG));clear NG BG kL kV HB;have NG:=bT;have BG:=bW;have kL:=dA;have kV:=dN;have HB:=eY;have nY:=fV;have aWr:=jA;have Fv:=nC;have vV:=rC;have uB:=tC;have yY:=mM;have yZ:=oZ;clear bT bW dA dN eY fV jA nC rC tC mM oZ;clear hb hbox hg;have aBM:=vU.out;have aBN:=uA.out;have aOQ:=yY.out;have aOR:=yZ.out;have OI:w26.cell? ⟨kG,0,none⟩=some (.int .i64 0):=(aC kV.out 0).trans rfl;have OJ:w26.cell? ⟨kG,1,none⟩=some (.slice none 0 0):=(aC kV.out 1).trans rfl;have OL:=aG kV.out 0;have OM:=aG kV.out 1;obtain ⟨QF,Cj,bFY⟩:=Kd.iK BG.out;subst bFY;have aFI:=uB.out;have aFJ:=vV.out;have aFK:w26.cell? ⟨lG,0,none⟩=some (.int .i64 0):=(aC nY.out 0).trans rfl;have aFL:w26.cell? ⟨lG,1,none⟩=some (.int .i64 0):=(aC nY.out 1).trans rfl;have aFM:=aG nY.out 0;have aFN:=aG nY.out 1))
  (try simp only [Act.put,JF,Gf,Jh])
  go_cut [28] (fun v28 wc=>∃ (kq:Nat) (aA7:Bool),v28=.bool aA7∧aA (eH.j0 kq l0 l1 a2 a3 a4 Ip aA7 tN t162 wW t167=some (r1,r2,r3))∧aA (kq≤k)∧aA (Kd.V (Kd.int .u8) 5 wc w.heap.size (fun k_=>(P1_ k_∨w.heap.size≤k_)∧some k_≠((.slice QF t162.length Cj):Value).ownBlock∧k_≠kY∧k_≠kG∧k_≠lG) (.slice A1 l1.length c1) l1)∧aA (Kd.R (Kd.int .i64) 3 wc w.heap.size (fun k_=>(w.heap.size≤k_)) (.slice QF t162.length Cj) t162)∧aA (wc.heap[kY]?=some (.cells #[.int .i64 0,.int .i64 0] 27 (0,0)))∧aA (wc.heap[kG]?=some (.cells #[.int .i64 tN,(.slice QF t162.length Cj)] 65 (0,0)))∧aA (wc.heap[lG]?=some (.cells #[.int .i64 wW,.int .i64 t167] 27 (0,0)))∧aA (Below w.heap.size w wc))
  case first =>
   have H:=aR_.out;clear aR_
   by_cases c33:a3<0
   ·rw [if_pos c33] at H;have Yp:decide (a3<0)=true:=fB c33;clear c33
    (first|rw [Yp]|(simp only [nX,tY];rw [Yp])|skip)
    have H':=aA.mk H;clear H
    go_wp2
    go_meet
    case rel=>exact ⟨_,(true),gV,H',⟨by first|omega|exact Nat.le_refl _⟩,⟨by refine Ce ?_;exact Kd.Em (Kd.Nc (p:=⟨lG,1,none⟩) (Kd.Nc (p:=⟨lG,0,none⟩) (Kd.Nc (p:=⟨kG,1,none⟩) (Kd.Nc (p:=⟨kG,0,none⟩) (Kd.Em (Kd.Em NG.out (fun k_ hk=>(⟨hk,hk.1.2⟩:_∧k_≠kG))) (fun k_ hk=>(⟨hk,hk.1.2⟩:_∧k_≠lG))) (fun _ hk=>hk.1.2) (.int .i64 tN)) (fun _ hk=>hk.1.2) (.slice QF t162.length Cj)) (fun _ hk=>hk.2) (.int .i64 wW)) (fun _ hk=>hk.2) (.int .i64 t167)) (fun _ hk=>⟨hk.1.1.1.1.1.1,⟨hk.1.1.1.1.2,⟨hk.1.1.1.1.1.2,⟨hk.1.1.1.2,hk.1.1.2⟩⟩⟩⟩)⟩,⟨by refine bH ?_;exact Kd.dX (Kd.dO (p:=⟨lG,1,none⟩) (Kd.dO (p:=⟨lG,0,none⟩) (Kd.dO (p:=⟨kG,1,none⟩) (Kd.dO (p:=⟨kG,0,none⟩) (Kd.dV (Kd.dV BG.out kV.out (by decide)) nY.out (by decide)) (fun _ hk=>hk.1.2) (.int .i64 tN)) (fun _ hk=>hk.1.2) (.slice QF t162.length Cj)) (fun _ hk=>hk.2) (.int .i64 wW)) (fun _ hk=>hk.2) (.int .i64 t167)) (fun _ hk=>hk.1.1.1)⟩,⟨by refine aH ?_;refine aU ?_ vV.out _;refine aH ?_;refine aU ?_ vV.out _;refine aH ?_;refine aU ?_ uA.out _;refine aH ?_;refine aU ?_ uA.out _;refine aH ?_;exact kL.out⟩,⟨by refine aH ?_;refine aU ?_ yY.out _;refine aH ?_;refine aU ?_ yY.out _;refine aH ?_;refine aY (cs:=#[.int .i64 tN,.slice none 0 0]) ?_ 1 _ rfl;refine aH ?_;refine aY (cs:=#[.int .i64 0,.slice none 0 0]) ?_ 0 _ rfl;refine aH ?_;exact kV.out⟩,⟨by refine aH ?_;refine aY (cs:=#[.int .i64 wW,.int .i64 0]) ?_ 1 _ rfl;refine aH ?_;refine aY (cs:=#[.int .i64 0,.int .i64 0]) ?_ 0 _ rfl;refine aH ?_;refine aU ?_ yZ.out _;refine aH ?_;refine aU ?_ yZ.out _;refine aH ?_;exact nY.out⟩,⟨eG HB.out vO.out Be.out Fv.out⟩⟩
   ·rw [if_neg c33] at H;have Yp:decide (a3<0)=false:=kT c33;clear c33
    (first|rw [Yp]|(simp only [nX,tY];rw [Yp])|skip)
    have H':=aA.mk H;clear H;have Yi:=vU.out;have Yj:=uA.out;have aCb:=yY.out;have aCc:=yZ.out;have Ro:w26.cell? ⟨kG,0,none⟩=some (.int .i64 0):=(aC kV.out 0).trans rfl;have Rq:w26.cell? ⟨kG,1,none⟩=some (.slice none 0 0):=(aC kV.out 1).trans rfl;have Rt:=aG kV.out 0;have Ru:=aG kV.out 1
    go_wp2
    go_meet
    case rel=>exact ⟨_,(decide (a3≥(t162.length:Int))),gV,H',⟨by first|omega|exact Nat.le_refl _⟩,⟨by refine Ce ?_;exact Kd.Em (Kd.Nc (p:=⟨lG,1,none⟩) (Kd.Nc (p:=⟨lG,0,none⟩) (Kd.Nc (p:=⟨kG,1,none⟩) (Kd.Nc (p:=⟨kG,0,none⟩) (Kd.Em (Kd.Em NG.out (fun k_ hk=>(⟨hk,hk.1.2⟩:_∧k_≠kG))) (fun k_ hk=>(⟨hk,hk.1.2⟩:_∧k_≠lG))) (fun _ hk=>hk.1.2) (.int .i64 tN)) (fun _ hk=>hk.1.2) (.slice QF t162.length Cj)) (fun _ hk=>hk.2) (.int .i64 wW)) (fun _ hk=>hk.2) (.int .i64 t167)) (fun _ hk=>⟨hk.1.1.1.1.1.1,⟨hk.1.1.1.1.2,⟨hk.1.1.1.1.1.2,⟨hk.1.1.1.2,hk.1.1.2⟩⟩⟩⟩)⟩,⟨by refine bH ?_;exact Kd.dX (Kd.dO (p:=⟨lG,1,none⟩) (Kd.dO (p:=⟨lG,0,none⟩) (Kd.dO (p:=⟨kG,1,none⟩) (Kd.dO (p:=⟨kG,0,none⟩) (Kd.dV (Kd.dV BG.out kV.out (by decide)) nY.out (by decide)) (fun _ hk=>hk.1.2) (.int .i64 tN)) (fun _ hk=>hk.1.2) (.slice QF t162.length Cj)) (fun _ hk=>hk.2) (.int .i64 wW)) (fun _ hk=>hk.2) (.int .i64 t167)) (fun _ hk=>hk.1.1.1)⟩,⟨by refine aH ?_;refine aU ?_ vV.out _;refine aH ?_;refine aU ?_ vV.out _;refine aH ?_;refine aU ?_ uA.out _;refine aH ?_;refine aU ?_ uA.out _;refine aH ?_;exact kL.out⟩,⟨by refine aH ?_;refine aU ?_ yY.out _;refine aH ?_;refine aU ?_ yY.out _;refine aH ?_;refine aY (cs:=#[.int .i64 tN,.slice none 0 0]) ?_ 1 _ rfl;refine aH ?_;refine aY (cs:=#[.int .i64 0,.slice none 0 0]) ?_ 0 _ rfl;refine aH ?_;exact kV.out⟩,⟨by refine aH ?_;refine aY (cs:=#[.int .i64 wW,.int .i64 0]) ?_ 1 _ rfl;refine aH ?_;refine aY (cs:=#[.int .i64 0,.int .i64 0]) ?_ 0 _ rfl;refine aH ?_;refine aU ?_ yZ.out _;refine aH ?_;refine aU ?_ yZ.out _;refine aH ?_;exact nY.out⟩,⟨eG HB.out vO.out Be.out Fv.out⟩⟩
  case rest =>
   clear aR_;obtain ⟨kq,aA7,rfl,HA,bLu,Hz,kN,kL,kV,nY,HB⟩:=hcut
   cases kq with
   | zero=>exact absurd HA.out (by simp [eH.j0])
   | succ bLv =>
    have H:=HA.out;clear HA;simp only [eH.j0] at H
    by_cases c37:aA7=true
    ·subst c37;have H1:(some (([]:List Int),3,(-6)))=some (r1,r2,r3):=by rw [if_pos rfl] at H;exact H
     clear H;have H:=H1;clear H1;simp only [Option.some.injEq,Prod.mk.injEq] at H;obtain ⟨rfl,rfl,rfl⟩:=H;have aWh:=uA.out;have aWi:=vU.out;have aJJ:=vV.out;have aJK:=uB.out;have aGb:wc.cell? ⟨kY,0,none⟩=some (.int .i64 0):=(aC kL.out 0).trans rfl;have aGc:wc.cell? ⟨kY,1,none⟩=some (.int .i64 0):=(aC kL.out 1).trans rfl;have aGd:=aG kL.out 0;have aGe:=aG kL.out 1
     go_wp2
     refine bodyPost_ret (zS rfl _ _ kY 27 #[.int .i64 3,.int .i64 (-6)] (0,0) _ rfl (by refine aH ?_;refine aY (cs:=#[.int .i64 3,.int .i64 0]) ?_ 1 _ rfl;refine aH ?_;refine aY (cs:=#[.int .i64 0,.int .i64 0]) ?_ 0 _ rfl;refine aH ?_;exact kL.out) Try.underlying27 rfl aQ) rfl ?_;exact ⟨_,by first|rfl|(simp [bK,bM] <;> rfl)|(simp [*,bK,bM] <;> rfl),by first|exact Kd.BV _ _ _ _ _|exact Kd.KE _ _ _ _ _|exact Kd.KF _ _ _ _ _|exact Kd.KG _ _ _ _ _|exact Kd.KH _ _ _ _ _,eG HB.out vO.out Be.out Fv.out⟩
    ·replace c37:=Bool.eq_false_iff.mpr c37;subst c37;have H1:(if 0≤tN then (if tN<(l0.length:Int) then (if 0≤a3 then (if a3<(((aI l0 tN).f2).length:Int) then ((mG.f (rd ((aI l0 tN).f2) a3) a4).bind fun Uf=>(if Uf=true then (if a3<(t162.length:Int) then (if 0≤a2 then (if a2≤(l1.length:Int) then ((lW.f l0 tN (t162.set (a3:Int).toNat a4)).bind fun Kv=>(if 0≤(wrap64 (a2+Ip)) then (if (wrap64 (a2+Ip))≤(l1.length:Int) then ((jG.f (([(l1.take (a2:Int).toNat),Kv,(l1.drop ((wrap64 (a2+Ip)):Int).toNat)]:List (List Int)))).bind fun JA=>(some (JA,wW,t167))) else (none)) else (none))) else (none)) else (none)) else (none)) else (some (([]:List Int),16,(-7))))) else (none)) else (none)) else (none)) else (none))=some (r1,r2,r3):=by rw [if_neg (show ¬ (false=true) by decide)] at H;exact H
     clear H;have H:=H1;clear H1
     by_cases c41:0≤tN
     ·rw [if_pos c41] at H;have aPz:decide (0≤tN)=true:=fB c41;clear c41
      by_cases c42:tN<(l0.length:Int)
      ·rw [if_pos c42] at H;have bI6:decide (tN<(l0.length:Int))=true:=fB c42;clear c42
       by_cases c43:0≤a3
       ·rw [if_pos c43] at H;have bI7:decide (0≤a3)=true:=fB c43;clear c43
        by_cases c44:a3<(((aI l0 tN).f2).length:Int)
        ·rw [if_pos c44] at H;have ZZ:decide (a3<(((aI l0 tN).f2).length:Int))=true:=fB c44;clear c44;replace H:=Option.bind_eq_some_iff.mp H;obtain ⟨Uf,aCd,H⟩:=H;replace H:(if Uf=true then (if a3<(t162.length:Int) then (if 0≤a2 then (if a2≤(l1.length:Int) then ((lW.f l0 tN (t162.set (a3:Int).toNat a4)).bind fun Kv=>(if 0≤(wrap64 (a2+Ip)) then (if (wrap64 (a2+Ip))≤(l1.length:Int) then ((jG.f (([(l1.take (a2:Int).toNat),Kv,(l1.drop ((wrap64 (a2+Ip)):Int).toNat)]:List (List Int)))).bind fun JA=>(some (JA,wW,t167))) else (none)) else (none))) else (none)) else (none)) else (none)) else (some (([]:List Int),16,(-7))))=some (r1,r2,r3):=H;have A45:=aA.mk aCd;clear aCd
         by_cases c46:Uf=true
         ·subst c46;have H1:(if a3<(t162.length:Int) then (if 0≤a2 then (if a2≤(l1.length:Int) then ((lW.f l0 tN (t162.set (a3:Int).toNat a4)).bind fun Kv=>(if 0≤(wrap64 (a2+Ip)) then (if (wrap64 (a2+Ip))≤(l1.length:Int) then ((jG.f (([(l1.take (a2:Int).toNat),Kv,(l1.drop ((wrap64 (a2+Ip)):Int).toNat)]:List (List Int)))).bind fun JA=>(some (JA,wW,t167))) else (none)) else (none))) else (none)) else (none)) else (none))=some (r1,r2,r3):=by rw [if_pos rfl] at H;exact H
          clear H;have H:=H1;clear H1
          by_cases Zg:a3<(t162.length:Int)
          ·rw [if_pos Zg] at H;have aFO:decide (a3<(t162.length:Int))=true:=fB Zg;clear Zg;obtain ⟨aD1,aCs⟩:∃ y_:List Int,y_=(t162.set (a3:Int).toNat a4):=⟨_,rfl⟩
           replace H:(if 0≤a2 then (if a2≤(l1.length:Int) then ((lW.f l0 tN aD1).bind fun Kv=>(if 0≤(wrap64 (a2+Ip)) then (if (wrap64 (a2+Ip))≤(l1.length:Int) then ((jG.f (([(l1.take (a2:Int).toNat),Kv,(l1.drop ((wrap64 (a2+Ip)):Int).toNat)]:List (List Int)))).bind fun JA=>(some (JA,wW,t167))) else (none)) else (none))) else (none)) else (none))=some (r1,r2,r3):=by first|(rw [aCs];with_reducible exact H)|(have qY:=(Option.bind_some _ _).symm.trans H;rw [aCs];with_reducible exact qY)|(have qY:=(Option.bind_some _ _).symm.trans H;with_reducible exact qY)|with_reducible exact H|(rw [aCs];exact H)|exact H
           have aWu:=aA.mk aCs;clear aCs
           by_cases c49:0≤a2
           ·rw [if_pos c49] at H;have aB9:=eq_true c49;have aFP:decide (0≤a2)=true:=fB c49;clear c49
            by_cases c50:a2≤(l1.length:Int)
            ·rw [if_pos c50] at H;have aPA:=eq_true c50;have bI8:decide (a2≤(l1.length:Int))=true:=fB c50;clear c50;obtain ⟨Um,aCt⟩:∃ y_:List Int,y_=(l1.take (a2:Int).toNat):=⟨_,rfl⟩
             replace H:((lW.f l0 tN aD1).bind fun Kv=>(if 0≤(wrap64 (a2+Ip)) then (if (wrap64 (a2+Ip))≤(l1.length:Int) then ((jG.f (([Um,Kv,(l1.drop ((wrap64 (a2+Ip)):Int).toNat)]:List (List Int)))).bind fun JA=>(some (JA,wW,t167))) else (none)) else (none)))=some (r1,r2,r3):=by first|(rw [aCt];with_reducible exact H)|(have qY:=(Option.bind_some _ _).symm.trans H;rw [aCt];with_reducible exact qY)|(have qY:=(Option.bind_some _ _).symm.trans H;with_reducible exact qY)|with_reducible exact H|(rw [aCt];exact H)|exact H
             have aPB:=aA.mk aCt;clear aCt;replace H:=Option.bind_eq_some_iff.mp H;obtain ⟨Kv,aWv,H⟩:=H;replace H:(if 0≤(wrap64 (a2+Ip)) then (if (wrap64 (a2+Ip))≤(l1.length:Int) then ((jG.f (([Um,Kv,(l1.drop ((wrap64 (a2+Ip)):Int).toNat)]:List (List Int)))).bind fun JA=>(some (JA,wW,t167))) else (none)) else (none))=some (r1,r2,r3):=H;have A51:=aA.mk aWv;clear aWv;obtain ⟨DC,Qn⟩:∃ j_:Int,(wrap64 (a2+Ip))=j_:=⟨_,rfl⟩
             replace H:(if 0≤(DC) then (if (DC)≤(l1.length:Int) then ((jG.f (([Um,Kv,(l1.drop ((DC):Int).toNat)]:List (List Int)))).bind fun JA=>(some (JA,wW,t167))) else (none)) else (none))=some (r1,r2,r3):=by first|(rw [Qn] at H;exact H)|(simp only [Qn] at H ⊢;exact H)
             (try rw [Qn] at A45)
             (try rw [Qn] at A51)
             have aSa:(IntKind.i64.wrap (a2+Ip))=DC:=(nX _).trans Qn
             by_cases c53:0≤(DC)
             ·rw [if_pos c53] at H;have aWw:=eq_true c53;have bI9:decide (0≤(DC))=true:=fB c53;clear c53
              by_cases c54:(DC)≤(l1.length:Int)
              ·rw [if_pos c54] at H;have aWx:=eq_true c54;have bI_:decide ((DC)≤(l1.length:Int))=true:=fB c54;clear c54;obtain ⟨Un,aCu⟩:∃ y_:List Int,y_=(l1.drop ((DC):Int).toNat):=⟨_,rfl⟩
               replace H:((jG.f (([Um,Kv,Un]:List (List Int)))).bind fun JA=>(some (JA,wW,t167)))=some (r1,r2,r3):=by first|(rw [aCu];with_reducible exact H)|(have qY:=(Option.bind_some _ _).symm.trans H;rw [aCu];with_reducible exact qY)|(have qY:=(Option.bind_some _ _).symm.trans H;with_reducible exact qY)|with_reducible exact H|(rw [aCu];exact H)|exact H
               have aPC:=aA.mk aCu;clear aCu;obtain ⟨aSb,aCv⟩:∃ y_:List (List Int),y_=(([Um,Kv,Un]:List (List Int))):=⟨_,rfl⟩
               replace H:((jG.f aSb).bind fun JA=>(some (JA,wW,t167)))=some (r1,r2,r3):=by first|(rw [aCv];with_reducible exact H)|(have qY:=(Option.bind_some _ _).symm.trans H;rw [aCv];with_reducible exact qY)|(have qY:=(Option.bind_some _ _).symm.trans H;with_reducible exact qY)|with_reducible exact H|(rw [aCv];exact H)|exact H
               have aPD:=aA.mk aCv;clear aCv;replace H:=Option.bind_eq_some_iff.mp H;obtain ⟨JA,aJD,H⟩:=H;replace H:(some (JA,wW,t167))=some (r1,r2,r3):=H;have A55:=aA.mk aJD;clear aJD;simp only [Option.some.injEq,Prod.mk.injEq] at H;obtain ⟨rfl,rfl,rfl⟩:=H;have aWy:=vU.out;have aWz:=uA.out;have bJa:=yY.out;have bJb:=yZ.out;have bCU:wc.cell? ⟨kG,0,none⟩=some (.int .i64 tN):=(aC kV.out 0).trans rfl;have bCV:wc.cell? ⟨kG,1,none⟩=some (.slice QF t162.length Cj):=(aC kV.out 1).trans rfl;have bCW:=aG kV.out 0;have bCX:=aG kV.out 1;have aD2:0≤(tN:Int):=dU dW;have aD3:tN<(l0.length:Int):=dU dW;obtain ⟨aPE,aSc,aSd,e170,MC,MF,MG,Su,Sv⟩:=rJ HR0.out tN aD2 aD3
               cases e170
               replace MC:=(HB.out.cell (dM w _ MC)).trans MC;replace MF:=(HB.out.cell (dM w _ MF)).trans MF;replace MG:=(HB.out.cell (dM w _ MG)).trans MG;have aA8:=aA.mk Sv;have aM0:=aA.mk Su;clear Sv Su;replace aD2:=eq_true aD2;replace aD3:=eq_true aD3;have aD4:0≤(a3:Int):=dU dW;have aD5:a3<(((aI l0 tN).f2).length:Int):=dU dW;obtain ⟨aWA,aSe,MH⟩:=Kd.jJ aA8.out a3 aD4 aD5
               cases aSe
               replace MH:=(HB.out.cell (dM w _ MH)).trans MH;replace aD4:=eq_true aD4;replace aD5:=eq_true aD5
               try go_wp2_with (first|((with_reducible refine cO (f:=80) rfl ?_);refine gI (some 50) rfl rfl Try.func80 aQ rfl #[.int .i64 (rd ((aI l0 tN).f2) a3),.int .i64 a4] rfl fP ?_;(with_reducible refine (mG.calls (rd ((aI l0 tN).f2) a3) a4 true _ A45.out).mono ?_);rintro e w' ⟨rfl,⟨nd,rfl⟩⟩;refine ⟨_,rfl,?_⟩;(try (rw [zT wc];generalize CP:World.drewN wc _=wc;have bT:aA (Kd.V (Kd.int .u8) 5 wc w.heap.size (fun k_=>(P1_ k_∨w.heap.size≤k_)∧some k_≠(.slice QF t162.length Cj:Value).ownBlock∧k_≠kY∧k_≠kG∧k_≠lG) (.slice A1 l1.length c1) l1):=⟨by rw [← CP];exact (Ce Hz.out)⟩;have bW:aA (Kd.R (Kd.int .i64) 3 wc w.heap.size (fun k_=>(w.heap.size≤k_)) (.slice QF t162.length Cj) t162):=⟨by rw [← CP];exact (bH kN.out)⟩;have dA:aA (wc.heap[kY]?=some (.cells #[.int .i64 0,.int .i64 0] 27 (0,0))):=⟨by rw [← CP];exact (aH kL.out)⟩;have dN:aA (wc.heap[kG]?=some (.cells #[.int .i64 tN,.slice QF t162.length Cj] 65 (0,0))):=⟨by rw [← CP];exact (aH kV.out)⟩;have eY:aA (wc.heap[lG]?=some (.cells #[.int .i64 wW,.int .i64 t167] 27 (0,0))):=⟨by rw [← CP];exact (aH nY.out)⟩;have fV:aA (Below w.heap.size w wc):=⟨by rw [← CP];exact (eG HB.out vO.out Be.out Fv.out)⟩;clear Hz kN kL kV nY HB CP;have Hz:=bT;have kN:=bW;have kL:=dA;have kV:=dN;have nY:=eY;have HB:=fV;clear bT bW dA dN eY fV));have p48:0≤(a3:Int):=dU dW;have q48:(a3:Int)<((t162.length:Int):Int):=dU dW;obtain ⟨JB,aCo,aHC,aWB,bFZ,bLw,aWC⟩:=Kd.Qx kN.out (by omega);(first|cases aHC|(injection aHC with KA en_ ec_;(first|subst KA|(injection KA with KA;subst KA));subst ec_;clear en_));have bF0:=aA.mk aWB;have bLx:=aA.mk aWC;clear aWB bFZ aWC;obtain ⟨bF1,bF2⟩:=Kd.ES 0 kN.out (a3:Int) p48 q48;replace p48:=eq_true p48;replace q48:=eq_true q48;have aSf:wc.cell? ⟨kG,0,none⟩=some (.int .i64 tN):=(aC kV.out 0).trans rfl;have aSg:wc.cell? ⟨kG,1,none⟩=some (.slice (some ⟨JB,0,none⟩) t162.length Cj):=(aC kV.out 1).trans rfl;obtain ⟨bJc,bJd⟩:=Kd.ES 0 kN.out (a3:Int) (dU dW) (dU dW);have aSh:=Kd.aD6 kN.out (a3:Int) a4)|((with_reducible refine Cm (t:=3) (p:=57) rfl ?_);refine AA (t:=3) (p:=57) (v:=?bF3) (w1:=(wc.setCell ⟨JB,(a3:Int).toNat,none⟩ (.int .i64 a4))) ?hg ?ho ?hn ?hr ?_;(case ho=>rfl);(case hg=>rfl);(case hn=>rfl);(case hr=>first|(go_simp;done)|(go_simp;rfl));intro w60 hw;have hg:wc.grownBy w60 (some JB):=(by rw [hw];exact aSh.2);have hp_:Kd.R (Kd.int .i64) 3 w60 w.heap.size (fun k_=>(w.heap.size≤k_)) (.slice (some ⟨JB,0,none⟩) t162.length Cj) aD1:=(by rw [hw,aWu.out];exact aSh.1);clear aSh;have bT:=aA.mk (Kd.aJM (v:=(.slice (some ⟨JB,0,none⟩) t162.length Cj)) (v1:=(.slice (some ⟨JB,0,none⟩) t162.length Cj)) (ok:=(fun k_=>(P1_ k_∨w.heap.size≤k_)∧k_≠kY∧k_≠kG∧k_≠lG)) (by refine Ce ?_;exact Kd.Em Hz.out (fun _ hk=>⟨⟨hk.1,⟨hk.2.2.1,⟨hk.2.2.2.1,hk.2.2.2.2⟩⟩⟩,hk.2.1⟩)) hg (.inl rfl));have bW:=aA.mk (hp_);have dA:=aA.mk (kD (g:=kY) (o:=.cells #[.int .i64 0,.int .i64 0] 27 (0,0)) (aH kL.out) hg (Kd.AO kN.out kL.out (by decide)));have dN:=aA.mk (kD (g:=kG) (o:=.cells #[.int .i64 tN,.slice (some ⟨JB,0,none⟩) t162.length Cj] 65 (0,0)) (aH kV.out) hg (Kd.AO kN.out kV.out (by decide)));have eY:=aA.mk (kD (g:=lG) (o:=.cells #[.int .i64 wW,.int .i64 t167] 27 (0,0)) (aH nY.out) hg (Kd.AO kN.out nY.out (by decide)));have fV:=aA.mk ((by rw [hw];exact iO (HB.out) bF0.out:Below w.heap.size w w60));clear Hz kN kL kV nY HB;have Hz:=bT;have kN:=bW;have kL:=dA;have kV:=dN;have nY:=eY;have HB:=fV;clear bT bW dA dN eY fV;clear hg hw hp_))
               have bT:=aA.mk (Kd.aD0 Hz.out);have bW:=aA.mk (Kd.qG kN.out);have dA:=aA.mk (dY kL.out);have dN:=aA.mk (dY kV.out);have eY:=aA.mk (dY nY.out);have fV:=aA.mk (fZ HB.out);clear Hz;clear kN;clear kL;clear kV;clear nY;clear HB;have Hz:=bT;have kN:=bW;have kL:=dA;have kV:=dN;have nY:=eY;have HB:=fV;clear bT bW dA dN eY fV;have q62:(a2:Int)≤((l1.length:Int):Int):=dU dW;obtain ⟨bF4,aCw,_,aGk,_⟩:=info_parts info5;have aGl:l1.length≤c1:=(Kd.Hy Hz.out).2.1;have aJN:Kd.F (Kd.int .u8) _ _ A1 l1.length l1:=(Kd.aHM (base:=w.heap.size) Hz.out).2.2;have aJO:=aJP (P:=Try.prog) 25 5 .i64 Try.underlying25 aCw A1 l1.length c1 a2 (dU dW) q62 aGl;have aSi:=Kd.aSj (m:=(a2:Int).toNat) aJN (by omega);have aSk:Um.length=(a2:Int).toNat:=(by rw [aPB.out,Fq];omega);rw [← aPB.out] at aSi;rw [← aSk] at aJO;have Nh:=aA.mk (show Kd.V (Kd.int .u8) 5 _ w.heap.size _ (.slice A1 Um.length c1) Um from Kd.aA9 (by omega) aSi);have bJe:=aA.mk (show Um.length≤c1 from by omega);clear aSi aJN aGl aCw aGk;have bLy:=aA.mk aSk;clear aSk;replace q62:=eq_true q62;have q63:((DC):Int)≤((l1.length:Int):Int):=dU dW
               obtain ⟨bLz,aPF,_,aPG,_⟩:=info_parts info5;have Xd:l1.length≤c1:=(Kd.Hy Hz.out).2.1;have aWD:Kd.F (Kd.int .u8) _ _ A1 l1.length l1:=(Kd.aHM (base:=w.heap.size) Hz.out).2.2;have bF5:(0:Int)≤((DC):Int):=dU dW;have aSl:=aJQ (P:=Try.prog) 25 5 .i64 Try.underlying25 aPF 1 aPG A1 l1.length c1 (DC) bF5 q63;have aJR:=Kd.aWE (m:=((DC):Int).toNat) (c:=c1) aWD (by omega) Xd;obtain ⟨A63,aM1⟩:∃ Aq_,Aq_=(if c1=((DC):Int).toNat then A1 else (A1:Option Addr).map (·.add (((DC):Int).toNat*1))):=⟨_,rfl⟩
               obtain ⟨c63,hc63⟩:∃ cq_,cq_=c1-((DC):Int).toNat:=⟨_,rfl⟩
               have aJS:Un.length=l1.length-((DC):Int).toNat:=(by rw [aPC.out,Dw] <;> omega);rw [show (l1).drop ((DC):Int).toNat=Un from aPC.out.symm] at aJR;replace aJR:Kd.F (Kd.int .u8) _ _ A63 Un.length Un:=(by rw [aM1];exact aJR);rw [← aJS,← aM1,← hc63] at aSl;have Nk:=aA.mk (show Kd.V (Kd.int .u8) 5 _ w.heap.size _ (.slice A63 Un.length c63) Un from Kd.aA9 (by rw [aJS,hc63];exact Nat.sub_le_sub_right Xd _) aJR);have bJf:=aA.mk (show Un.length≤c63 from by rw [aJS,hc63];exact Nat.sub_le_sub_right Xd _);clear aJR aWD Xd aPF aPG hc63;have bLA:=aA.mk aJS;have bLB:=aA.mk aM1;clear aJS aM1;replace q63:=eq_true q63;refine qZ (n:=16) (S:=fun w'=>w'.cell? ⟨kG,0,none⟩=some (.int .i64 tN)∧w'.cell? ⟨kG,1,none⟩=some (.slice (some ⟨JB,0,none⟩) t162.length Cj)∧w'.cell? ⟨lG,0,none⟩=some (.int .i64 wW)∧w'.cell? ⟨lG,1,none⟩=some (.int .i64 t167)) (ds:=[]) #[false,false,false,false,false,false,false,false,false,false,false,false,false,false,false,false] aQ rfl rfl ⟨(aC kV.out 0).trans rfl,(aC kV.out 1).trans rfl,(aC nY.out 0).trans rfl,(aC nY.out 1).trans rfl⟩ (fun hHeld=>?_);refine nK eH.aAB eH.QY (fun gG zQ=>?_);generalize w60.drew=w61 at Hz kN kL kV nY HB Nh Nk hHeld ⊢
               refine bQ (i:=0) (N:=some 58) (v:=?_) (a':=?_) #[true,false,false,false,false,false,false,false,false,false,false,false,false,false,false,false] rfl rfl (bP gG.out aQ) (fun _ _ _ h=>h) (bG ?_) ?_ ?_;rotate_left
               ·intro w';go_simp;with_reducible rfl
               rotate_left
               ·simp only [Act.put,aX];rfl
               refine bQ (i:=1) (N:=some 59) (v:=?_) (a':=?_) #[true,true,false,false,false,false,false,false,false,false,false,false,false,false,false,false] rfl rfl (bP gG.out aQ) (fun _ _ _ h=>h) (bG ?_) ?_ ?_;rotate_left
               ·intro w';go_simp;with_reducible rfl
               rotate_left
               ·simp only [Act.put,aX];rfl
               refine bQ (i:=2) (N:=some 60) (v:=?_) (a':=?_) #[true,true,true,false,false,false,false,false,false,false,false,false,false,false,false,false] rfl rfl (bP gG.out aQ) (fun _ _ _ h=>h) (bG ?_) ?_ ?_;rotate_left
               ·intro w';go_simp;with_reducible rfl
               rotate_left
               ·simp only [Act.put,aX];rfl
               refine bQ (i:=3) (N:=some 61) (v:=?_) (a':=?_) #[true,true,true,true,false,false,false,false,false,false,false,false,false,false,false,false] rfl rfl (bP gG.out aQ) (fun _ _ _ h=>h) (bG ?_) ?_ ?_;rotate_left
               ·intro w';go_simp;with_reducible rfl
               rotate_left
               ·simp only [Act.put,aX];rfl
               refine bQ (i:=6) (N:=some 64) (v:=?_) (a':=?_) #[true,true,true,true,false,false,true,false,false,false,false,false,false,false,false,false] rfl rfl (bP gG.out aQ) (fun _ _ _ h=>h) (bG ?_) ?_ ?_;rotate_left
               ·intro w';go_simp;with_reducible rfl
               rotate_left
               ·simp only [Act.put,aX];rfl
               refine bQ (i:=7) (N:=some 65) (v:=?_) (a':=?_) #[true,true,true,true,false,false,true,true,false,false,false,false,false,false,false,false] rfl rfl (bP gG.out aQ) (fun _ _ _ h=>h) (bG ?_) ?_ ?_;rotate_left
               ·intro w';go_simp;with_reducible rfl
               rotate_left
               ·simp only [Act.put,aX];rfl
               refine bQ (i:=8) (N:=some 66) (v:=?_) (a':=?_) #[true,true,true,true,false,false,true,true,true,false,false,false,false,false,false,false] rfl rfl (bP gG.out aQ) (fun _ _ _ h=>h) (bG ?_) ?_ ?_;rotate_left
               ·intro w';go_simp;with_reducible rfl
               rotate_left
               ·simp only [Act.put,aX];rfl
               refine bQ (i:=9) (N:=some 67) (v:=?_) (a':=?_) #[true,true,true,true,false,false,true,true,true,true,false,false,false,false,false,false] rfl rfl (bP gG.out aQ) (fun _ _ _ h=>h) (bG ?_) ?_ ?_;rotate_left
               ·intro w';go_simp;with_reducible rfl
               rotate_left
               ·simp only [Act.put,aX];rfl
               refine bQ (i:=10) (N:=some 68) (v:=?_) (a':=?_) #[true,true,true,true,false,false,true,true,true,true,true,false,false,false,false,false] rfl rfl (bP gG.out aQ) (fun _ _ _ h=>h) (bG ?_) ?_ ?_;rotate_left
               ·intro w';go_simp;with_reducible rfl
               rotate_left
               ·simp only [Act.put,aX];rfl
               refine iQ (i:=4) (N:=some 62) (v:=?_) (a':=?_) #[true,true,true,true,true,false,true,true,true,true,true,false,false,false,false,false] rfl rfl (iH gG.out zQ.out aQ) (fun _ _ _ h=>h) (bG ?_) hHeld ?_ ?_;rotate_left
               ·rintro w' ⟨s0,s1,s2,s3⟩;go_simp;with_reducible rfl
               rotate_left
               ·simp only [Act.put,aX];rfl
               refine iQ (i:=13) (N:=some 71) (v:=?_) (a':=?_) #[true,true,true,true,true,false,true,true,true,true,true,false,false,true,false,false] rfl rfl (iH gG.out zQ.out aQ) (fun _ _ _ h=>h) (bG ?_) hHeld ?_ ?_;rotate_left
               ·rintro w' ⟨s0,s1,s2,s3⟩;go_simp;with_reducible rfl
               rotate_left
               ·simp only [Act.put,aX];rfl
               refine wL (i:=5) (N:=some 63) #[true,true,true,true,true,true,true,true,true,true,true,false,false,true,false,false] rfl rfl (qH gG.out aQ) (by decide) (fun K hK=>?_);refine xR Try.func78 aQ rfl #[.slice (some aPE) l0.length c0,.agg #[.int .i64 tN,.slice (some ⟨JB,0,none⟩) aD1.length Cj]] (by rfl) rfl rfl (by (try simp only [List.map_toArray,List.map_cons,List.map_nil]);first|done|(rw [show aD1.length=t162.length from (Kd.fM kN.out).1.symm] <;> rfl)|rfl|(simp only [Dw,Fq];rfl)) ?_
               with_reducible refine (lW.calls _ _ l0 tN _ _ aD1 Kv _ ?fJ ?fK ?gK ?iI A51.out).mono ?_
               (case fJ=>repeat (first|exact (Kd.dP HR0.out HB.out)|(with_reducible refine Kd.fG ?_ _)|(with_reducible refine Kd.fC ?_ _)|(with_reducible refine Kd.gJ ?_)))
               (case fK=>exact Am.out)
               (case gK=>repeat (first|exact (Kd.fM kN.out).2.2|(with_reducible refine Kd.fG ?_ _)|(with_reducible refine Kd.fC ?_ _)|(with_reducible refine Kd.gJ ?_)))
               (case iI=>rw [show aD1.length=t162.length from (Kd.fM kN.out).1.symm];exact (Kd.fM kN.out).2.1)
               rintro e w64 ⟨bLC,rfl,ho0,hb⟩;refine ⟨_,rfl,?_⟩;have bT:=aA.mk (Kd.Ci (Ce Hz.out) (Kd.jY ho0) hb);have bW:=aA.mk (Kd.dI (bH kN.out) hb);have dA:=aA.mk (Kd.Ci (Ce Nh.out) (Kd.jY ho0) hb);have dN:=aA.mk (Kd.Ci (Ce Nk.out) (Kd.jY ho0) hb);have eY:=aA.mk (Kd.jV (Kd.Ye (M:=fun k_=>(w.heap.size≤k_)) ho0 (aN (eG HB.out vO.out Be.out Fv.out)) (fun k_ h_=>h_)) (aN (eG HB.out vO.out Be.out Fv.out)));have fV:=aA.mk (aK (g:=kY) (o:=.cells #[.int .i64 0,.int .i64 0] 27 (0,0)) (aH kL.out) hb);have jA:=aA.mk (aK (g:=kG) (o:=.cells #[.int .i64 tN,.slice (some ⟨JB,0,none⟩) t162.length Cj] 65 (0,0)) (aH kV.out) hb);have nC:=aA.mk (aK (g:=lG) (o:=.cells #[.int .i64 wW,.int .i64 t167] 27 (0,0)) (aH nY.out) hb);have rC:=aA.mk (aT (eG HB.out vO.out Be.out Fv.out) hb);clear Hz;clear kN;clear Nh;clear Nk;clear kL;clear kV;clear nY;clear HB;have Hz:=bT;have kN:=bW;have Nh:=dA;have Nk:=dN;have aGm:=eY;have kL:=fV;have kV:=jA;have nY:=nC;have HB:=rC;clear bT bW dA dN eY fV jA nC rC
               (try clear hb)
               (try clear hb2)
               (try clear hk)
               (try clear hi)
               (try clear ho0)
               obtain ⟨aSm,aSn,aM2⟩:=Kd.iK aGm.out
               (first|subst aM2|(injection aM2 with Hl NQ Ho;have NR:=Hl.symm;have NS:=Ho.symm;clear Hl NQ Ho;subst NR;subst NS))
               refine hK.out _ _ ⟨(aC kV.out 0).trans rfl,(aC kV.out 1).trans rfl,(aC nY.out 0).trans rfl,(aC nY.out 1).trans rfl⟩ (fun hHeld=>?_);clear hK K;refine sJ (a':=?_) ?_ ?_;rotate_left
               ·show Act.put _ (some 63) _=_;simp only [Act.put,aX];rfl
               refine wL (i:=11) (N:=some 69) #[true,true,true,true,true,true,true,true,true,true,true,true,false,true,false,false] rfl rfl (qH gG.out aQ) (by decide) (fun K hK=>?_)
               refine Kd.aD7 (Kd.slice 5 (Kd.int .u8)) _ 25 ?hg (N':=69) ?hd (xs:=([Um,Kv,Un]:List (List Int))) (inner:=[.slice A1 Um.length c1,.slice aSm Kv.length aSn,.slice A63 Un.length c63]) (ok:=(fun k_=>(P1_ k_∨w.heap.size≤k_)∧some k_≠(.slice (some ⟨JB,0,none⟩) t162.length Cj:Value).ownBlock∧k_≠kY∧k_≠kG∧k_≠lG)) (Io:=(fun k_=>(P1_ k_∨w.heap.size≤k_)∧some k_≠(.slice (some ⟨JB,0,none⟩) t162.length Cj:Value).ownBlock∧k_≠kY∧k_≠kG∧k_≠lG)) ?hr ?hp (fun _ hk=>hk) ((show ∀ k_,w64.heap.size≤k_→(fun k_=>(P1_ k_∨w.heap.size≤k_)∧some k_≠(.slice (some ⟨JB,0,none⟩) t162.length Cj:Value).ownBlock∧k_≠kY∧k_≠kG∧k_≠lG) k_ from fun k_ hk=>⟨(.inr (Nat.le_trans (aN (eG HB.out vO.out Be.out Fv.out)) hk)),Kd.fresh' (Kd.wK (bH kN.out)) k_ hk,Kd.QG (g:=kY) (o:=.cells #[.int .i64 0,.int .i64 0] 27 (0,0)) (aH kL.out) k_ hk,Kd.QG (g:=kG) (o:=.cells #[.int .i64 tN,.slice (some ⟨JB,0,none⟩) t162.length Cj] 65 (0,0)) (aH kV.out) k_ hk,Kd.QG (g:=lG) (o:=.cells #[.int .i64 wW,.int .i64 t167] 27 (0,0)) (aH nY.out) k_ hk⟩) _ (Nat.le_refl _)) (Below.refl _ _) (Nat.le_refl _) (by simp) ?_;(case hd=>rfl);(case hg=>rfl);(case hr=>first|(go_simp;done)|(go_simp;rfl));(case hp=>exact (kW.one (show Kd.FK (Kd.slice 5 (Kd.int .u8)) _ _ Um [.slice A1 Um.length c1] from (Kd.NY (Kd.Hy (Kd.Em (ok':=(fun k_=>(P1_ k_∨w.heap.size≤k_)∧some k_≠(.slice (some ⟨JB,0,none⟩) t162.length Cj:Value).ownBlock∧k_≠kY∧k_≠kG∧k_≠lG)) (Nh.out) (fun k_ hk=>⟨hk.1.1.1,⟨hk.1.2,⟨hk.1.1.2.1,⟨hk.1.1.2.2.1,hk.1.1.2.2.2⟩⟩⟩⟩))).2.1 (Kd.V_F (Kd.Em (ok':=(fun k_=>(P1_ k_∨w.heap.size≤k_)∧some k_≠(.slice (some ⟨JB,0,none⟩) t162.length Cj:Value).ownBlock∧k_≠kY∧k_≠kG∧k_≠lG)) (Nh.out) (fun k_ hk=>⟨hk.1.1.1,⟨hk.1.2,⟨hk.1.1.2.1,⟨hk.1.1.2.2.1,hk.1.1.2.2.2⟩⟩⟩⟩))))) (kW.one (show Kd.FK (Kd.slice 5 (Kd.int .u8)) _ _ Kv [.slice aSm Kv.length aSn] from (Kd.NY (Kd.fM (Kd.dX (ok':=(fun k_=>(P1_ k_∨w.heap.size≤k_)∧some k_≠(.slice (some ⟨JB,0,none⟩) t162.length Cj:Value).ownBlock∧k_≠kY∧k_≠kG∧k_≠lG)) (Kd.dV (Kd.dV (Kd.dV (Kd.Fz (aGm.out) (Kd.yP kN.out) (by decide)) kL.out (by decide)) kV.out (by decide)) nY.out (by decide)) (fun k_ hk=>⟨(.inr (hk.1.1.1.1.1)),⟨hk.1.1.1.2,⟨hk.1.1.2,⟨hk.1.2,hk.2⟩⟩⟩⟩))).2.1 (Kd.R_F (Kd.dX (ok':=(fun k_=>(P1_ k_∨w.heap.size≤k_)∧some k_≠(.slice (some ⟨JB,0,none⟩) t162.length Cj:Value).ownBlock∧k_≠kY∧k_≠kG∧k_≠lG)) (Kd.dV (Kd.dV (Kd.dV (Kd.Fz (aGm.out) (Kd.yP kN.out) (by decide)) kL.out (by decide)) kV.out (by decide)) nY.out (by decide)) (fun k_ hk=>⟨(.inr (hk.1.1.1.1.1)),⟨hk.1.1.1.2,⟨hk.1.1.2,⟨hk.1.2,hk.2⟩⟩⟩⟩))))) (kW.one (show Kd.FK (Kd.slice 5 (Kd.int .u8)) _ _ Un [.slice A63 Un.length c63] from (Kd.NY (Kd.Hy (Kd.Em (ok':=(fun k_=>(P1_ k_∨w.heap.size≤k_)∧some k_≠(.slice (some ⟨JB,0,none⟩) t162.length Cj:Value).ownBlock∧k_≠kY∧k_≠kG∧k_≠lG)) (Nk.out) (fun k_ hk=>⟨hk.1.1.1,⟨hk.1.2,⟨hk.1.1.2.1,⟨hk.1.1.2.2.1,hk.1.1.2.2.2⟩⟩⟩⟩))).2.1 (Kd.V_F (Kd.Em (ok':=(fun k_=>(P1_ k_∨w.heap.size≤k_)∧some k_≠(.slice (some ⟨JB,0,none⟩) t162.length Cj:Value).ownBlock∧k_≠kY∧k_≠kG∧k_≠lG)) (Nk.out) (fun k_ hk=>⟨hk.1.1.1,⟨hk.1.2,⟨hk.1.1.2.1,⟨hk.1.1.2.2.1,hk.1.1.2.2.2⟩⟩⟩⟩))))) (kW.none _ _)))))
               intro bLD w66 aCx hb XT BU;clear XT BU
               (first|rw [← aPD.out] at aCx|(simp only [Int.reduceToNat] at aCx;rw [← aPD.out] at aCx))
               have bT:=aA.mk (Kd.Ci (Ce Hz.out) (Kd.Uo aCx) hb);have bW:=aA.mk (Kd.dI (bH kN.out) hb);have dA:=aA.mk (Kd.Ci (Ce Nh.out) (Kd.Uo aCx) hb);have dN:=aA.mk (Kd.Ci (Ce Nk.out) (Kd.Uo aCx) hb);have eY:=aA.mk (Kd.RV aCx (aN (eG HB.out vO.out Be.out Fv.out)));have fV:=aA.mk (aK (g:=kY) (o:=.cells #[.int .i64 0,.int .i64 0] 27 (0,0)) (aH kL.out) hb);have jA:=aA.mk (aK (g:=kG) (o:=.cells #[.int .i64 tN,.slice (some ⟨JB,0,none⟩) t162.length Cj] 65 (0,0)) (aH kV.out) hb);have nC:=aA.mk (aK (g:=lG) (o:=.cells #[.int .i64 wW,.int .i64 t167] 27 (0,0)) (aH nY.out) hb);have rC:=aA.mk (aT (eG HB.out vO.out Be.out Fv.out) hb);clear Hz;clear kN;clear Nh;clear Nk;clear kL;clear kV;clear nY;clear HB;clear aGm;have Hz:=bT;have kN:=bW;have Nh:=dA;have Nk:=dN;have aAa:=eY;have kL:=fV;have kV:=jA;have nY:=nC;have HB:=rC;clear bT bW dA dN eY fV jA nC rC;clear hb aCx;obtain ⟨bF6,bF7,aWF⟩:=Kd.Xe aAa.out
               (first|subst aWF|(injection aWF with Hl NQ Ho;have NR:=Hl.symm;have NS:=Ho.symm;clear Hl NQ Ho;subst NR;subst NS))
               refine hK.out _ _ ⟨(aC kV.out 0).trans rfl,(aC kV.out 1).trans rfl,(aC nY.out 0).trans rfl,(aC nY.out 1).trans rfl⟩ (fun hHeld=>?_);clear hK K;refine sJ (a':=?_) ?_ ?_;rotate_left
               ·show Act.put _ (some 69) _=_;simp only [Act.put,aX];rfl
               refine wL (i:=12) (N:=some 70) #[true,true,true,true,true,true,true,true,true,true,true,true,true,true,false,false] rfl rfl (qH gG.out aQ) (by decide) (fun K hK=>?_);refine xR Try.func81 aQ rfl #[.slice bF6 aSb.length bF7] (by rfl) rfl rfl fP ?_
               with_reducible refine (jG.calls _ _ aSb JA _ ?fJ ?fK A55.out).mono ?_
               (case fJ=>repeat (first|exact (Kd.Ia aAa.out).2.2|(with_reducible refine Kd.fG ?_ _)|(with_reducible refine Kd.fC ?_ _)|(with_reducible refine Kd.gJ ?_)))
               (case fK=>exact (Kd.Ia aAa.out).2.1)
               rintro e w69 ⟨bLE,rfl,ho0,hb⟩;refine ⟨_,rfl,?_⟩;have bT:=aA.mk (Kd.Ci (Ce Hz.out) (Kd.jY ho0) hb);have bW:=aA.mk (Kd.dI (bH kN.out) hb);have dA:=aA.mk (Kd.Ci (Ce Nh.out) (Kd.jY ho0) hb);have dN:=aA.mk (Kd.Ci (Ce Nk.out) (Kd.jY ho0) hb);have eY:=aA.mk (Kd.pW (vM aAa.out) (Kd.jY ho0) hb);have fV:=aA.mk (Kd.jV (Kd.Ye (M:=fun k_=>(w.heap.size≤k_)) ho0 (aN (eG HB.out vO.out Be.out Fv.out)) (fun k_ h_=>h_)) (aN (eG HB.out vO.out Be.out Fv.out)));have jA:=aA.mk (aK (g:=kY) (o:=.cells #[.int .i64 0,.int .i64 0] 27 (0,0)) (aH kL.out) hb);have nC:=aA.mk (aK (g:=kG) (o:=.cells #[.int .i64 tN,.slice (some ⟨JB,0,none⟩) t162.length Cj] 65 (0,0)) (aH kV.out) hb);have rC:=aA.mk (aK (g:=lG) (o:=.cells #[.int .i64 wW,.int .i64 t167] 27 (0,0)) (aH nY.out) hb);have tC:=aA.mk (aT (eG HB.out vO.out Be.out Fv.out) hb);clear Hz;clear kN;clear Nh;clear Nk;clear aAa;clear kL;clear kV;clear nY;clear HB;have Hz:=bT;have kN:=bW;have Nh:=dA;have Nk:=dN;have aAa:=eY;have aWG:=fV;have kL:=jA;have kV:=nC;have nY:=rC;have HB:=tC;clear bT bW dA dN eY fV jA nC rC tC
               (try clear hb)
               (try clear hb2)
               (try clear hk)
               (try clear hi)
               (try clear ho0)
               refine hK.out _ _ ⟨(aC kV.out 0).trans rfl,(aC kV.out 1).trans rfl,(aC nY.out 0).trans rfl,(aC nY.out 1).trans rfl⟩ (fun hHeld=>?_);clear hK K;refine sJ (a':=?_) ?_ ?_;rotate_left
               ·show Act.put _ (some 70) _=_;simp only [Act.put,aX];rfl
               refine bQ (i:=14) (N:=some 10) (v:=?_) (a':=?_) #[true,true,true,true,true,true,true,true,true,true,true,true,true,true,true,false] rfl rfl (bP gG.out aQ) (fun _ _ _ h=>h) (bG ?_) ?_ ?_;rotate_left
               ·intro w';go_simp;with_reducible rfl
               rotate_left
               ·simp only [Act.put,aX];rfl
               refine wL (i:=15) (N:=none) #[true,true,true,true,true,true,true,true,true,true,true,true,true,true,true,true] rfl rfl (qH gG.out aQ) (by decide) (fun K hK=>?_);have bLF:w69.cell? ⟨kY,0,none⟩=some (.int .i64 0):=(aC kL.out 0).trans rfl;have bJg:=aG kL.out 0;have bCY:=vU.out;have bCZ:=uB.out;have bC0:=uA.out;have bC1:=vV.out;have bLG:w69.cell? ⟨kY,1,none⟩=some (.int .i64 0):=(aC kL.out 1).trans rfl;have bJh:=aG kL.out 1;have bC2:=vU.out;have bC3:=uB.out;have bC4:=uA.out;have bC5:=vV.out;refine BP (w1:=?_) (by rfl) rfl ?_ ?_;rotate_left
               ·go_simp;rfl
               refine hK.out _ _ ⟨((cell_far (p:=⟨kY,_,none⟩) vU.out _).trans (((cell_far (p:=⟨kY,_,none⟩) vU.out _).trans (hHeld.1)))),((cell_far (p:=⟨kY,_,none⟩) vU.out _).trans (((cell_far (p:=⟨kY,_,none⟩) vU.out _).trans (hHeld.2.1)))),((cell_far (p:=⟨kY,_,none⟩) uB.out _).trans (((cell_far (p:=⟨kY,_,none⟩) uB.out _).trans (hHeld.2.2.1)))),((cell_far (p:=⟨kY,_,none⟩) uB.out _).trans (((cell_far (p:=⟨kY,_,none⟩) uB.out _).trans (hHeld.2.2.2))))⟩ (fun hHeld=>?_);clear hK K;refine sG (sH gG.out aQ) ?_
               try go_wp2
               refine bodyPost_ret (zS rfl _ _ kY 27 #[.int .i64 wW,.int .i64 t167] (0,0) _ rfl (by refine aH ?_;refine aY (cs:=#[.int .i64 wW,.int .i64 0]) ?_ 1 _ rfl;refine aH ?_;refine aY (cs:=#[.int .i64 0,.int .i64 0]) ?_ 0 _ rfl;refine aH ?_;exact kL.out) Try.underlying27 rfl aQ) rfl ?_;exact ⟨_,by first|rfl|(simp [bK,bM] <;> rfl)|(simp only [← Qn];first|rfl|(simp [bK,bM] <;> rfl))|(simp [*,bK,bM] <;> rfl),by refine bH ?_;exact Kd.dX (Kd.dO (p:=⟨kY,1,none⟩) (Kd.dO (p:=⟨kY,0,none⟩) (Kd.dV aWG.out kL.out (by decide)) (fun _ hk=>hk.2) (.int .i64 wW)) (fun _ hk=>hk.2) (.int .i64 t167)) (fun _ hk=>hk.1.1),eG HB.out vO.out Be.out Fv.out⟩
              ·rw [if_neg c54] at H;exact absurd H (by simp)
             ·rw [if_neg c53] at H;exact absurd H (by simp)
            ·rw [if_neg c50] at H;exact absurd H (by simp)
           ·rw [if_neg c49] at H;exact absurd H (by simp)
          ·rw [if_neg Zg] at H;exact absurd H (by simp)
         ·replace c46:=Bool.eq_false_iff.mpr c46;subst c46;have H1:(some (([]:List Int),16,(-7)))=some (r1,r2,r3):=by rw [if_neg (show ¬ (false=true) by decide)] at H;exact H
          clear H;have H:=H1;clear H1;simp only [Option.some.injEq,Prod.mk.injEq] at H;obtain ⟨rfl,rfl,rfl⟩:=H;have aWH:=vU.out;have aWI:=uA.out;have aPj:=yY.out;have aPk:=yZ.out;have aFV:wc.cell? ⟨kG,0,none⟩=some (.int .i64 tN):=(aC kV.out 0).trans rfl;have aFW:wc.cell? ⟨kG,1,none⟩=some (.slice QF t162.length Cj):=(aC kV.out 1).trans rfl;have aFX:=aG kV.out 0;have aFY:=aG kV.out 1;have aD2:0≤(tN:Int):=dU dW;have aD3:tN<(l0.length:Int):=dU dW;obtain ⟨aPE,aSc,aSd,e170,MC,MF,MG,Su,Sv⟩:=rJ HR0.out tN aD2 aD3
          cases e170
          replace MC:=(HB.out.cell (dM w _ MC)).trans MC;replace MF:=(HB.out.cell (dM w _ MF)).trans MF;replace MG:=(HB.out.cell (dM w _ MG)).trans MG;have aA8:=aA.mk Sv;have aM0:=aA.mk Su;clear Sv Su;replace aD2:=eq_true aD2;replace aD3:=eq_true aD3;have aD4:0≤(a3:Int):=dU dW;have aD5:a3<(((aI l0 tN).f2).length:Int):=dU dW;obtain ⟨aWA,aSe,MH⟩:=Kd.jJ aA8.out a3 aD4 aD5
          cases aSe
          replace MH:=(HB.out.cell (dM w _ MH)).trans MH;replace aD4:=eq_true aD4;replace aD5:=eq_true aD5
          go_wp2_with (first|((with_reducible refine cO (f:=80) rfl ?_);refine gI (some 50) rfl rfl Try.func80 aQ rfl #[.int .i64 (rd ((aI l0 tN).f2) a3),.int .i64 a4] rfl fP ?_;(with_reducible refine (mG.calls (rd ((aI l0 tN).f2) a3) a4 false _ A45.out).mono ?_);rintro e w' ⟨rfl,⟨nd,rfl⟩⟩;refine ⟨_,rfl,?_⟩;(try (rw [zT wc];generalize CP:World.drewN wc _=wc;have bT:aA (Kd.V (Kd.int .u8) 5 wc w.heap.size (fun k_=>(P1_ k_∨w.heap.size≤k_)∧some k_≠(.slice QF t162.length Cj:Value).ownBlock∧k_≠kY∧k_≠kG∧k_≠lG) (.slice A1 l1.length c1) l1):=⟨by rw [← CP];exact (Ce Hz.out)⟩;have bW:aA (Kd.R (Kd.int .i64) 3 wc w.heap.size (fun k_=>(w.heap.size≤k_)) (.slice QF t162.length Cj) t162):=⟨by rw [← CP];exact (bH kN.out)⟩;have dA:aA (wc.heap[kY]?=some (.cells #[.int .i64 0,.int .i64 0] 27 (0,0))):=⟨by rw [← CP];exact (aH kL.out)⟩;have dN:aA (wc.heap[kG]?=some (.cells #[.int .i64 tN,.slice QF t162.length Cj] 65 (0,0))):=⟨by rw [← CP];exact (aH kV.out)⟩;have eY:aA (wc.heap[lG]?=some (.cells #[.int .i64 wW,.int .i64 t167] 27 (0,0))):=⟨by rw [← CP];exact (aH nY.out)⟩;have fV:aA (Below w.heap.size w wc):=⟨by rw [← CP];exact (eG HB.out vO.out Be.out Fv.out)⟩;clear Hz kN kL kV nY HB CP;have Hz:=bT;have kN:=bW;have kL:=dA;have kV:=dN;have nY:=eY;have HB:=fV;clear bT bW dA dN eY fV));have aPH:=vV.out;have aPI:=uB.out;have aFZ:wc.cell? ⟨kY,0,none⟩=some (.int .i64 0):=(aC kL.out 0).trans rfl;have aF0:wc.cell? ⟨kY,1,none⟩=some (.int .i64 0):=(aC kL.out 1).trans rfl;have aF1:=aG kL.out 0;have aF2:=aG kL.out 1))
          refine bodyPost_ret (zS rfl _ _ kY 27 #[.int .i64 16,.int .i64 (-7)] (0,0) _ rfl (by refine aH ?_;refine aY (cs:=#[.int .i64 16,.int .i64 0]) ?_ 1 _ rfl;refine aH ?_;refine aY (cs:=#[.int .i64 0,.int .i64 0]) ?_ 0 _ rfl;refine aH ?_;exact kL.out) Try.underlying27 rfl aQ) rfl ?_;exact ⟨_,by first|rfl|(simp [bK,bM] <;> rfl)|(simp [*,bK,bM] <;> rfl),by first|exact Kd.BV _ _ _ _ _|exact Kd.KE _ _ _ _ _|exact Kd.KF _ _ _ _ _|exact Kd.KG _ _ _ _ _|exact Kd.KH _ _ _ _ _,eG HB.out vO.out Be.out Fv.out⟩
        ·rw [if_neg c44] at H;exact absurd H (by simp)
       ·rw [if_neg c43] at H;exact absurd H (by simp)
      ·rw [if_neg c42] at H;exact absurd H (by simp)
     ·rw [if_neg c41] at H;exact absurd H (by simp)
end Go.Proofs.Ytipjpdiianopcaa.E
