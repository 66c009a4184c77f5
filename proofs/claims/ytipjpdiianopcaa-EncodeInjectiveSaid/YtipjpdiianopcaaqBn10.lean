/- Words and contracts for the laws of encode. -/
import Derived.Test.YtipjpdiianopcaaqAx0
import Derived.Test.YtipjpdiianopcaaqCv
import Derived.Test.YtipjpdiianopcaaqCfl
import Derived.Test.YtipjpdiianopcaaqCen
import Derived.Test.YtipjpdiianopcaaqCcc
import Derived.Test.YtipjpdiianopcaaqBn4
import Derived.Test.YtipjpdiianopcaaqAx1
import Derived.Test.YtipjpdiianopcaaqAx18
import Derived.Test.YtipjpdiianopcaaqCsi
namespace Go.Proofs.Ytipjpdiianopcaa.E
open Go.RowKit Go.Proofs.YtipjpdiianopcaaW.dF Go.Proofs.YtipjpdiianopcaaW.fO Go.Proofs.YtipjpdiianopcaaW.jP Go.Proofs.Ytipjpdiianopcaa.A Go.Proofs.Ytipjpdiianopcaa.Cv Go.Proofs.Ytipjpdiianopcaa.Cfl Go.Proofs.Ytipjpdiianopcaa.Cen
attribute [local go_sem] mV mW oO oP lC lD mX mY
set_option linter.unusedVariables false
set_option linter.unusedSimpArgs false
attribute [local go_sem high] Eb Ec
def dS.j0:Nat→List Int→List Int→Bool→Int→List Int→Int→List Int→Int→Int→Option (Bool)
 | 0,_,_,_,_,_,_,_,_,_=>none
 | k+1,x7,x9,x32,aMK,aML,aMM,aMN,aMO,bCP=>if x32=true then (if aMO=0 then (some true) else (some ((x7.length:Int)==0))) else ((bF.f x7 x9).bind fun VF=>((dQ.f k aMK aML aMM aMN).bind fun VG=>(some (VF==VG))))
def dS.f (k:Nat) (l0:List (nJ)) (bY:Int) (dR:List Int) (Aa:Int) (zJ:List Int):Option (Bool):=(dL.f k).bind fun aHy=>(if aHy=true then ((gX.f k l0 bY dR).bind fun yJ=>((gX.f k l0 Aa zJ).bind fun yK=>(if yJ.2.1=0 then (dS.j0 k yJ.1 yK.1 (yK.2.1 != 0) bY dR Aa zJ yJ.2.1 yJ.2.2) else (dS.j0 k yJ.1 yK.1 true bY dR Aa zJ yJ.2.1 yJ.2.2)))) else (some false))
def dS.T7:Bool × List (List Nat × List Nat):=(true,[([],[]),([],[]),([0,1],[0,1]),([],[]),([],[]),([3,4,2],[3,4]),([2,5],[2,5]),([6,5,0,1,2,3,4,5,6],[6])])
def dS.B7:List Nat:=[0,0,3,0,0,31,63,127]
theorem dS.bFO:Ap .any (opsOf Try.f18 7)=dS.T7:=by kernel_rfl
theorem dS.aV6:uF dS.T7.2 dS.B7=true:=by kernel_rfl
set_option maxHeartbeats 8000000 in
set_option maxRecDepth 100000 in
theorem dS.calls (k:Nat) (A0:Option Addr) (c0:Nat) (l0:List (nJ)) (bY:Int) (iE:Option Addr) (gZ:Nat) (dR:List Int) (Aa:Int) (NC:Option Addr) (ND:Nat) (zJ:List Int) (r:Bool) (w:World) (hr0:Kd.C Nv w A0 l0.length l0) (hc0:l0.length≤c0) (Dq:Kd.C (Kd.int .i64) w iE dR.length dR) (Dt:dR.length≤gZ) (aPl:Kd.C (Kd.int .i64) w NC zJ.length zJ) (aPm:zJ.length≤ND) (hT:r=true) (h:dS.f k l0 bY dR Aa zJ=some r) :
  Calls Try.prog 18 #[.slice A0 l0.length c0,.agg #[.int .i64 bY,.slice iE dR.length gZ],.agg #[.int .i64 Aa,.slice NC zJ.length ND]] w fun e w'=>e=.returned (.bool r)∧Below w.heap.size w w':=by
 have Kz:=Try.underlying65
 have NL:=Try.underlying27
 have HT:=aA.mk hT
 clear hT
 have HR0:=aA.mk hr0
 have Am:=aA.mk hc0
 clear hr0 hc0
 have AZ:=aA.mk Dq
 have Hg:=aA.mk Dt
 clear Dq Dt
 have aPn:=aA.mk aPl
 have aPo:=aA.mk aPm
 clear aPl aPm
 have HB:=aA.mk (Below.refl w.heap.size w)
 have H:((dL.f k).bind fun aHy=>(if aHy=true then ((gX.f k l0 bY dR).bind fun yJ=>((gX.f k l0 Aa zJ).bind fun yK=>(if yJ.2.1=0 then (dS.j0 k yJ.1 yK.1 (yK.2.1 != 0) bY dR Aa zJ yJ.2.1 yJ.2.2) else (dS.j0 k yJ.1 yK.1 true bY dR Aa zJ yJ.2.1 yJ.2.2)))) else (some false)))=some r:=h
 clear h
 replace H:=Option.bind_eq_some_iff.mp H
 obtain ⟨aHy,XZ,H⟩:=H
 replace H:(if aHy=true then ((gX.f k l0 bY dR).bind fun yJ=>((gX.f k l0 Aa zJ).bind fun yK=>(if yJ.2.1=0 then (dS.j0 k yJ.1 yK.1 (yK.2.1 != 0) bY dR Aa zJ yJ.2.1 yJ.2.2) else (dS.j0 k yJ.1 yK.1 true bY dR Aa zJ yJ.2.1 yJ.2.2)))) else (some false))=some r:=H
 have A4:=aA.mk XZ
 clear XZ
 by_cases c5:aHy=true
 ·subst c5
  have H1:((gX.f k l0 bY dR).bind fun yJ=>((gX.f k l0 Aa zJ).bind fun yK=>(if yJ.2.1=0 then (dS.j0 k yJ.1 yK.1 (yK.2.1 != 0) bY dR Aa zJ yJ.2.1 yJ.2.2) else (dS.j0 k yJ.1 yK.1 true bY dR Aa zJ yJ.2.1 yJ.2.2))))=some r:=by rw [if_pos rfl] at H;exact H
  clear H
  have H:=H1
  clear H1
  replace H:=Option.bind_eq_some_iff.mp H
  obtain ⟨⟨Ym,DR,NF⟩,Zh,H⟩:=H
  replace H:((gX.f k l0 Aa zJ).bind fun yK=>(if DR=0 then (dS.j0 k Ym yK.1 (yK.2.1 != 0) bY dR Aa zJ DR NF) else (dS.j0 k Ym yK.1 true bY dR Aa zJ DR NF)))=some r:=H
  have A6:=aA.mk Zh
  clear Zh
  replace H:=Option.bind_eq_some_iff.mp H
  obtain ⟨⟨Gl,PU,Yn⟩,A70,H⟩:=H
  replace H:(if DR=0 then (dS.j0 k Ym Gl (PU != 0) bY dR Aa zJ DR NF) else (dS.j0 k Ym Gl true bY dR Aa zJ DR NF))=some r:=H
  have A7:=aA.mk A70
  clear A70
  have HC8:=aA.mk H
  clear H
  go_enter Try.func18,Try.ntmps18
  go_upto_region 5 with (first|((with_reducible refine dH (N:=4) rfl ?_);(try (refine dZ (by rfl) ?_;dsimp only));refine dB ?hg (N:=4) ?hd (cs:=#[.int .i64 bY,.slice iE dR.length gZ]) (t:=65) ?hr ?_;(case hd=>rfl);(case hg=>rfl);(case hr=>first|(go_simp;done)|(go_simp;rfl));intro Az hg w9 hbox hb;have bT:=aA.mk (aT (dG HB.out) hb);have bW:=aA.mk (hbox);have dA:=aA.mk ((by rw [hg];exact (aN (dG HB.out)):w.heap.size≤Az));have dN:=aA.mk ((by rw [hg];exact (aN (dG HB.out)):w.heap.size≤Az));clear HB;have HB:=bT;have sK:=bW;have bI0:=dA;have BF:=dN;clear bT bW dA dN;clear hb hbox hg)|((with_reducible refine dH (N:=5) rfl ?_);(try (refine dZ (by rfl) ?_;dsimp only));refine dB ?hg (N:=5) ?hd (cs:=#[.int .i64 Aa,.slice NC zJ.length ND]) (t:=65) ?hr ?_;(case hd=>rfl);(case hg=>rfl);(case hr=>first|(go_simp;done)|(go_simp;rfl));intro Cb hg w10 hbox hb;have bT:=aA.mk (aK (g:=Az) (o:=.cells #[.int .i64 bY,.slice iE dR.length gZ] 65 (0,0)) (aH sK.out) hb);have bW:=aA.mk (aT (bV HB.out BF.out) hb);have dA:=aA.mk (hbox);have dN:=aA.mk ((by rw [hg];exact (aN (bV HB.out BF.out)):w.heap.size≤Cb));have eY:=aA.mk ((by rw [hg];exact (aN (bV HB.out BF.out)):w.heap.size≤Cb));have fV:=aA.mk ((by rw [hg];exact Nat.ne_of_lt (bU (g:=Az) (o:=.cells #[.int .i64 bY,.slice iE dR.length gZ] 65 (0,0)) (aH sK.out)):Az≠Cb));have jA:=aA.mk ((by rw [hg];exact Nat.ne_of_gt (bU (g:=Az) (o:=.cells #[.int .i64 bY,.slice iE dR.length gZ] 65 (0,0)) (aH sK.out)):Cb≠Az));clear sK HB;have sK:=bT;have HB:=bW;have uP:=dA;have bI1:=dN;have DT:=eY;have aHz:=fV;have aHA:=jA;clear bT bW dA dN eY fV jA;clear hb hbox hg)|((with_reducible refine cO (f:=45) rfl ?_);refine gI (some 11) rfl rfl Try.func45 aQ rfl #[] rfl fP ?_;(with_reducible refine (dL.calls k  true _ rfl A4.out).mono ?_);rintro e RY ⟨rfl,hb⟩;refine ⟨_,rfl,?_⟩;have bT:=aA.mk (aK (g:=Az) (o:=.cells #[.int .i64 bY,.slice iE dR.length gZ] 65 (0,0)) (aH sK.out) hb);have bW:=aA.mk (aK (g:=Cb) (o:=.cells #[.int .i64 Aa,.slice NC zJ.length ND] 65 (0,0)) (aH uP.out) hb);have dA:=aA.mk (aT (dK HB.out BF.out DT.out) hb);clear sK uP HB;have sK:=bT;have uP:=bW;have HB:=dA;clear bT bW dA;have XA:=aHz.out;have XB:=aHA.out;have JG:RY.cell? ⟨Az,0,none⟩=some (.int .i64 bY):=(aC sK.out 0).trans rfl;have JH:RY.cell? ⟨Az,1,none⟩=some (.slice iE dR.length gZ):=(aC sK.out 1).trans rfl;have JI:=aG sK.out 0;have JJ:=aG sK.out 1)|((with_reducible refine cO (f:=46) rfl ?_);refine gI (some 16) rfl rfl Try.func46 aQ rfl #[.slice A0 l0.length c0,.agg #[.int .i64 bY,.slice iE dR.length gZ]] rfl fP ?_;(with_reducible refine (gX.calls k _ _ l0 bY _ _ dR Ym DR NF _ ?fJ ?fK ?gK ?iI A6.out).mono ?_);(case fJ=>repeat (first|exact (Kd.dP HR0.out HB.out)|(with_reducible refine Kd.fG ?_ _)|(with_reducible refine Kd.fC ?_ _)|(with_reducible refine Kd.gJ ?_)));(case fK=>exact Am.out);(case gK=>repeat (first|exact (Kd.dP AZ.out HB.out)|(with_reducible refine Kd.fG ?_ _)|(with_reducible refine Kd.fC ?_ _)|(with_reducible refine Kd.gJ ?_)));(case iI=>exact Hg.out);rintro e w14 ⟨aV7,rfl,ho0,hb⟩;refine ⟨_,rfl,?_⟩;have bT:=aA.mk (Kd.jV ho0 (aN (dK HB.out BF.out DT.out)));have bW:=aA.mk (aK (g:=Az) (o:=.cells #[.int .i64 bY,.slice iE dR.length gZ] 65 (0,0)) (aH sK.out) hb);have dA:=aA.mk (aK (g:=Cb) (o:=.cells #[.int .i64 Aa,.slice NC zJ.length ND] 65 (0,0)) (aH uP.out) hb);have dN:=aA.mk (aT (dK HB.out BF.out DT.out) hb);clear sK uP HB;have Na:=bT;have sK:=bW;have uP:=dA;have HB:=dN;clear bT bW dA dN)|((with_reducible refine dH (N:=8) rfl ?_);(try (refine dZ (by rfl) ?_;dsimp only));refine dB ?hg (N:=8) ?hd (cs:=#[.int .i64 0,.int .i64 0]) (t:=27) ?hr ?_;(case hd=>rfl);(case hg=>rfl);(case hr=>first|(go_simp;done)|(go_simp;rfl));intro pO hg w15 hbox hb;have bT:=aA.mk (Kd.dI (bH Na.out) hb);have bW:=aA.mk (aK (g:=Az) (o:=.cells #[.int .i64 bY,.slice iE dR.length gZ] 65 (0,0)) (aH sK.out) hb);have dA:=aA.mk (aK (g:=Cb) (o:=.cells #[.int .i64 Aa,.slice NC zJ.length ND] 65 (0,0)) (aH uP.out) hb);have dN:=aA.mk (aT (dK HB.out BF.out DT.out) hb);have eY:=aA.mk (hbox);have fV:=aA.mk ((by rw [hg];exact (aN (dK HB.out BF.out DT.out)):w.heap.size≤pO));have jA:=aA.mk ((by rw [hg];exact (aN (dK HB.out BF.out DT.out)):w.heap.size≤pO));have nC:=aA.mk ((by rw [hg];exact Nat.ne_of_lt (bU (g:=Az) (o:=.cells #[.int .i64 bY,.slice iE dR.length gZ] 65 (0,0)) (aH sK.out)):Az≠pO));have rC:=aA.mk ((by rw [hg];exact Nat.ne_of_gt (bU (g:=Az) (o:=.cells #[.int .i64 bY,.slice iE dR.length gZ] 65 (0,0)) (aH sK.out)):pO≠Az));have tC:=aA.mk ((by rw [hg];exact Nat.ne_of_lt (bU (g:=Cb) (o:=.cells #[.int .i64 Aa,.slice NC zJ.length ND] 65 (0,0)) (aH uP.out)):Cb≠pO));have mM:=aA.mk ((by rw [hg];exact Nat.ne_of_gt (bU (g:=Cb) (o:=.cells #[.int .i64 Aa,.slice NC zJ.length ND] 65 (0,0)) (aH uP.out)):pO≠Cb));clear Na sK uP HB;have Na:=bT;have sK:=bW;have uP:=dA;have HB:=dN;have kS:=eY;have aV8:=fV;have yL:=jA;have Gm:=nC;have KN:=rC;have Gn:=tC;have KO:=mM;clear bT bW dA dN eY fV jA nC rC tC mM;clear hb hbox hg;have aPp:=KN.out;have aPq:=Gm.out;have aBK:=KO.out;have aBL:=Gn.out;have Wj:w15.cell? ⟨pO,0,none⟩=some (.int .i64 0):=(aC kS.out 0).trans rfl;have Wl:w15.cell? ⟨pO,1,none⟩=some (.int .i64 0):=(aC kS.out 1).trans rfl;have Wn:=aG kS.out 0;have Wp:=aG kS.out 1;have aMP:w15.cell? ⟨Cb,0,none⟩=some (.int .i64 Aa):=(aC uP.out 0).trans rfl;have aMQ:w15.cell? ⟨Cb,1,none⟩=some (.slice NC zJ.length ND):=(aC uP.out 1).trans rfl;have aMR:=aG uP.out 0;have aMS:=aG uP.out 1)|((with_reducible refine cO (f:=46) rfl ?_);refine gI (some 22) rfl rfl Try.func46 aQ rfl #[.slice A0 l0.length c0,.agg #[.int .i64 Aa,.slice NC zJ.length ND]] rfl fP ?_;(with_reducible refine (gX.calls k _ _ l0 Aa _ _ zJ Gl PU Yn _ ?fJ ?fK ?gK ?iI A7.out).mono ?_);(case fJ=>exact Kd.dP HR0.out (eG HB.out BF.out DT.out yL.out));(case fK=>exact Am.out);(case gK=>exact Kd.dP aPn.out (eG HB.out BF.out DT.out yL.out));(case iI=>exact aPo.out);rintro e w20 ⟨aV9,rfl,ho0,hb⟩;refine ⟨_,rfl,?_⟩;have bT:=aA.mk (Kd.lH (by refine bH ?_;exact (Kd.dX (Kd.dO (p:=⟨pO,1,none⟩) (Kd.dO (p:=⟨pO,0,none⟩) (Kd.dV Na.out kS.out (by decide)) (fun _ hk=>hk.2) (.int .i64 DR)) (fun _ hk=>hk.2) (.int .i64 NF)) (fun _ h_=>h_.1))) (Kd.jY ho0) hb);have bW:=aA.mk (Kd.jV (Kd.qQ ho0 (Kd.wK (by refine bH ?_;exact (Kd.dX (Kd.dO (p:=⟨pO,1,none⟩) (Kd.dO (p:=⟨pO,0,none⟩) (Kd.dV Na.out kS.out (by decide)) (fun _ hk=>hk.2) (.int .i64 DR)) (fun _ hk=>hk.2) (.int .i64 NF)) (fun _ h_=>h_.1))))) (aN (eG HB.out BF.out DT.out yL.out)));have dA:=aA.mk (aK (g:=Az) (o:=.cells #[.int .i64 bY,.slice iE dR.length gZ] 65 (0,0)) (by refine aH ?_;refine aU ?_ Gm.out _;refine aH ?_;refine aU ?_ Gm.out _;refine aH ?_;exact sK.out) hb);have dN:=aA.mk (aK (g:=Cb) (o:=.cells #[.int .i64 Aa,.slice NC zJ.length ND] 65 (0,0)) (by refine aH ?_;refine aU ?_ Gn.out _;refine aH ?_;refine aU ?_ Gn.out _;refine aH ?_;exact uP.out) hb);have eY:=aA.mk (aK (g:=pO) (o:=.cells #[.int .i64 DR,.int .i64 NF] 27 (0,0)) (by refine aH ?_;refine aY (cs:=#[.int .i64 DR,.int .i64 0]) ?_ 1 _ rfl;refine aH ?_;refine aY (cs:=#[.int .i64 0,.int .i64 0]) ?_ 0 _ rfl;refine aH ?_;exact kS.out) hb);have fV:=aA.mk (aT (eG HB.out BF.out DT.out yL.out) hb);clear Na sK uP kS HB;have Na:=bT;have aCn:=bW;have sK:=dA;have uP:=dN;have kS:=eY;have HB:=fV;clear bT bW dA dN eY fV)|((with_reducible refine dH (N:=10) rfl ?_);(try (refine dZ (by rfl) ?_;dsimp only));refine dB ?hg (N:=10) ?hd (cs:=#[.int .i64 0,.int .i64 0]) (t:=27) ?hr ?_;(case hd=>rfl);(case hg=>rfl);(case hr=>first|(go_simp;done)|(go_simp;rfl));intro Du hg Rf hbox hb;have bT:=aA.mk (Kd.dI (bH Na.out) hb);have bW:=aA.mk (Kd.dI (bH aCn.out) hb);have dA:=aA.mk (aK (g:=Az) (o:=.cells #[.int .i64 bY,.slice iE dR.length gZ] 65 (0,0)) (aH sK.out) hb);have dN:=aA.mk (aK (g:=Cb) (o:=.cells #[.int .i64 Aa,.slice NC zJ.length ND] 65 (0,0)) (aH uP.out) hb);have eY:=aA.mk (aK (g:=pO) (o:=.cells #[.int .i64 DR,.int .i64 NF] 27 (0,0)) (aH kS.out) hb);have fV:=aA.mk (aT (eG HB.out BF.out DT.out yL.out) hb);have jA:=aA.mk (hbox);have nC:=aA.mk ((by rw [hg];exact (aN (eG HB.out BF.out DT.out yL.out)):w.heap.size≤Du));have rC:=aA.mk ((by rw [hg];exact (aN (eG HB.out BF.out DT.out yL.out)):w.heap.size≤Du));have tC:=aA.mk ((by rw [hg];exact Nat.ne_of_lt (bU (g:=Az) (o:=.cells #[.int .i64 bY,.slice iE dR.length gZ] 65 (0,0)) (aH sK.out)):Az≠Du));have mM:=aA.mk ((by rw [hg];exact Nat.ne_of_gt (bU (g:=Az) (o:=.cells #[.int .i64 bY,.slice iE dR.length gZ] 65 (0,0)) (aH sK.out)):Du≠Az));have oZ:=aA.mk ((by rw [hg];exact Nat.ne_of_lt (bU (g:=Cb) (o:=.cells #[.int .i64 Aa,.slice NC zJ.length ND] 65 (0,0)) (aH uP.out)):Cb≠Du));have wM:=aA.mk ((by rw [hg];exact Nat.ne_of_gt (bU (g:=Cb) (o:=.cells #[.int .i64 Aa,.slice NC zJ.length ND] 65 (0,0)) (aH uP.out)):Du≠Cb));have zG:=aA.mk ((by rw [hg];exact Nat.ne_of_lt (bU (g:=pO) (o:=.cells #[.int .i64 DR,.int .i64 NF] 27 (0,0)) (aH kS.out)):pO≠Du));have Bc:=aA.mk ((by rw [hg];exact Nat.ne_of_gt (bU (g:=pO) (o:=.cells #[.int .i64 DR,.int .i64 NF] 27 (0,0)) (aH kS.out)):Du≠pO));clear Na aCn sK uP kS HB;have Na:=bT;have aCn:=bW;have sK:=dA;have uP:=dN;have kS:=eY;have HB:=fV;have Dv:=jA;have bI2:=nC;have Vo:=rC;have Ja:=tC;have ZX:=mM;have Jb:=oZ;have ZY:=wM;have Dc:=zG;have KP:=Bc;clear bT bW dA dN eY fV jA nC rC tC mM oZ wM zG Bc;clear hb hbox hg;have aPe:=ZX.out;have aPf:=Ja.out;have aFi:=ZY.out;have aFj:=Jb.out;have aJk:=KP.out;have aJl:=Dc.out;have aF3:Rf.cell? ⟨Du,0,none⟩=some (.int .i64 0):=(aC Dv.out 0).trans rfl;have aF4:Rf.cell? ⟨Du,1,none⟩=some (.int .i64 0):=(aC Dv.out 1).trans rfl;have aF5:=aG Dv.out 0;have aF6:=aG Dv.out 1))
  (try simp only [Act.put,JF,Gf,Jh])
  go_cut [32] (fun v32 wc=>∃ (kq:Nat) (aF7:Bool),v32=.bool aF7∧aA (dS.j0 kq Ym Gl aF7 bY dR Aa zJ DR NF=some r)∧aA (kq≤k)∧aA (Kd.R (Kd.int .u8) 5 wc w.heap.size (fun k_=>some k_≠(aV9:Value).ownBlock) aV7 Ym)∧aA (Kd.R (Kd.int .u8) 5 wc w.heap.size (fun k_=>some k_≠(aV7:Value).ownBlock) aV9 Gl)∧aA (wc.heap[Az]?=some (.cells #[.int .i64 bY,(.slice iE dR.length gZ)] 65 (0,0)))∧aA (wc.heap[Cb]?=some (.cells #[.int .i64 Aa,(.slice NC zJ.length ND)] 65 (0,0)))∧aA (wc.heap[pO]?=some (.cells #[.int .i64 DR,.int .i64 NF] 27 (0,0)))∧aA (wc.heap[Du]?=some (.cells #[.int .i64 PU,.int .i64 Yn] 27 (0,0)))∧aA (Below w.heap.size w wc))
  case first =>
   have H:=HC8.out;clear HC8
   by_cases WI:DR=0
   ·rw [if_pos WI] at H;have Rh:(DR==0)=true:=beq_iff_eq.mpr WI;have aV_:(DR != 0)=false:=bne_eq_false_iff_eq.mpr WI;clear WI
    (first|rw [Rh]|(simp only [nX,tY];rw [Rh])|skip)
    have H':=aA.mk H;clear H;have aBM:=KN.out;have aBN:=Gm.out;have aOQ:=KO.out;have aOR:=Gn.out;have aFG:=Dc.out;have aFH:=KP.out;have WJ:Rf.cell? ⟨pO,0,none⟩=some (.int .i64 DR):=(aC kS.out 0).trans rfl;have WL:Rf.cell? ⟨pO,1,none⟩=some (.int .i64 NF):=(aC kS.out 1).trans rfl;have WM:=aG kS.out 0;have WN:=aG kS.out 1;have aFI:=ZX.out;have aFJ:=Ja.out;have aE5:=ZY.out;have aE6:=Jb.out;have WA:Rf.cell? ⟨Du,0,none⟩=some (.int .i64 0):=(aC Dv.out 0).trans rfl;have WB:Rf.cell? ⟨Du,1,none⟩=some (.int .i64 0):=(aC Dv.out 1).trans rfl;have WC:=aG Dv.out 0;have WE:=aG Dv.out 1
    go_wp2
    go_meet
    case rel=>exact ⟨_,((PU != 0)),gV,H',⟨by first|omega|exact Nat.le_refl _⟩,⟨by refine bH ?_;exact Kd.dX (Kd.dO (p:=⟨Du,1,none⟩) (Kd.dO (p:=⟨Du,0,none⟩) (Kd.dV Na.out Dv.out (by decide)) (fun _ hk=>hk.2) (.int .i64 PU)) (fun _ hk=>hk.2) (.int .i64 Yn)) (fun _ hk=>hk.1.2)⟩,⟨by refine bH ?_;exact Kd.dX (Kd.dO (p:=⟨Du,1,none⟩) (Kd.dO (p:=⟨Du,0,none⟩) (Kd.dV aCn.out Dv.out (by decide)) (fun _ hk=>hk.2) (.int .i64 PU)) (fun _ hk=>hk.2) (.int .i64 Yn)) (fun _ hk=>hk.1.2)⟩,⟨by refine aH ?_;refine aU ?_ Ja.out _;refine aH ?_;refine aU ?_ Ja.out _;refine aH ?_;exact sK.out⟩,⟨by refine aH ?_;refine aU ?_ Jb.out _;refine aH ?_;refine aU ?_ Jb.out _;refine aH ?_;exact uP.out⟩,⟨by refine aH ?_;refine aU ?_ Dc.out _;refine aH ?_;refine aU ?_ Dc.out _;refine aH ?_;exact kS.out⟩,⟨by refine aH ?_;refine aY (cs:=#[.int .i64 PU,.int .i64 0]) ?_ 1 _ rfl;refine aH ?_;refine aY (cs:=#[.int .i64 0,.int .i64 0]) ?_ 0 _ rfl;refine aH ?_;exact Dv.out⟩,⟨oD HB.out BF.out DT.out yL.out Vo.out⟩⟩
   ·rw [if_neg WI] at H;have Rh:(DR==0)=false:=beq_eq_false_iff_ne.mpr WI;have aV_:(DR != 0)=true:=bne_iff_ne.mpr WI
    (first|rw [Rh]|(simp only [nX,tY];rw [Rh])|skip)
    have H':=aA.mk H;clear H;have Yi:=KN.out;have Yj:=Gm.out;have aCb:=KO.out;have aCc:=Gn.out;have aJm:=Dc.out;have aJn:=KP.out;have aAW:Rf.cell? ⟨pO,0,none⟩=some (.int .i64 DR):=(aC kS.out 0).trans rfl;have aAX:Rf.cell? ⟨pO,1,none⟩=some (.int .i64 NF):=(aC kS.out 1).trans rfl;have aAY:=aG kS.out 0;have aAZ:=aG kS.out 1
    go_wp2
    go_meet
    case rel=>exact ⟨_,(true),gV,H',⟨by first|omega|exact Nat.le_refl _⟩,⟨by refine bH ?_;exact Kd.dX (Kd.dO (p:=⟨Du,1,none⟩) (Kd.dO (p:=⟨Du,0,none⟩) (Kd.dV Na.out Dv.out (by decide)) (fun _ hk=>hk.2) (.int .i64 PU)) (fun _ hk=>hk.2) (.int .i64 Yn)) (fun _ hk=>hk.1.2)⟩,⟨by refine bH ?_;exact Kd.dX (Kd.dO (p:=⟨Du,1,none⟩) (Kd.dO (p:=⟨Du,0,none⟩) (Kd.dV aCn.out Dv.out (by decide)) (fun _ hk=>hk.2) (.int .i64 PU)) (fun _ hk=>hk.2) (.int .i64 Yn)) (fun _ hk=>hk.1.2)⟩,⟨by refine aH ?_;refine aU ?_ Ja.out _;refine aH ?_;refine aU ?_ Ja.out _;refine aH ?_;exact sK.out⟩,⟨by refine aH ?_;refine aU ?_ Jb.out _;refine aH ?_;refine aU ?_ Jb.out _;refine aH ?_;exact uP.out⟩,⟨by refine aH ?_;refine aU ?_ Dc.out _;refine aH ?_;refine aU ?_ Dc.out _;refine aH ?_;exact kS.out⟩,⟨by refine aH ?_;refine aY (cs:=#[.int .i64 PU,.int .i64 0]) ?_ 1 _ rfl;refine aH ?_;refine aY (cs:=#[.int .i64 0,.int .i64 0]) ?_ 0 _ rfl;refine aH ?_;exact Dv.out⟩,⟨oD HB.out BF.out DT.out yL.out Vo.out⟩⟩
  case rest =>
   clear HC8;obtain ⟨kq,aF7,rfl,HA,HJ7,qL,Bd,sK,uP,kS,Dv,HB⟩:=hcut
   cases kq with
   | zero=>exact absurd HA.out (by simp [dS.j0])
   | succ kj7 =>
    have H:=HA.out;clear HA;simp only [dS.j0] at H
    by_cases VD:aF7=true
    ·subst VD;have H1:(if DR=0 then (some true) else (some ((Ym.length:Int)==0)))=some r:=by rw [if_pos rfl] at H;exact H
     clear H;have H:=H1;clear H1
     by_cases XY:DR=0
     ·rw [if_pos XY] at H;have aJh:(DR==0)=true:=beq_iff_eq.mpr XY;have aWa:(DR != 0)=false:=bne_eq_false_iff_eq.mpr XY;clear XY;obtain rfl:=Option.some.inj H;have XQ:=KN.out;have XR:=Gm.out;have aJo:=KO.out;have aJp:=Gn.out;have aPr:=Dc.out;have aPs:=KP.out;have OW:wc.cell? ⟨pO,0,none⟩=some (.int .i64 DR):=(aC kS.out 0).trans rfl;have OX:wc.cell? ⟨pO,1,none⟩=some (.int .i64 NF):=(aC kS.out 1).trans rfl;have OY:=aG kS.out 0;have OZ:=aG kS.out 1
      go_wp2
      go_ret
      exact ⟨by first|rfl|(simp [bK,bM] <;> rfl)|(simp [*,bK,bM] <;> rfl),oD HB.out BF.out DT.out yL.out Vo.out⟩
     ·rw [if_neg XY] at H;have aJh:(DR==0)=false:=beq_eq_false_iff_ne.mpr XY;have aWa:(DR != 0)=true:=bne_iff_ne.mpr XY;obtain rfl:=Option.some.inj H;have aFs:=KN.out;have aFt:=Gm.out;have aJi:=KO.out;have aJj:=Gn.out;have aJF:=Dc.out;have aJG:=KP.out;have aF8:wc.cell? ⟨pO,0,none⟩=some (.int .i64 DR):=(aC kS.out 0).trans rfl;have aF9:wc.cell? ⟨pO,1,none⟩=some (.int .i64 NF):=(aC kS.out 1).trans rfl;have aF_:=aG kS.out 0;have aGa:=aG kS.out 1;obtain ⟨aHB,aCo,aHC⟩:=Kd.iK qL.out;subst aHC
      go_wp2
      go_ret
      exact ⟨by first|rfl|(simp [bK,bM] <;> rfl)|(simp [*,bK,bM] <;> rfl),oD HB.out BF.out DT.out yL.out Vo.out⟩
    ·replace VD:=Bool.eq_false_iff.mpr VD;subst VD;have H1:((bF.f Ym Gl).bind fun VF=>((dQ.f kj7 bY dR Aa zJ).bind fun VG=>(some (VF==VG))))=some r:=by rw [if_neg (show ¬ (false=true) by decide)] at H;exact H
     clear H;have H:=H1;clear H1;replace H:=Option.bind_eq_some_iff.mp H;obtain ⟨VF,aWb,H⟩:=H;replace H:((dQ.f kj7 bY dR Aa zJ).bind fun VG=>(some (VF==VG)))=some r:=H;have A49:=aA.mk aWb;clear aWb;replace H:=Option.bind_eq_some_iff.mp H;obtain ⟨VG,aJC,H⟩:=H;replace H:(some (VF==VG))=some r:=H;have A50:=aA.mk aJC;clear aJC;obtain rfl:=Option.some.inj H
     try go_wp2
     have bT:=aA.mk (Kd.qG qL.out);have bW:=aA.mk (Kd.qG Bd.out);have dA:=aA.mk (dY sK.out);have dN:=aA.mk (dY uP.out);have eY:=aA.mk (dY kS.out);have fV:=aA.mk (dY Dv.out);have jA:=aA.mk (fZ HB.out);clear qL;clear Bd;clear sK;clear uP;clear kS;clear Dv;clear HB;have qL:=bT;have Bd:=bW;have sK:=dA;have uP:=dN;have kS:=eY;have Dv:=fV;have HB:=jA;clear bT bW dA dN eY fV jA;obtain ⟨bFP,bFQ,aWc⟩:=Kd.iK qL.out
     (first|subst aWc|(injection aWc with Hl NQ Ho;have NR:=Hl.symm;have NS:=Ho.symm;clear Hl NQ Ho;subst NR;subst NS))
     obtain ⟨QA,QB,aMq⟩:=Kd.iK Bd.out
     (first|subst aMq|(injection aMq with Hl NQ Ho;have NR:=Hl.symm;have NS:=Ho.symm;clear Hl NQ Ho;subst NR;subst NS))
     refine qZ (n:=8) (S:=fun w'=>w'.cell? ⟨Az,0,none⟩=some (.int .i64 bY)∧w'.cell? ⟨Az,1,none⟩=some (.slice iE dR.length gZ)∧w'.cell? ⟨Cb,0,none⟩=some (.int .i64 Aa)∧w'.cell? ⟨Cb,1,none⟩=some (.slice NC zJ.length ND)) (ds:=[]) #[false,false,false,false,false,false,false,false] aQ rfl rfl ⟨(aC sK.out 0).trans rfl,(aC sK.out 1).trans rfl,(aC uP.out 0).trans rfl,(aC uP.out 1).trans rfl⟩ (fun hHeld=>?_);refine nK dS.bFO dS.aV6 (fun gG zQ=>?_);generalize wc.drew=w51 at qL Bd sK uP kS Dv HB hHeld ⊢;refine bQ (i:=0) (N:=some 41) (v:=?_) (a':=?_) #[true,false,false,false,false,false,false,false] rfl rfl (bP gG.out aQ) (fun _ _ _ h=>h) (bG ?_) ?_ ?_;rotate_left
     ·intro w';go_simp;with_reducible rfl
     rotate_left
     ·simp only [Act.put,aX];rfl
     refine bQ (i:=1) (N:=some 42) (v:=?_) (a':=?_) #[true,true,false,false,false,false,false,false] rfl rfl (bP gG.out aQ) (fun _ _ _ h=>h) (bG ?_) ?_ ?_;rotate_left
     ·intro w';go_simp;with_reducible rfl
     rotate_left
     ·simp only [Act.put,aX];rfl
     refine iQ (i:=3) (N:=some 44) (v:=?_) (a':=?_) #[true,true,false,true,false,false,false,false] rfl rfl (iH gG.out zQ.out aQ) (fun _ _ _ h=>h) (bG ?_) hHeld ?_ ?_;rotate_left
     ·rintro w' ⟨s0,s1,s2,s3⟩;go_simp;with_reducible rfl
     rotate_left
     ·simp only [Act.put,aX];rfl
     refine iQ (i:=4) (N:=some 45) (v:=?_) (a':=?_) #[true,true,false,true,true,false,false,false] rfl rfl (iH gG.out zQ.out aQ) (fun _ _ _ h=>h) (bG ?_) hHeld ?_ ?_;rotate_left
     ·rintro w' ⟨s0,s1,s2,s3⟩;go_simp;with_reducible rfl
     rotate_left
     ·simp only [Act.put,aX];rfl
     refine wL (i:=2) (N:=some 43) #[true,true,true,true,true,false,false,false] rfl rfl (qH gG.out aQ) (by decide) (fun K hK=>?_);refine xR Try.func24 aQ rfl #[.slice bFP Ym.length bFQ,.slice QA Gl.length QB] (by rfl) rfl rfl fP ?_
     with_reducible refine (bF.calls _ _ Ym _ _ Gl VF _ ?fJ ?fK ?gK ?iI A49.out).mono ?_
     (case fJ=>repeat (first|exact (Kd.fM qL.out).2.2|(with_reducible refine Kd.fG ?_ _)|(with_reducible refine Kd.fC ?_ _)|(with_reducible refine Kd.gJ ?_)))
     (case fK=>exact (Kd.fM qL.out).2.1)
     (case gK=>repeat (first|exact (Kd.fM Bd.out).2.2|(with_reducible refine Kd.fG ?_ _)|(with_reducible refine Kd.fC ?_ _)|(with_reducible refine Kd.gJ ?_)))
     (case iI=>exact (Kd.fM Bd.out).2.1)
     rintro e w' ⟨rfl,⟨nd,rfl⟩⟩;refine ⟨_,rfl,?_⟩;refine hK.out _ _ ⟨(aC sK.out 0).trans rfl,(aC sK.out 1).trans rfl,(aC uP.out 0).trans rfl,(aC uP.out 1).trans rfl⟩ (fun hHeld=>?_);clear hK K;refine sJ (a':=?_) ?_ ?_;rotate_left
     ·show Act.put _ (some 43) _=_;simp only [Act.put,aX];rfl
     refine wL (i:=5) (N:=some 46) #[true,true,true,true,true,true,false,false] rfl rfl (qH gG.out aQ) (by decide) (fun K hK=>?_);refine xR Try.func51 aQ rfl #[.agg #[.int .i64 bY,.slice iE dR.length gZ],.agg #[.int .i64 Aa,.slice NC zJ.length ND]] (by rfl) rfl rfl fP ?_
     with_reducible refine (dQ.calls kj7 bY _ _ dR Aa _ _ zJ VG _ ?fJ ?fK ?gK ?iI A50.out).mono ?_
     (case fJ=>repeat (first|exact (Kd.dP AZ.out (oD HB.out BF.out DT.out yL.out Vo.out))|(with_reducible refine Kd.fG ?_ _)|(with_reducible refine Kd.fC ?_ _)|(with_reducible refine Kd.gJ ?_)))
     (case fK=>exact Hg.out)
     (case gK=>repeat (first|exact (Kd.dP aPn.out (oD HB.out BF.out DT.out yL.out Vo.out))|(with_reducible refine Kd.fG ?_ _)|(with_reducible refine Kd.fC ?_ _)|(with_reducible refine Kd.gJ ?_)))
     (case iI=>exact aPo.out)
     rintro e w54 ⟨rfl,hb⟩;refine ⟨_,rfl,?_⟩;have bT:=aA.mk (Kd.dI (bH qL.out) hb);have bW:=aA.mk (Kd.dI (bH Bd.out) hb);have dA:=aA.mk (aK (g:=Az) (o:=.cells #[.int .i64 bY,.slice iE dR.length gZ] 65 (0,0)) (aH sK.out) hb);have dN:=aA.mk (aK (g:=Cb) (o:=.cells #[.int .i64 Aa,.slice NC zJ.length ND] 65 (0,0)) (aH uP.out) hb);have eY:=aA.mk (aK (g:=pO) (o:=.cells #[.int .i64 DR,.int .i64 NF] 27 (0,0)) (aH kS.out) hb);have fV:=aA.mk (aK (g:=Du) (o:=.cells #[.int .i64 PU,.int .i64 Yn] 27 (0,0)) (aH Dv.out) hb);have jA:=aA.mk (aT (oD HB.out BF.out DT.out yL.out Vo.out) hb);clear qL;clear Bd;clear sK;clear uP;clear kS;clear Dv;clear HB;have qL:=bT;have Bd:=bW;have sK:=dA;have uP:=dN;have kS:=eY;have Dv:=fV;have HB:=jA;clear bT bW dA dN eY fV jA
     (try clear hb)
     (try clear hb2)
     (try clear hk)
     (try clear hi)
     refine hK.out _ _ ⟨(aC sK.out 0).trans rfl,(aC sK.out 1).trans rfl,(aC uP.out 0).trans rfl,(aC uP.out 1).trans rfl⟩ (fun hHeld=>?_);clear hK K;refine sJ (a':=?_) ?_ ?_;rotate_left
     ·show Act.put _ (some 46) _=_;simp only [Act.put,aX];rfl
     refine bQ (i:=6) (N:=some 47) (v:=?_) (a':=?_) #[true,true,true,true,true,true,true,false] rfl rfl (bP gG.out aQ) (fun _ _ _ h=>h) (bG ?_) ?_ ?_;rotate_left
     ·intro w';go_simp;with_reducible rfl
     rotate_left
     ·simp only [Act.put,aX];rfl
     refine bQ (i:=7) (N:=some 6) (v:=?_) (a':=?_) #[true,true,true,true,true,true,true,true] rfl rfl (bP gG.out aQ) (fun _ _ _ h=>h) (bG ?_) ?_ ?_;rotate_left
     ·intro w';go_simp;with_reducible rfl
     rotate_left
     ·simp only [Act.put,aX];rfl
     refine sG (sH gG.out aQ) ?_
     try go_wp2
     go_ret
     exact ⟨by first|rfl|(simp [bK,bM] <;> rfl)|(simp [*,bK,bM] <;> rfl),oD HB.out BF.out DT.out yL.out Vo.out⟩
 ·replace c5:=Bool.eq_false_iff.mpr c5
  subst c5
  have H1:(some false)=some r:=by rw [if_neg (show ¬ (false=true) by decide)] at H;exact H
  clear H
  have H:=H1
  clear H1
  exact absurd ((Option.some.inj H).trans HT.out) (by decide)
end Go.Proofs.Ytipjpdiianopcaa.E
