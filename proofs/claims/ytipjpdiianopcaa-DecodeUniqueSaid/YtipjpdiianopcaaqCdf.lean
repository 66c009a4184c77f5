/- Words and contracts for the laws of encode. -/
import Derived.Test.YtipjpdiianopcaaqAx0
import Derived.Test.YtipjpdiianopcaaqAx2
import Derived.Test.YtipjpdiianopcaaqAx7
import Derived.Test.YtipjpdiianopcaaqAx9
namespace Go.Proofs.Ytipjpdiianopcaa.A
open Go.RowKit Go.Proofs.YtipjpdiianopcaaW.dF Go.Proofs.YtipjpdiianopcaaW.fO Go.Proofs.YtipjpdiianopcaaW.jP
attribute [local go_sem] mV mW oO oP lC lD mX mY
set_option linter.unusedVariables false
set_option linter.unusedSimpArgs false
mutual
def dD.j0:Nat→List Int→Int→Bool→Int→Int→Option (Int × Int)
 | 0,_,_,_,_,_=>none
 | k+1,x1,x2,x17,TB,Xr=>if x17=true then ((bD.f 2 (-4)).bind fun aC4=>(dD.j1 k x1 x2 aC4.1 aC4.2)) else (dD.j1 k x1 x2 TB Xr)
def dD.j1:Nat→List Int→Int→Int→Int→Option (Int × Int)
 | 0,_,_,_,_=>none
 | k+1,x1,x2,TB,Xr=>if TB=0 then ((bI.f x2 0 (wrap64 ((x1.length:Int)-1))).bind fun aN4=>(if aN4=true then (some (TB,Xr)) else ((bD.f 3 (-5)).bind fun Vx=>(some (Vx.1,Vx.2))))) else (some (TB,Xr))
end
def dD.f (k:Nat) (l0:List (nJ)) (l1:List Int) (a2:Int):Option (Int × Int):=(bC.f k l0).bind fun yK=>(if yK.1=0 then (dD.j0 k l1 a2 (decide ((l1.length:Int)>1500)) yK.1 yK.2) else (dD.j0 k l1 a2 false yK.1 yK.2))
set_option maxHeartbeats 8000000 in
set_option maxRecDepth 100000 in
theorem dD.calls (k:Nat) (A0:Option Addr) (c0:Nat) (l0:List (nJ)) (A1:Option Addr) (c1:Nat) (l1:List Int) (a2:Int) (r1:Int) (r2:Int) (w:World) (hr0:Kd.C Nv w A0 l0.length l0) (hc0:l0.length≤c0) (hr1:Kd.C (Kd.int .u8) w A1 l1.length l1) (hc1:l1.length≤c1) (h:dD.f k l0 l1 a2=some (r1,r2)) :
  Calls Try.prog 50 #[.slice A0 l0.length c0,.slice A1 l1.length c1,.int .i64 a2] w fun e w'=>e=.returned (.agg #[.int .i64 r1,.int .i64 r2])∧Below w.heap.size w w':=by
 have NL:=Try.underlying27
 have HR0:=aA.mk hr0
 have Am:=aA.mk hc0
 clear hr0 hc0
 have HR1:=aA.mk hr1
 have Gj:=aA.mk hc1
 clear hr1 hc1
 have HB:=aA.mk (Below.refl w.heap.size w)
 have H:((bC.f k l0).bind fun yK=>(if yK.1=0 then (dD.j0 k l1 a2 (decide ((l1.length:Int)>1500)) yK.1 yK.2) else (dD.j0 k l1 a2 false yK.1 yK.2)))=some (r1,r2):=h
 clear h
 replace H:=Option.bind_eq_some_iff.mp H
 obtain ⟨⟨Gl,YJ⟩,XZ,H⟩:=H
 replace H:(if Gl=0 then (dD.j0 k l1 a2 (decide ((l1.length:Int)>1500)) Gl YJ) else (dD.j0 k l1 a2 false Gl YJ))=some (r1,r2):=H
 have A4:=aA.mk XZ
 clear XZ
 have HC5:=aA.mk H
 clear H
 go_enter Try.func50,Try.ntmps50
 go_upto_region 2 with (first|((with_reducible refine dH (N:=6) rfl ?_);(try (refine dZ (by rfl) ?_;dsimp only));refine dB ?hg (N:=6) ?hd (cs:=#[.int .i64 0,.int .i64 0]) (t:=27) ?hr ?_;(case hd=>rfl);(case hg=>rfl);(case hr=>first|(go_simp;done)|(go_simp;rfl));intro pO hg w6 hbox hb;have bT:=aA.mk (aT (dG HB.out) hb);have bW:=aA.mk (hbox);have dA:=aA.mk ((by rw [hg];exact (aN (dG HB.out)):w.heap.size≤pO));have dN:=aA.mk ((by rw [hg];exact (aN (dG HB.out)):w.heap.size≤pO));clear HB;have HB:=bT;have kS:=bW;have aV8:=dA;have yL:=dN;clear bT bW dA dN;clear hb hbox hg)|((with_reducible refine cO (f:=34) rfl ?_);refine gI (some 9) rfl rfl Try.func34 aQ rfl #[.slice A0 l0.length c0] rfl fP ?_;(with_reducible refine (bC.calls k _ _ l0 Gl YJ _ ?fJ ?fK A4.out).mono ?_);(case fJ=>repeat (first|exact (Kd.dP HR0.out HB.out)|(with_reducible refine Kd.fG ?_ _)|(with_reducible refine Kd.fC ?_ _)|(with_reducible refine Kd.gJ ?_)));(case fK=>exact Am.out);rintro e w7 ⟨rfl,hb⟩;refine ⟨_,rfl,?_⟩;have bT:=aA.mk (aK (g:=pO) (o:=.cells #[.int .i64 0,.int .i64 0] 27 (0,0)) (aH kS.out) hb);have bW:=aA.mk (aT (bV HB.out yL.out) hb);clear kS HB;have kS:=bT;have HB:=bW;clear bT bW)|((with_reducible refine dH (N:=7) rfl ?_);(try (refine dZ (by rfl) ?_;dsimp only));refine dB ?hg (N:=7) ?hd (cs:=#[.int .i64 0,.int .i64 0]) (t:=27) ?hr ?_;(case hd=>rfl);(case hg=>rfl);(case hr=>first|(go_simp;done)|(go_simp;rfl));intro zX hg w8 hbox hb;have bT:=aA.mk (aK (g:=pO) (o:=.cells #[.int .i64 0,.int .i64 0] 27 (0,0)) (aH kS.out) hb);have bW:=aA.mk (aT (bV HB.out yL.out) hb);have dA:=aA.mk (hbox);have dN:=aA.mk ((by rw [hg];exact (aN (bV HB.out yL.out)):w.heap.size≤zX));have eY:=aA.mk ((by rw [hg];exact (aN (bV HB.out yL.out)):w.heap.size≤zX));have fV:=aA.mk ((by rw [hg];exact Nat.ne_of_lt (bU (g:=pO) (o:=.cells #[.int .i64 0,.int .i64 0] 27 (0,0)) (aH kS.out)):pO≠zX));have jA:=aA.mk ((by rw [hg];exact Nat.ne_of_gt (bU (g:=pO) (o:=.cells #[.int .i64 0,.int .i64 0] 27 (0,0)) (aH kS.out)):zX≠pO));clear kS HB;have kS:=bT;have HB:=bW;have oV:=dA;have bKx:=dN;have Oz:=eY;have vZ:=fV;have GI:=jA;clear bT bW dA dN eY fV jA;clear hb hbox hg;have bEy:=GI.out;have bEz:=vZ.out;have aEU:w8.cell? ⟨zX,0,none⟩=some (.int .i64 0):=(aC oV.out 0).trans rfl;have aEV:w8.cell? ⟨zX,1,none⟩=some (.int .i64 0):=(aC oV.out 1).trans rfl;have aEW:=aG oV.out 0;have aEX:=aG oV.out 1))
 (try simp only [Act.put,JF,Gf,Jh])
 go_cut [17] (fun v17 wc=>∃ (kq:Nat) (aG3:Bool),v17=.bool aG3∧aA (dD.j0 kq l1 a2 aG3 Gl YJ=some (r1,r2))∧aA (kq≤k)∧aA (wc.heap[pO]?=some (.cells #[.int .i64 0,.int .i64 0] 27 (0,0)))∧aA (wc.heap[zX]?=some (.cells #[.int .i64 Gl,.int .i64 YJ] 27 (0,0)))∧aA (Below w.heap.size w wc))
 case first =>
  have H:=HC5.out
  clear HC5
  by_cases c11:Gl=0
  ·rw [if_pos c11] at H;have KD:(Gl==0)=true:=beq_iff_eq.mpr c11;have ZU:(Gl != 0)=false:=bne_eq_false_iff_eq.mpr c11;clear c11
   (first|rw [KD]|(simp only [nX,tY];rw [KD])|skip)
   have H':=aA.mk H;clear H;have XA:=GI.out;have XB:=vZ.out;have JG:w8.cell? ⟨zX,0,none⟩=some (.int .i64 0):=(aC oV.out 0).trans rfl;have JH:w8.cell? ⟨zX,1,none⟩=some (.int .i64 0):=(aC oV.out 1).trans rfl;have JI:=aG oV.out 0;have JJ:=aG oV.out 1
   go_wp2
   go_meet
   case rel=>exact ⟨_,(decide ((l1.length:Int)>1500)),gV,H',⟨by first|omega|exact Nat.le_refl _⟩,⟨by refine aH ?_;refine aU ?_ vZ.out _;refine aH ?_;refine aU ?_ vZ.out _;refine aH ?_;exact kS.out⟩,⟨by refine aH ?_;refine aY (cs:=#[.int .i64 Gl,.int .i64 0]) ?_ 1 _ rfl;refine aH ?_;refine aY (cs:=#[.int .i64 0,.int .i64 0]) ?_ 0 _ rfl;refine aH ?_;exact oV.out⟩,⟨dK HB.out yL.out Oz.out⟩⟩
  ·rw [if_neg c11] at H;have KD:(Gl==0)=false:=beq_eq_false_iff_ne.mpr c11;have ZU:(Gl != 0)=true:=bne_iff_ne.mpr c11
   (first|rw [KD]|(simp only [nX,tY];rw [KD])|skip)
   have H':=aA.mk H;clear H;have aJf:=GI.out;have aJg:=vZ.out;have WQ:w8.cell? ⟨zX,0,none⟩=some (.int .i64 0):=(aC oV.out 0).trans rfl;have WS:w8.cell? ⟨zX,1,none⟩=some (.int .i64 0):=(aC oV.out 1).trans rfl;have WT:=aG oV.out 0;have WU:=aG oV.out 1
   go_wp2
   go_meet
   case rel=>exact ⟨_,(false),gV,H',⟨by first|omega|exact Nat.le_refl _⟩,⟨by refine aH ?_;refine aU ?_ vZ.out _;refine aH ?_;refine aU ?_ vZ.out _;refine aH ?_;exact kS.out⟩,⟨by refine aH ?_;refine aY (cs:=#[.int .i64 Gl,.int .i64 0]) ?_ 1 _ rfl;refine aH ?_;refine aY (cs:=#[.int .i64 0,.int .i64 0]) ?_ 0 _ rfl;refine aH ?_;exact oV.out⟩,⟨dK HB.out yL.out Oz.out⟩⟩
 case rest =>
  clear HC5
  obtain ⟨kq,aG3,rfl,HA,HJ4,kS,oV,HB⟩:=hcut
  cases kq with
  | zero=>exact absurd HA.out (by simp [dD.j0])
  | succ kj4 =>
   have H:=HA.out;clear HA;simp only [dD.j0] at H;have aTY:=aA.mk H;clear H
   go_upto_if 17 with (fail)
   go_cut [] (fun wc=>∃ (kq:Nat) (nP:Int) (tX:Int),aA (dD.j1 kq l1 a2 nP tX=some (r1,r2))∧aA (kq≤kj4)∧aA (wc.heap[pO]?=some (.cells #[.int .i64 0,.int .i64 0] 27 (0,0)))∧aA (wc.heap[zX]?=some (.cells #[.int .i64 nP,.int .i64 tX] 27 (0,0)))∧aA (Below w.heap.size w wc))
   case first =>
    have H:=aTY.out;clear aTY
    by_cases c17:aG3=true
    ·subst c17;have H1:((bD.f 2 (-4)).bind fun aC4=>(dD.j1 kj4 l1 a2 aC4.1 aC4.2))=some (r1,r2):=by rw [if_pos rfl] at H;exact H
     clear H;have H:=H1;clear H1;replace H:=Option.bind_eq_some_iff.mp H;obtain ⟨⟨PU,Yn⟩,aBV,H⟩:=H;replace H:(dD.j1 kj4 l1 a2 PU Yn)=some (r1,r2):=H;have A18:=aA.mk aBV;clear aBV;have H':=aA.mk H;clear H
     go_wp2_with (first|((with_reducible refine cO (f:=23) rfl ?_);refine gI (some 18) rfl rfl Try.func23 aQ rfl #[.int .i64 2,.int .i64 (-4)] rfl fP ?_;(with_reducible refine (bD.calls 2 (-4) PU Yn _ A18.out).mono ?_);rintro e XX ⟨rfl,hb⟩;refine ⟨_,rfl,?_⟩;have bT:=aA.mk (aK (g:=pO) (o:=.cells #[.int .i64 0,.int .i64 0] 27 (0,0)) (aH kS.out) hb);have bW:=aA.mk (aK (g:=zX) (o:=.cells #[.int .i64 Gl,.int .i64 YJ] 27 (0,0)) (aH oV.out) hb);have dA:=aA.mk (aT (dK HB.out yL.out Oz.out) hb);clear kS oV HB;have kS:=bT;have oV:=bW;have HB:=dA;clear bT bW dA;have aOH:=GI.out;have aOI:=vZ.out;have aAJ:XX.cell? ⟨zX,0,none⟩=some (.int .i64 Gl):=(aC oV.out 0).trans rfl;have aAK:XX.cell? ⟨zX,1,none⟩=some (.int .i64 YJ):=(aC oV.out 1).trans rfl;have aAL:=aG oV.out 0;have aAM:=aG oV.out 1))
     go_meet
     case rel=>exact ⟨_,(PU),(Yn),H',⟨by have:=HJ4.out;first|omega|exact Nat.le_refl _⟩,⟨by refine aH ?_;refine aU ?_ vZ.out _;refine aH ?_;refine aU ?_ vZ.out _;refine aH ?_;exact kS.out⟩,⟨by refine aH ?_;refine aY (cs:=#[.int .i64 PU,.int .i64 YJ]) ?_ 1 _ rfl;refine aH ?_;refine aY (cs:=#[.int .i64 Gl,.int .i64 YJ]) ?_ 0 _ rfl;refine aH ?_;exact oV.out⟩,⟨dK HB.out yL.out Oz.out⟩⟩
    ·replace c17:=Bool.eq_false_iff.mpr c17;subst c17;have H1:(dD.j1 kj4 l1 a2 Gl YJ)=some (r1,r2):=by rw [if_neg (show ¬ (false=true) by decide)] at H;exact H
     clear H;have H:=H1;clear H1;have H':=aA.mk H;clear H
     go_wp2
     go_meet
     case rel=>exact ⟨_,(Gl),(YJ),H',⟨by have:=HJ4.out;first|omega|exact Nat.le_refl _⟩,⟨by refine aH ?_;exact kS.out⟩,⟨by refine aH ?_;exact oV.out⟩,⟨dK HB.out yL.out Oz.out⟩⟩
   case rest =>
    clear aTY;obtain ⟨kq,nP,tX,HA,bMx,kS,oV,HB⟩:=hcut
    cases kq with
    | zero=>exact absurd HA.out (by simp [dD.j1])
    | succ bMy =>
     have H:=HA.out;clear HA;simp only [dD.j1] at H
     by_cases Ze:nP=0
     ·rw [if_pos Ze] at H;have aIO:(nP==0)=true:=beq_iff_eq.mpr Ze;have bAr:(nP != 0)=false:=bne_eq_false_iff_eq.mpr Ze;clear Ze;replace H:=Option.bind_eq_some_iff.mp H;obtain ⟨aN4,aIP,H⟩:=H;replace H:(if aN4=true then (some (nP,tX)) else ((bD.f 3 (-5)).bind fun Vx=>(some (Vx.1,Vx.2))))=some (r1,r2):=H;have A23:=aA.mk aIP;clear aIP
      by_cases c24:aN4=true
      ·subst c24;have H1:(some (nP,tX))=some (r1,r2):=by rw [if_pos rfl] at H;exact H
       clear H;have H:=H1;clear H1;simp only [Option.some.injEq,Prod.mk.injEq] at H;obtain ⟨rfl,rfl⟩:=H;have aE3:=GI.out;have aE4:=vZ.out;have LJ:wc.cell? ⟨zX,0,none⟩=some (.int .i64 nP):=(aC oV.out 0).trans rfl;have LK:wc.cell? ⟨zX,1,none⟩=some (.int .i64 tX):=(aC oV.out 1).trans rfl;have LM:=aG oV.out 0;have LP:=aG oV.out 1
       go_wp2_with (first|(go_at_call 36;(with_reducible refine (bI.calls a2 0 (wrap64 ((l1.length:Int)-1)) true _ A23.out).mono ?_);rintro e w' ⟨rfl,⟨nd,rfl⟩⟩;(try (rw [zT wc];generalize CP:World.drewN wc _=wc;have bT:aA (wc.heap[pO]?=some (.cells #[.int .i64 0,.int .i64 0] 27 (0,0))):=⟨by rw [← CP];exact (aH kS.out)⟩;have bW:aA (wc.heap[zX]?=some (.cells #[.int .i64 nP,.int .i64 tX] 27 (0,0))):=⟨by rw [← CP];exact (aH oV.out)⟩;have dA:aA (Below w.heap.size w wc):=⟨by rw [← CP];exact (dK HB.out yL.out Oz.out)⟩;clear kS oV HB CP;have kS:=bT;have oV:=bW;have HB:=dA;clear bT bW dA));have Xl:wc.cell? ⟨pO,0,none⟩=some (.int .i64 0):=(aC kS.out 0).trans rfl;have Xm:wc.cell? ⟨pO,1,none⟩=some (.int .i64 0):=(aC kS.out 1).trans rfl;have Xn:=aG kS.out 0;have Xo:=aG kS.out 1;have bAs:wc.cell? ⟨zX,0,none⟩=some (.int .i64 nP):=(aC oV.out 0).trans rfl;have bAt:wc.cell? ⟨zX,1,none⟩=some (.int .i64 tX):=(aC oV.out 1).trans rfl;have bAu:=aG oV.out 0;have bAv:=aG oV.out 1))
       refine bodyPost_ret (results_cell_row rfl _ _ pO 27 #[.int .i64 nP,.int .i64 tX] (0,0) _ rfl (by refine aH ?_;refine aY (cs:=#[.int .i64 nP,.int .i64 0]) ?_ 1 _ rfl;refine aH ?_;refine aY (cs:=#[.int .i64 0,.int .i64 0]) ?_ 0 _ rfl;refine aH ?_;exact kS.out) Try.underlying27 rfl aQ) rfl ?_;exact ⟨by first|rfl|(simp [bK,bM] <;> rfl)|(simp [*,bK,bM] <;> rfl),dK HB.out yL.out Oz.out⟩
      ·replace c24:=Bool.eq_false_iff.mpr c24;subst c24;have H1:((bD.f 3 (-5)).bind fun Vx=>(some (Vx.1,Vx.2)))=some (r1,r2):=by rw [if_neg (show ¬ (false=true) by decide)] at H;exact H
       clear H;have H:=H1;clear H1;replace H:=Option.bind_eq_some_iff.mp H;obtain ⟨⟨VF,VG⟩,bAw,H⟩:=H;replace H:(some (VF,VG))=some (r1,r2):=H;have A28:=aA.mk bAw;clear bAw;simp only [Option.some.injEq,Prod.mk.injEq] at H;obtain ⟨rfl,rfl⟩:=H;have aFG:=GI.out;have aFH:=vZ.out;have WJ:wc.cell? ⟨zX,0,none⟩=some (.int .i64 nP):=(aC oV.out 0).trans rfl;have WL:wc.cell? ⟨zX,1,none⟩=some (.int .i64 tX):=(aC oV.out 1).trans rfl;have WM:=aG oV.out 0;have WN:=aG oV.out 1
       go_wp2_with (first|(go_at_call 36;(with_reducible refine (bI.calls a2 0 (wrap64 ((l1.length:Int)-1)) false _ A23.out).mono ?_);rintro e w' ⟨rfl,⟨nd,rfl⟩⟩;(try (rw [zT wc];generalize CP:World.drewN wc _=wc;have bT:aA (wc.heap[pO]?=some (.cells #[.int .i64 0,.int .i64 0] 27 (0,0))):=⟨by rw [← CP];exact (aH kS.out)⟩;have bW:aA (wc.heap[zX]?=some (.cells #[.int .i64 nP,.int .i64 tX] 27 (0,0))):=⟨by rw [← CP];exact (aH oV.out)⟩;have dA:aA (Below w.heap.size w wc):=⟨by rw [← CP];exact (dK HB.out yL.out Oz.out)⟩;clear kS oV HB CP;have kS:=bT;have oV:=bW;have HB:=dA;clear bT bW dA)))|((with_reducible refine cO (f:=23) rfl ?_);refine gI (some 30) rfl rfl Try.func23 aQ rfl #[.int .i64 3,.int .i64 (-5)] rfl fP ?_;(with_reducible refine (bD.calls 3 (-5) VF VG _ A28.out).mono ?_);rintro e w31 ⟨rfl,hb⟩;refine ⟨_,rfl,?_⟩;have bT:=aA.mk (aK (g:=pO) (o:=.cells #[.int .i64 0,.int .i64 0] 27 (0,0)) (aH kS.out) hb);have bW:=aA.mk (aK (g:=zX) (o:=.cells #[.int .i64 nP,.int .i64 tX] 27 (0,0)) (aH oV.out) hb);have dA:=aA.mk (aT (dK HB.out yL.out Oz.out) hb);clear kS oV HB;have kS:=bT;have oV:=bW;have HB:=dA;clear bT bW dA;have aFK:w31.cell? ⟨zX,0,none⟩=some (.int .i64 nP):=(aC oV.out 0).trans rfl;have aFL:w31.cell? ⟨zX,1,none⟩=some (.int .i64 tX):=(aC oV.out 1).trans rfl;have aFM:=aG oV.out 0;have aFN:=aG oV.out 1;have WA:w31.cell? ⟨pO,0,none⟩=some (.int .i64 0):=(aC kS.out 0).trans rfl;have WB:w31.cell? ⟨pO,1,none⟩=some (.int .i64 0):=(aC kS.out 1).trans rfl;have WC:=aG kS.out 0;have WE:=aG kS.out 1))
       refine bodyPost_ret (results_cell_row rfl _ _ pO 27 #[.int .i64 VF,.int .i64 VG] (0,0) _ rfl (by refine aH ?_;refine aY (cs:=#[.int .i64 VF,.int .i64 0]) ?_ 1 _ rfl;refine aH ?_;refine aY (cs:=#[.int .i64 0,.int .i64 0]) ?_ 0 _ rfl;refine aH ?_;refine aU ?_ vZ.out _;refine aH ?_;refine aU ?_ vZ.out _;refine aH ?_;exact kS.out) Try.underlying27 rfl aQ) rfl ?_;exact ⟨by first|rfl|(simp [bK,bM] <;> rfl)|(simp [*,bK,bM] <;> rfl),dK HB.out yL.out Oz.out⟩
     ·rw [if_neg Ze] at H;have aIO:(nP==0)=false:=beq_eq_false_iff_ne.mpr Ze;have bAr:(nP != 0)=true:=bne_iff_ne.mpr Ze;simp only [Option.some.injEq,Prod.mk.injEq] at H;obtain ⟨rfl,rfl⟩:=H;have Yi:=GI.out;have Yj:=vZ.out;have WZ:wc.cell? ⟨zX,0,none⟩=some (.int .i64 nP):=(aC oV.out 0).trans rfl;have Xa:wc.cell? ⟨zX,1,none⟩=some (.int .i64 tX):=(aC oV.out 1).trans rfl;have Xb:=aG oV.out 0;have Xc:=aG oV.out 1;have Ro:wc.cell? ⟨pO,0,none⟩=some (.int .i64 0):=(aC kS.out 0).trans rfl;have Rq:wc.cell? ⟨pO,1,none⟩=some (.int .i64 0):=(aC kS.out 1).trans rfl;have Rt:=aG kS.out 0;have Ru:=aG kS.out 1
      go_wp2
      refine bodyPost_ret (results_cell_row rfl _ _ pO 27 #[.int .i64 nP,.int .i64 tX] (0,0) _ rfl (by refine aH ?_;refine aY (cs:=#[.int .i64 nP,.int .i64 0]) ?_ 1 _ rfl;refine aH ?_;refine aY (cs:=#[.int .i64 0,.int .i64 0]) ?_ 0 _ rfl;refine aH ?_;exact kS.out) Try.underlying27 rfl aQ) rfl ?_;exact ⟨by first|rfl|(simp [bK,bM] <;> rfl)|(simp [*,bK,bM] <;> rfl),dK HB.out yL.out Oz.out⟩
end Go.Proofs.Ytipjpdiianopcaa.A
