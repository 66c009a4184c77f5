/- Words and contracts for the laws of encode. -/
import Derived.Test.YtipjpdiianopcaaqAx0
namespace Go.Proofs.Ytipjpdiianopcaa.A
open Go.RowKit Go.Proofs.YtipjpdiianopcaaW.dF Go.Proofs.YtipjpdiianopcaaW.fO Go.Proofs.YtipjpdiianopcaaW.jP
attribute [local go_sem] mV mW oO oP lC lD mX mY
set_option linter.unusedVariables false
set_option linter.unusedSimpArgs false
def CQ.f (a0:Int):Option (Int × Int):=if a0=1 then (some (0,7)) else (if a0=2 then (some (0,3)) else (if a0=4 then (some (0,4294967295)) else (if a0=6 then (some ((-32768),32767)) else (some ((-128),127)))))
set_option maxHeartbeats 8000000 in
set_option maxRecDepth 100000 in
theorem CQ.calls (a0:Int) (r1:Int) (r2:Int) (w:World) (h:CQ.f a0=some (r1,r2)) :
  Calls Try.prog 91 #[.int .i64 a0] w fun e w'=>e=.returned (.tuple #[.int .i64 r1,.int .i64 r2])∧gQ w w':=by
 have H:(if a0=1 then (some (0,7)) else (if a0=2 then (some (0,3)) else (if a0=4 then (some (0,4294967295)) else (if a0=6 then (some ((-32768),32767)) else (some ((-128),127))))))=some (r1,r2):=h
 clear h
 by_cases c2:a0=1
 ·rw [if_pos c2] at H
  have aAy:(a0==1)=true:=beq_iff_eq.mpr c2
  have aIL:(a0 != 1)=false:=bne_eq_false_iff_eq.mpr c2
  clear c2
  simp only [Option.some.injEq,Prod.mk.injEq] at H
  obtain ⟨rfl,rfl⟩:=H
  go_enter Try.func91,Try.ntmps91
  go_wp2
  go_ret2
  exact ⟨by first|rfl|(simp;done)|(simp [*];done),by repeat (first|exact gQ.refl _|apply gQ.step)⟩
 ·rw [if_neg c2] at H
  have aAy:(a0==1)=false:=beq_eq_false_iff_ne.mpr c2
  have aIL:(a0 != 1)=true:=bne_iff_ne.mpr c2
  by_cases c3:a0=2
  ·rw [if_pos c3] at H;have LC:(a0==2)=true:=beq_iff_eq.mpr c3;have Xy:(a0 != 2)=false:=bne_eq_false_iff_eq.mpr c3;clear c3;simp only [Option.some.injEq,Prod.mk.injEq] at H;obtain ⟨rfl,rfl⟩:=H
   go_enter Try.func91,Try.ntmps91
   go_wp2
   go_ret2
   exact ⟨by first|rfl|(simp;done)|(simp [*];done),by repeat (first|exact gQ.refl _|apply gQ.step)⟩
  ·rw [if_neg c3] at H;have LC:(a0==2)=false:=beq_eq_false_iff_ne.mpr c3;have Xy:(a0 != 2)=true:=bne_iff_ne.mpr c3
   by_cases c4:a0=4
   ·rw [if_pos c4] at H;have Jz:(a0==4)=true:=beq_iff_eq.mpr c4;have aDs:(a0 != 4)=false:=bne_eq_false_iff_eq.mpr c4;clear c4;simp only [Option.some.injEq,Prod.mk.injEq] at H;obtain ⟨rfl,rfl⟩:=H
    go_enter Try.func91,Try.ntmps91
    go_wp2
    go_ret2
    exact ⟨by first|rfl|(simp;done)|(simp [*];done),by repeat (first|exact gQ.refl _|apply gQ.step)⟩
   ·rw [if_neg c4] at H;have Jz:(a0==4)=false:=beq_eq_false_iff_ne.mpr c4;have aDs:(a0 != 4)=true:=bne_iff_ne.mpr c4
    by_cases c5:a0=6
    ·rw [if_pos c5] at H;have Xz:(a0==6)=true:=beq_iff_eq.mpr c5;have aIM:(a0 != 6)=false:=bne_eq_false_iff_eq.mpr c5;clear c5;simp only [Option.some.injEq,Prod.mk.injEq] at H;obtain ⟨rfl,rfl⟩:=H
     go_enter Try.func91,Try.ntmps91
     go_wp2
     go_ret2
     exact ⟨by first|rfl|(simp;done)|(simp [*];done),by repeat (first|exact gQ.refl _|apply gQ.step)⟩
    ·rw [if_neg c5] at H;have Xz:(a0==6)=false:=beq_eq_false_iff_ne.mpr c5;have aIM:(a0 != 6)=true:=bne_iff_ne.mpr c5;simp only [Option.some.injEq,Prod.mk.injEq] at H;obtain ⟨rfl,rfl⟩:=H
     go_enter Try.func91,Try.ntmps91
     go_wp2
     go_ret2
     exact ⟨by first|rfl|(simp;done)|(simp [*];done),by repeat (first|exact gQ.refl _|apply gQ.step)⟩
def mG.f (a0:Int) (a1:Int):Option (Bool):=(CQ.f a0).bind fun aBJ=>(if a1≥aBJ.1 then (some (decide (a1≤aBJ.2))) else (some false))
set_option maxHeartbeats 8000000 in
set_option maxRecDepth 100000 in
theorem mG.calls (a0:Int) (a1:Int) (r:Bool) (w:World) (h:mG.f a0 a1=some r) :
  Calls Try.prog 80 #[.int .i64 a0,.int .i64 a1] w fun e w'=>e=.returned (.bool r)∧gQ w w':=by
 have H:((CQ.f a0).bind fun aBJ=>(if a1≥aBJ.1 then (some (decide (a1≤aBJ.2))) else (some false)))=some r:=h
 clear h
 replace H:=Option.bind_eq_some_iff.mp H
 obtain ⟨⟨aHo,aQL⟩,Wi,H⟩:=H
 replace H:(if a1≥aHo then (some (decide (a1≤aQL))) else (some false))=some r:=H
 have A3:=aA.mk Wi
 clear Wi
 by_cases c4:a1≥aHo
 ·rw [if_pos c4] at H
  have Jz:decide (aHo≤a1)=true:=fB c4
  clear c4
  obtain rfl:=Option.some.inj H
  go_enter Try.func80,Try.ntmps80
  go_wp2_with (first|((with_reducible refine cO (f:=91) rfl ?_);refine gI (some 9) rfl rfl Try.func91 aQ rfl #[.int .i64 a0] rfl fP ?_;(with_reducible refine (CQ.calls a0 aHo aQL _ A3.out).mono ?_);rintro e w' ⟨rfl,⟨nd,rfl⟩⟩;refine ⟨_,rfl,?_⟩))
  go_ret
  exact ⟨by first|rfl|(simp;done)|(simp [*];done),by repeat (first|exact gQ.refl _|apply gQ.step)⟩
 ·rw [if_neg c4] at H
  have Jz:decide (aHo≤a1)=false:=kT c4
  clear c4
  obtain rfl:=Option.some.inj H
  go_enter Try.func80,Try.ntmps80
  go_wp2_with (first|((with_reducible refine cO (f:=91) rfl ?_);refine gI (some 9) rfl rfl Try.func91 aQ rfl #[.int .i64 a0] rfl fP ?_;(with_reducible refine (CQ.calls a0 aHo aQL _ A3.out).mono ?_);rintro e w' ⟨rfl,⟨nd,rfl⟩⟩;refine ⟨_,rfl,?_⟩))
  go_ret
  exact ⟨by first|rfl|(simp;done)|(simp [*];done),by repeat (first|exact gQ.refl _|apply gQ.step)⟩
mutual
def jE.j0:Nat→List (nJ)→Bool→Int→List Int→Option (Int × Int)
 | 0,_,_,_,_=>none
 | k+1,x0,x7,JE,OH=>if x7=true then (some (3,(-2))) else (if 0≤JE then (if JE<(x0.length:Int) then (if (OH.length:Int)=(((aI x0 JE).f2).length:Int) then (jE.l0 k ((aI x0 JE).f2) (((aI x0 JE).f2).length:Int) 0 JE OH) else (some (9,(-3)))) else (none)) else (none))
def jE.l0:Nat→List Int→Int→Int→Int→List Int→Option (Int × Int)
 | 0,_,_,_,_,_=>none
 | k+1,x37,x38,x39,JE,OH=>if x39<x38 then (if 0≤x39 then (if x39<(x37.length:Int) then (if x39<(OH.length:Int) then ((mG.f (rd x37 x39) (rd OH x39)).bind fun BB=>(if BB=true then (jE.l0 k x37 x38 (wrap64 (x39+1)) JE OH) else (some (3,x39)))) else (none)) else (none)) else (none)) else (some (0,0))
end
def jE.f (k:Nat) (l0:List (nJ)) (bY:Int) (dR:List Int):Option (Int × Int):=if bY<0 then (jE.j0 k l0 true bY dR) else (jE.j0 k l0 (decide (bY≥(l0.length:Int))) bY dR)
set_option maxHeartbeats 8000000 in
set_option maxRecDepth 100000 in
theorem jE.calls (k:Nat) (A0:Option Addr) (c0:Nat) (l0:List (nJ)) (bY:Int) (iE:Option Addr) (gZ:Nat) (dR:List Int) (r1:Int) (r2:Int) (w:World) (hr0:Kd.C Nv w A0 l0.length l0) (hc0:l0.length≤c0) (Dq:Kd.C (Kd.int .i64) w iE dR.length dR) (Dt:dR.length≤gZ) (h:jE.f k l0 bY dR=some (r1,r2)) :
  Calls Try.prog 77 #[.slice A0 l0.length c0,.agg #[.int .i64 bY,.slice iE dR.length gZ]] w fun e w'=>e=.returned (.agg #[.int .i64 r1,.int .i64 r2])∧Below w.heap.size w w':=by
 have Kz:=Try.underlying65
 have NL:=Try.underlying27
 have HR0:=aA.mk hr0
 have Am:=aA.mk hc0
 clear hr0 hc0
 have AZ:=aA.mk Dq
 have Hg:=aA.mk Dt
 clear Dq Dt
 have HB:=aA.mk (Below.refl w.heap.size w)
 have H:(if bY<0 then (jE.j0 k l0 true bY dR) else (jE.j0 k l0 (decide (bY≥(l0.length:Int))) bY dR))=some (r1,r2):=h
 clear h
 have HC3:=aA.mk H
 clear H
 go_enter Try.func77,Try.ntmps77
 go_upto_region 1 with (first|((with_reducible refine dH (N:=3) rfl ?_);(try (refine dZ (by rfl) ?_;dsimp only));refine dB ?hg (N:=3) ?hd (cs:=#[.int .i64 bY,.slice iE dR.length gZ]) (t:=65) ?hr ?_;(case hd=>rfl);(case hg=>rfl);(case hr=>first|(go_simp;done)|(go_simp;rfl));intro vI hg w4 hbox hb;have bT:=aA.mk (aT (dG HB.out) hb);have bW:=aA.mk (hbox);have dA:=aA.mk ((by rw [hg];exact (aN (dG HB.out)):w.heap.size≤vI));have dN:=aA.mk ((by rw [hg];exact (aN (dG HB.out)):w.heap.size≤vI));clear HB;have HB:=bT;have qX:=bW;have aOC:=dA;have ER:=dN;clear bT bW dA dN;clear hb hbox hg)|((with_reducible refine dH (N:=4) rfl ?_);(try (refine dZ (by rfl) ?_;dsimp only));refine dB ?hg (N:=4) ?hd (cs:=#[.int .i64 0,.int .i64 0]) (t:=27) ?hr ?_;(case hd=>rfl);(case hg=>rfl);(case hr=>first|(go_simp;done)|(go_simp;rfl));intro yB hg w5 hbox hb;have bT:=aA.mk (aK (g:=vI) (o:=.cells #[.int .i64 bY,.slice iE dR.length gZ] 65 (0,0)) (aH qX.out) hb);have bW:=aA.mk (aT (bV HB.out ER.out) hb);have dA:=aA.mk (hbox);have dN:=aA.mk ((by rw [hg];exact (aN (bV HB.out ER.out)):w.heap.size≤yB));have eY:=aA.mk ((by rw [hg];exact (aN (bV HB.out ER.out)):w.heap.size≤yB));have fV:=aA.mk ((by rw [hg];exact Nat.ne_of_lt (bU (g:=vI) (o:=.cells #[.int .i64 bY,.slice iE dR.length gZ] 65 (0,0)) (aH qX.out)):vI≠yB));have jA:=aA.mk ((by rw [hg];exact Nat.ne_of_gt (bU (g:=vI) (o:=.cells #[.int .i64 bY,.slice iE dR.length gZ] 65 (0,0)) (aH qX.out)):yB≠vI));clear qX HB;have qX:=bT;have HB:=bW;have wC:=dA;have aOD:=dN;have Qj:=eY;have Bi:=fV;have Bj:=jA;clear bT bW dA dN eY fV jA;clear hb hbox hg))
 repeat (go_quiet (first|((with_reducible refine dH (N:=3) rfl ?_);(try (refine dZ (by rfl) ?_;dsimp only));refine dB ?hg (N:=3) ?hd (cs:=#[.int .i64 bY,.slice iE dR.length gZ]) (t:=65) ?hr ?_;(case hd=>rfl);(case hg=>rfl);(case hr=>first|(go_simp;done)|(go_simp;rfl));intro vI hg w4 hbox hb;have bT:=aA.mk (aT (dG HB.out) hb);have bW:=aA.mk (hbox);have dA:=aA.mk ((by rw [hg];exact (aN (dG HB.out)):w.heap.size≤vI));have dN:=aA.mk ((by rw [hg];exact (aN (dG HB.out)):w.heap.size≤vI));clear HB;have HB:=bT;have qX:=bW;have aOC:=dA;have ER:=dN;clear bT bW dA dN;clear hb hbox hg)|((with_reducible refine dH (N:=4) rfl ?_);(try (refine dZ (by rfl) ?_;dsimp only));refine dB ?hg (N:=4) ?hd (cs:=#[.int .i64 0,.int .i64 0]) (t:=27) ?hr ?_;(case hd=>rfl);(case hg=>rfl);(case hr=>first|(go_simp;done)|(go_simp;rfl));intro yB hg w5 hbox hb;have bT:=aA.mk (aK (g:=vI) (o:=.cells #[.int .i64 bY,.slice iE dR.length gZ] 65 (0,0)) (aH qX.out) hb);have bW:=aA.mk (aT (bV HB.out ER.out) hb);have dA:=aA.mk (hbox);have dN:=aA.mk ((by rw [hg];exact (aN (bV HB.out ER.out)):w.heap.size≤yB));have eY:=aA.mk ((by rw [hg];exact (aN (bV HB.out ER.out)):w.heap.size≤yB));have fV:=aA.mk ((by rw [hg];exact Nat.ne_of_lt (bU (g:=vI) (o:=.cells #[.int .i64 bY,.slice iE dR.length gZ] 65 (0,0)) (aH qX.out)):vI≠yB));have jA:=aA.mk ((by rw [hg];exact Nat.ne_of_gt (bU (g:=vI) (o:=.cells #[.int .i64 bY,.slice iE dR.length gZ] 65 (0,0)) (aH qX.out)):yB≠vI));clear qX HB;have qX:=bT;have HB:=bW;have wC:=dA;have aOD:=dN;have Qj:=eY;have Bi:=fV;have Bj:=jA;clear bT bW dA dN eY fV jA;clear hb hbox hg));go_upto_region 1 with (first|((with_reducible refine dH (N:=3) rfl ?_);(try (refine dZ (by rfl) ?_;dsimp only));refine dB ?hg (N:=3) ?hd (cs:=#[.int .i64 bY,.slice iE dR.length gZ]) (t:=65) ?hr ?_;(case hd=>rfl);(case hg=>rfl);(case hr=>first|(go_simp;done)|(go_simp;rfl));intro vI hg w4 hbox hb;have bT:=aA.mk (aT (dG HB.out) hb);have bW:=aA.mk (hbox);have dA:=aA.mk ((by rw [hg];exact (aN (dG HB.out)):w.heap.size≤vI));have dN:=aA.mk ((by rw [hg];exact (aN (dG HB.out)):w.heap.size≤vI));clear HB;have HB:=bT;have qX:=bW;have aOC:=dA;have ER:=dN;clear bT bW dA dN;clear hb hbox hg)|((with_reducible refine dH (N:=4) rfl ?_);(try (refine dZ (by rfl) ?_;dsimp only));refine dB ?hg (N:=4) ?hd (cs:=#[.int .i64 0,.int .i64 0]) (t:=27) ?hr ?_;(case hd=>rfl);(case hg=>rfl);(case hr=>first|(go_simp;done)|(go_simp;rfl));intro yB hg w5 hbox hb;have bT:=aA.mk (aK (g:=vI) (o:=.cells #[.int .i64 bY,.slice iE dR.length gZ] 65 (0,0)) (aH qX.out) hb);have bW:=aA.mk (aT (bV HB.out ER.out) hb);have dA:=aA.mk (hbox);have dN:=aA.mk ((by rw [hg];exact (aN (bV HB.out ER.out)):w.heap.size≤yB));have eY:=aA.mk ((by rw [hg];exact (aN (bV HB.out ER.out)):w.heap.size≤yB));have fV:=aA.mk ((by rw [hg];exact Nat.ne_of_lt (bU (g:=vI) (o:=.cells #[.int .i64 bY,.slice iE dR.length gZ] 65 (0,0)) (aH qX.out)):vI≠yB));have jA:=aA.mk ((by rw [hg];exact Nat.ne_of_gt (bU (g:=vI) (o:=.cells #[.int .i64 bY,.slice iE dR.length gZ] 65 (0,0)) (aH qX.out)):yB≠vI));clear qX HB;have qX:=bT;have HB:=bW;have wC:=dA;have aOD:=dN;have Qj:=eY;have Bi:=fV;have Bj:=jA;clear bT bW dA dN eY fV jA;clear hb hbox hg)))
 (try simp only [Act.put,JF,Gf,Jh])
 go_cut [7] (fun v7 wc=>∃ (kq:Nat) (aLU:Bool),v7=.bool aLU∧aA (jE.j0 kq l0 aLU bY dR=some (r1,r2))∧aA (kq≤k)∧aA (wc.heap[vI]?=some (.cells #[.int .i64 bY,(.slice iE dR.length gZ)] 65 (0,0)))∧aA (wc.heap[yB]?=some (.cells #[.int .i64 0,.int .i64 0] 27 (0,0)))∧aA (Below w.heap.size w wc))
 case first =>
  have H:=HC3.out
  clear HC3
  by_cases c6:bY<0
  ·rw [if_pos c6] at H;have Qw:decide (bY<0)=true:=fB c6;clear c6
   (first|rw [Qw]|(simp only [nX,tY];rw [Qw])|skip)
   have H':=aA.mk H;clear H;have aUw:=Bi.out;have aUx:=Bj.out;have aDt:w5.cell? ⟨vI,0,none⟩=some (.int .i64 bY):=(aC qX.out 0).trans rfl;have aDu:w5.cell? ⟨vI,1,none⟩=some (.slice iE dR.length gZ):=(aC qX.out 1).trans rfl;have aDv:=aG qX.out 0;have aDw:=aG qX.out 1
   go_wp2
   repeat (go_quiet (fail);try go_wp2)
   go_meet
   case rel=>exact ⟨_,(true),gV,H',⟨by first|omega|exact Nat.le_refl _⟩,⟨by refine aH ?_;exact qX.out⟩,⟨by refine aH ?_;exact wC.out⟩,⟨dK HB.out ER.out Qj.out⟩⟩
  ·rw [if_neg c6] at H;have Qw:decide (bY<0)=false:=kT c6;clear c6
   (first|rw [Qw]|(simp only [nX,tY];rw [Qw])|skip)
   have H':=aA.mk H;clear H;have bEy:=Bi.out;have bEz:=Bj.out;have aEU:w5.cell? ⟨vI,0,none⟩=some (.int .i64 bY):=(aC qX.out 0).trans rfl;have aEV:w5.cell? ⟨vI,1,none⟩=some (.slice iE dR.length gZ):=(aC qX.out 1).trans rfl;have aEW:=aG qX.out 0;have aEX:=aG qX.out 1
   go_wp2
   repeat (go_quiet (fail);try go_wp2)
   go_meet
   case rel=>exact ⟨_,(decide (bY≥(l0.length:Int))),gV,H',⟨by first|omega|exact Nat.le_refl _⟩,⟨by refine aH ?_;exact qX.out⟩,⟨by refine aH ?_;exact wC.out⟩,⟨dK HB.out ER.out Qj.out⟩⟩
 case rest =>
  clear HC3
  obtain ⟨kq,aLU,rfl,HA,HJ2,qX,wC,HB⟩:=hcut
  cases kq with
  | zero=>exact absurd HA.out (by simp [jE.j0])
  | succ kj2 =>
   have H:=HA.out;clear HA;simp only [jE.j0] at H
   by_cases c11:aLU=true
   ·subst c11;have H1:(some (3,(-2)))=some (r1,r2):=by rw [if_pos rfl] at H;exact H
    clear H;have H:=H1;clear H1;simp only [Option.some.injEq,Prod.mk.injEq] at H;obtain ⟨rfl,rfl⟩:=H;have XA:=Bj.out;have XB:=Bi.out;have JG:wc.cell? ⟨yB,0,none⟩=some (.int .i64 0):=(aC wC.out 0).trans rfl;have JH:wc.cell? ⟨yB,1,none⟩=some (.int .i64 0):=(aC wC.out 1).trans rfl;have JI:=aG wC.out 0;have JJ:=aG wC.out 1
    go_wp2
    repeat (go_quiet (fail);try go_wp2)
    refine bodyPost_ret (results_cell_row rfl _ _ yB 27 #[.int .i64 3,.int .i64 (-2)] (0,0) _ rfl (by refine aH ?_;refine aY (cs:=#[.int .i64 3,.int .i64 0]) ?_ 1 _ rfl;refine aH ?_;refine aY (cs:=#[.int .i64 0,.int .i64 0]) ?_ 0 _ rfl;refine aH ?_;exact wC.out) Try.underlying27 rfl aQ) rfl ?_;exact ⟨by first|rfl|(simp [bK,bM] <;> rfl)|(simp [*,bK,bM] <;> rfl),dK HB.out ER.out Qj.out⟩
   ·replace c11:=Bool.eq_false_iff.mpr c11;subst c11;have H1:(if 0≤bY then (if bY<(l0.length:Int) then (if (dR.length:Int)=(((aI l0 bY).f2).length:Int) then (jE.l0 kj2 ((aI l0 bY).f2) (((aI l0 bY).f2).length:Int) 0 bY dR) else (some (9,(-3)))) else (none)) else (none))=some (r1,r2):=by rw [if_neg (show ¬ (false=true) by decide)] at H;exact H
    clear H;have H:=H1;clear H1
    by_cases c14:0≤bY
    ·rw [if_pos c14] at H;have QN:decide (0≤bY)=true:=fB c14;clear c14
     by_cases c15:bY<(l0.length:Int)
     ·rw [if_pos c15] at H;have aEY:decide (bY<(l0.length:Int))=true:=fB c15;clear c15
      by_cases c16:(dR.length:Int)=(((aI l0 bY).f2).length:Int)
      ·rw [if_pos c16] at H;have NM:((dR.length:Int)==(((aI l0 bY).f2).length:Int))=true:=beq_iff_eq.mpr c16;have aIN:((dR.length:Int) != (((aI l0 bY).f2).length:Int))=false:=bne_eq_false_iff_eq.mpr c16;have aUy:(dR.length==((aI l0 bY).f2).length)=true:=by first|simpa using c16|(simp at c16 ⊢;omega)
       clear c16;have H':=aA.mk H;clear H;have aBK:=Bi.out;have aBL:=Bj.out;have Wj:wc.cell? ⟨vI,0,none⟩=some (.int .i64 bY):=(aC qX.out 0).trans rfl;have Wl:wc.cell? ⟨vI,1,none⟩=some (.slice iE dR.length gZ):=(aC qX.out 1).trans rfl;have Wn:=aG qX.out 0;have Wp:=aG qX.out 1;have aDx:0≤(bY:Int):=dU dW;have aDy:bY<(l0.length:Int):=dU dW;obtain ⟨aOE,aQM,aQN,aQO,LD,LG,JK,QO,QS⟩:=rJ HR0.out bY aDx aDy
       cases aQO
       replace LD:=(HB.out.cell (dM w _ LD)).trans LD;replace LG:=(HB.out.cell (dM w _ LG)).trans LG;replace JK:=(HB.out.cell (dM w _ JK)).trans JK;have aLV:=aA.mk QS;have aLW:=aA.mk QO;clear QS QO;replace aDx:=eq_true aDx;replace aDy:=eq_true aDy;have aQP:0≤(bY:Int):=dU dW;have aQQ:bY<(l0.length:Int):=dU dW;obtain ⟨aUz,bEA,bEB,bEC,aAz,aAA,Wq,aEZ,aE0⟩:=rJ HR0.out bY aQP aQQ;obtain rfl:aOE=aUz:=(by injection bEC);replace aAz:=(HB.out.cell (dM w _ aAz)).trans aAz;replace aAA:=(HB.out.cell (dM w _ aAA)).trans aAA;replace Wq:=(HB.out.cell (dM w _ Wq)).trans Wq;have aE1:=aA.mk aE0;have bAM:=aA.mk aEZ;clear aE0 aEZ;replace aQP:=eq_true aQP;replace aQQ:=eq_true aQQ;have KA:=Option.some.inj (JK.symm.trans Wq);injection KA with KA en_ ec_
       subst KA;subst ec_;clear en_
       go_wp2
       repeat (go_quiet (fail);try go_wp2)
       go_loopg [39] kj2 (fun kq v39 w'=>∃ (sZ:Int) (CS:Int) (zY:Int),v39=.int .i64 sZ∧aA (jE.l0 kq ((aI l0 bY).f2) (((aI l0 bY).f2).length:Int) sZ bY dR=some (r1,r2))∧aA (kq≤kj2)∧aA (w'.heap[vI]?=some (.cells #[.int .i64 bY,(.slice iE dR.length gZ)] 65 (0,0)))∧aA (w'.heap[yB]?=some (.cells #[.int .i64 CS,.int .i64 zY] 27 (0,0)))∧aA (Below w.heap.size w w'))
       case atStart=>exact ⟨(0),(0),(0),gV,H',⟨Nat.le_refl _⟩,⟨by refine aH ?_;exact qX.out⟩,⟨by refine aH ?_;exact wC.out⟩,⟨dK HB.out ER.out Qj.out⟩⟩
       case round =>
        clear H';obtain ⟨sZ,CS,zY,rfl,HA,Ws,qX,wC,HB⟩:=hrel
        cases gk with
        | zero=>exact absurd HA.out (by simp [jE.l0])
        | succ k2 =>
         have H:=HA.out;clear HA;simp only [jE.l0] at H
         by_cases c19:sZ<(((aI l0 bY).f2).length:Int)
         ·rw [if_pos c19] at H;have KC:decide (sZ<(((aI l0 bY).f2).length:Int))=true:=fB c19;clear c19
          by_cases c20:0≤sZ
          ·rw [if_pos c20] at H;have QT:decide (0≤sZ)=true:=fB c20;clear c20
           by_cases c21:sZ<(((aI l0 bY).f2).length:Int)
           ·rw [if_pos c21] at H;have aE2:decide (sZ<(((aI l0 bY).f2).length:Int))=true:=fB c21;clear c21
            by_cases Ze:sZ<(dR.length:Int)
            ·rw [if_pos Ze] at H;have aIO:decide (sZ<(dR.length:Int))=true:=fB Ze;clear Ze;replace H:=Option.bind_eq_some_iff.mp H;obtain ⟨BB,aIP,H⟩:=H;replace H:(if BB=true then (jE.l0 k2 ((aI l0 bY).f2) (((aI l0 bY).f2).length:Int) (wrap64 (sZ+1)) bY dR) else (some (3,sZ)))=some (r1,r2):=H;have A23:=aA.mk aIP;clear aIP
             by_cases c24:BB=true
             ·subst c24;have H1:(jE.l0 k2 ((aI l0 bY).f2) (((aI l0 bY).f2).length:Int) (wrap64 (sZ+1)) bY dR)=some (r1,r2):=by rw [if_pos rfl] at H;exact H
              clear H;have H:=H1;clear H1;have H':=aA.mk H;clear H;have aDz:0≤(sZ:Int):=dU dW;have aDA:sZ<(((aI l0 bY).f2).length:Int):=dU dW;obtain ⟨aUA,aQR,LH⟩:=Kd.jJ aE1.out sZ aDz aDA
              cases aQR
              replace LH:=(HB.out.cell (dM w _ LH)).trans LH;replace aDz:=eq_true aDz;replace aDA:=eq_true aDA;have aE3:=Bi.out;have aE4:=Bj.out;have LJ:wr.cell? ⟨vI,0,none⟩=some (.int .i64 bY):=(aC qX.out 0).trans rfl;have LK:wr.cell? ⟨vI,1,none⟩=some (.slice iE dR.length gZ):=(aC qX.out 1).trans rfl;have LM:=aG qX.out 0;have LP:=aG qX.out 1;have aDB:0≤(sZ:Int):=dU dW;have aDC:sZ<(dR.length:Int):=dU dW;obtain ⟨aUB,aQS,LQ⟩:=Kd.jJ AZ.out sZ aDB aDC
              cases aQS
              replace LQ:=(HB.out.cell (dM w _ LQ)).trans LQ;replace aDB:=eq_true aDB;replace aDC:=eq_true aDC
              go_wp2_with (first|(go_at_call 80;(with_reducible refine (mG.calls (rd ((aI l0 bY).f2) sZ) (rd dR sZ) true _ A23.out).mono ?_);rintro e w' ⟨rfl,⟨nd,rfl⟩⟩;(try first|exact ⟨rfl,_,oQ _ _ _⟩|exact ⟨rfl,_,Eq.trans (oQ _ _ _) (congrArg (World.drewN _) (Nat.add_assoc _ _ _))⟩)))
              repeat (go_quiet (first|(go_at_call 80;(with_reducible refine (mG.calls (rd ((aI l0 bY).f2) sZ) (rd dR sZ) true _ A23.out).mono ?_);rintro e w' ⟨rfl,⟨nd,rfl⟩⟩;(try first|exact ⟨rfl,_,oQ _ _ _⟩|exact ⟨rfl,_,Eq.trans (oQ _ _ _) (congrArg (World.drewN _) (Nat.add_assoc _ _ _))⟩)));try go_wp2_with (first|(go_at_call 80;(with_reducible refine (mG.calls (rd ((aI l0 bY).f2) sZ) (rd dR sZ) true _ A23.out).mono ?_);rintro e w' ⟨rfl,⟨nd,rfl⟩⟩;(try first|exact ⟨rfl,_,oQ _ _ _⟩|exact ⟨rfl,_,Eq.trans (oQ _ _ _) (congrArg (World.drewN _) (Nat.add_assoc _ _ _))⟩))))
              go_roundg k2
              case measure=>have:=HJ2.out;have:=Ws.out;omega
              case rel=>exact ⟨(wrap64 (sZ+1)),(CS),(zY),gV,H',⟨by have:=HJ2.out;have:=Ws.out;omega⟩,⟨by refine aH ?_;exact qX.out⟩,⟨by refine aH ?_;exact wC.out⟩,⟨dK HB.out ER.out Qj.out⟩⟩
             ·replace c24:=Bool.eq_false_iff.mpr c24;subst c24;have H1:(some (3,sZ))=some (r1,r2):=by rw [if_neg (show ¬ (false=true) by decide)] at H;exact H
              clear H;have H:=H1;clear H1;simp only [Option.some.injEq,Prod.mk.injEq] at H;obtain ⟨rfl,rfl⟩:=H;have aDz:0≤(sZ:Int):=dU dW;have aDA:sZ<(((aI l0 bY).f2).length:Int):=dU dW;obtain ⟨aUA,aQR,LH⟩:=Kd.jJ aE1.out sZ aDz aDA
              cases aQR
              replace LH:=(HB.out.cell (dM w _ LH)).trans LH;replace aDz:=eq_true aDz;replace aDA:=eq_true aDA;have aBM:=Bi.out;have aBN:=Bj.out;have Wu:wr.cell? ⟨vI,0,none⟩=some (.int .i64 bY):=(aC qX.out 0).trans rfl;have Wv:wr.cell? ⟨vI,1,none⟩=some (.slice iE dR.length gZ):=(aC qX.out 1).trans rfl;have Wx:=aG qX.out 0;have Wy:=aG qX.out 1;have aDB:0≤(sZ:Int):=dU dW;have aDC:sZ<(dR.length:Int):=dU dW;obtain ⟨aUB,aQS,LQ⟩:=Kd.jJ AZ.out sZ aDB aDC
              cases aQS
              replace LQ:=(HB.out.cell (dM w _ LQ)).trans LQ;replace aDB:=eq_true aDB;replace aDC:=eq_true aDC
              go_wp2_with (first|(go_at_call 80;(with_reducible refine (mG.calls (rd ((aI l0 bY).f2) sZ) (rd dR sZ) false _ A23.out).mono ?_);rintro e w' ⟨rfl,⟨nd,rfl⟩⟩;(try first|exact ⟨rfl,_,oQ _ _ _⟩|exact ⟨rfl,_,Eq.trans (oQ _ _ _) (congrArg (World.drewN _) (Nat.add_assoc _ _ _))⟩);have OI:wr.cell? ⟨yB,0,none⟩=some (.int .i64 CS):=(aC wC.out 0).trans rfl;have OJ:wr.cell? ⟨yB,1,none⟩=some (.int .i64 zY):=(aC wC.out 1).trans rfl;have OL:=aG wC.out 0;have OM:=aG wC.out 1))
              repeat (go_quiet (first|(go_at_call 80;(with_reducible refine (mG.calls (rd ((aI l0 bY).f2) sZ) (rd dR sZ) false _ A23.out).mono ?_);rintro e w' ⟨rfl,⟨nd,rfl⟩⟩;(try first|exact ⟨rfl,_,oQ _ _ _⟩|exact ⟨rfl,_,Eq.trans (oQ _ _ _) (congrArg (World.drewN _) (Nat.add_assoc _ _ _))⟩);have OI:wr.cell? ⟨yB,0,none⟩=some (.int .i64 CS):=(aC wC.out 0).trans rfl;have OJ:wr.cell? ⟨yB,1,none⟩=some (.int .i64 zY):=(aC wC.out 1).trans rfl;have OL:=aG wC.out 0;have OM:=aG wC.out 1));try go_wp2_with (first|(go_at_call 80;(with_reducible refine (mG.calls (rd ((aI l0 bY).f2) sZ) (rd dR sZ) false _ A23.out).mono ?_);rintro e w' ⟨rfl,⟨nd,rfl⟩⟩;(try first|exact ⟨rfl,_,oQ _ _ _⟩|exact ⟨rfl,_,Eq.trans (oQ _ _ _) (congrArg (World.drewN _) (Nat.add_assoc _ _ _))⟩);have OI:wr.cell? ⟨yB,0,none⟩=some (.int .i64 CS):=(aC wC.out 0).trans rfl;have OJ:wr.cell? ⟨yB,1,none⟩=some (.int .i64 zY):=(aC wC.out 1).trans rfl;have OL:=aG wC.out 0;have OM:=aG wC.out 1)))
              refine bodyPost_ret (results_cell_row rfl _ _ yB 27 #[.int .i64 3,.int .i64 sZ] (0,0) _ rfl (by refine aH ?_;refine aY (cs:=#[.int .i64 3,.int .i64 zY]) ?_ 1 _ rfl;refine aH ?_;refine aY (cs:=#[.int .i64 CS,.int .i64 zY]) ?_ 0 _ rfl;refine aH ?_;exact wC.out) Try.underlying27 rfl aQ) rfl ?_;exact ⟨by first|rfl|(simp [bK,bM] <;> rfl)|(simp [*,bK,bM] <;> rfl),dK HB.out ER.out Qj.out⟩
            ·rw [if_neg Ze] at H;exact absurd H (by simp)
           ·rw [if_neg c21] at H;exact absurd H (by simp)
          ·rw [if_neg c20] at H;exact absurd H (by simp)
         ·rw [if_neg c19] at H;have KC:decide (sZ<(((aI l0 bY).f2).length:Int))=false:=kT c19;clear c19;simp only [Option.some.injEq,Prod.mk.injEq] at H;obtain ⟨rfl,rfl⟩:=H;have aIQ:=Bj.out;have aIR:=Bi.out;have QU:wr.cell? ⟨yB,0,none⟩=some (.int .i64 CS):=(aC wC.out 0).trans rfl;have QV:wr.cell? ⟨yB,1,none⟩=some (.int .i64 zY):=(aC wC.out 1).trans rfl;have QW:=aG wC.out 0;have QX:=aG wC.out 1
          go_wp2
          repeat (go_quiet (fail);try go_wp2)
          refine bodyPost_ret (results_cell_row rfl _ _ yB 27 #[.int .i64 0,.int .i64 0] (0,0) _ rfl (by refine aH ?_;refine aY (cs:=#[.int .i64 0,.int .i64 zY]) ?_ 1 _ rfl;refine aH ?_;refine aY (cs:=#[.int .i64 CS,.int .i64 zY]) ?_ 0 _ rfl;refine aH ?_;exact wC.out) Try.underlying27 rfl aQ) rfl ?_;exact ⟨by first|rfl|(simp [bK,bM] <;> rfl)|(simp [*,bK,bM] <;> rfl),dK HB.out ER.out Qj.out⟩
      ·rw [if_neg c16] at H;have NM:((dR.length:Int)==(((aI l0 bY).f2).length:Int))=false:=beq_eq_false_iff_ne.mpr c16;have aIN:((dR.length:Int) != (((aI l0 bY).f2).length:Int))=true:=bne_iff_ne.mpr c16;have aUy:(dR.length==((aI l0 bY).f2).length)=false:=by first|simpa using c16|(simp at c16 ⊢;omega)
       simp only [Option.some.injEq,Prod.mk.injEq] at H;obtain ⟨rfl,rfl⟩:=H;have aE5:=Bi.out;have aE6:=Bj.out;have WA:wc.cell? ⟨vI,0,none⟩=some (.int .i64 bY):=(aC qX.out 0).trans rfl;have WB:wc.cell? ⟨vI,1,none⟩=some (.slice iE dR.length gZ):=(aC qX.out 1).trans rfl;have WC:=aG qX.out 0;have WE:=aG qX.out 1;have aDx:0≤(bY:Int):=dU dW;have aDy:bY<(l0.length:Int):=dU dW;obtain ⟨aOE,aQM,aQN,aQO,LD,LG,JK,QO,QS⟩:=rJ HR0.out bY aDx aDy
       cases aQO
       replace LD:=(HB.out.cell (dM w _ LD)).trans LD;replace LG:=(HB.out.cell (dM w _ LG)).trans LG;replace JK:=(HB.out.cell (dM w _ JK)).trans JK;have aLV:=aA.mk QS;have aLW:=aA.mk QO;clear QS QO;replace aDx:=eq_true aDx;replace aDy:=eq_true aDy;have OO:wc.cell? ⟨yB,0,none⟩=some (.int .i64 0):=(aC wC.out 0).trans rfl;have OQ:wc.cell? ⟨yB,1,none⟩=some (.int .i64 0):=(aC wC.out 1).trans rfl;have OT:=aG wC.out 0;have OU:=aG wC.out 1
       go_wp2
       repeat (go_quiet (fail);try go_wp2)
       refine bodyPost_ret (results_cell_row rfl _ _ yB 27 #[.int .i64 9,.int .i64 (-3)] (0,0) _ rfl (by refine aH ?_;refine aY (cs:=#[.int .i64 9,.int .i64 0]) ?_ 1 _ rfl;refine aH ?_;refine aY (cs:=#[.int .i64 0,.int .i64 0]) ?_ 0 _ rfl;refine aH ?_;exact wC.out) Try.underlying27 rfl aQ) rfl ?_;exact ⟨by first|rfl|(simp [bK,bM] <;> rfl)|(simp [*,bK,bM] <;> rfl),dK HB.out ER.out Qj.out⟩
     ·rw [if_neg c15] at H;exact absurd H (by simp)
    ·rw [if_neg c14] at H;exact absurd H (by simp)
end Go.Proofs.Ytipjpdiianopcaa.A
