/- Words and contracts for the laws of encode. -/
import Derived.Test.YtipjpdiianopcaaqAx0
import Derived.Test.YtipjpdiianopcaaqCv
import Derived.Test.YtipjpdiianopcaaqCd
import Derived.Test.YtipjpdiianopcaaqEx1
import Derived.Test.YtipjpdiianopcaaqAx7
namespace Go.Proofs.Ytipjpdiianopcaa.E
open Go.RowKit Go.Proofs.YtipjpdiianopcaaW.dF Go.Proofs.YtipjpdiianopcaaW.fO Go.Proofs.YtipjpdiianopcaaW.jP Go.Proofs.Ytipjpdiianopcaa.A Go.Proofs.Ytipjpdiianopcaa.Cv Go.Proofs.Ytipjpdiianopcaa.Cd
attribute [local go_sem] mV mW oO oP lC lD mX mY
set_option linter.unusedVariables false
set_option linter.unusedSimpArgs false
attribute [local go_sem high] RP
def lX.j0:Nat→List (nJ)→Int→Bool→Int→Int→Option (Int × Int × Int)
 | 0,_,_,_,_,_=>none
 | k+1,x0,x1,x21,aBt,aBu=>if x21=true then (some (0,3,(-2))) else (if (!(aBt==0) || (!(aBu==0)))=true then (some (0,aBt,aBu)) else (if 0≤x1 then (if x1<(x0.length:Int) then ((mQ.f k ((aI x0 x1).f0) ((aI x0 x1).f1) ((aI x0 x1).f2)).bind fun t116=>(some (t116,aBt,aBu))) else (none)) else (none)))
def lX.f (k:Nat) (l0:List (nJ)) (a1:Int):Option (Int × Int × Int):=(jQ.f k l0).bind fun Ik=>(if (Ik.1==0&&(Ik.2==0))=true then (if a1<0 then (lX.j0 k l0 a1 true Ik.1 Ik.2) else (lX.j0 k l0 a1 (decide (a1≥(l0.length:Int))) Ik.1 Ik.2)) else (lX.j0 k l0 a1 false Ik.1 Ik.2))
def lX.T6:Bool × List (List Nat × List Nat):=(true,[([],[]),([],[]),([0,1],[0,1]),([2],[2]),([3],[3]),([],[]),([4,4,0,1,2,3,4],[4]),([5,6,0,1,2,3,4,5,6],[5])])
def lX.B6:List Nat:=[0,0,3,7,15,0,31,127]
theorem lX.tab6:Ap .any (opsOf Try.f37 6)=lX.T6:=by kernel_rfl
theorem lX.aIS:uF lX.T6.2 lX.B6=true:=by kernel_rfl
set_option maxHeartbeats 8000000 in
set_option maxRecDepth 100000 in
theorem lX.calls (k:Nat) (A0:Option Addr) (c0:Nat) (l0:List (nJ)) (a1:Int) (r1:Int) (r2:Int) (r3:Int) (w:World) (hr0:Kd.C Nv w A0 l0.length l0) (hc0:l0.length≤c0) (h:lX.f k l0 a1=some (r1,r2,r3)) :
  Calls Try.prog 37 #[.slice A0 l0.length c0,.int .i64 a1] w fun e w'=>e=.returned (.tuple #[.int .i64 r1,.agg #[.int .i64 r2,.int .i64 r3]])∧Below w.heap.size w w':=by
 have NL:=Try.underlying27
 have Jf:=Try.underlying54
 have HR0:=aA.mk hr0
 have Am:=aA.mk hc0
 clear hr0 hc0
 have HB:=aA.mk (Below.refl w.heap.size w)
 have H:((jQ.f k l0).bind fun Ik=>(if (Ik.1==0&&(Ik.2==0))=true then (if a1<0 then (lX.j0 k l0 a1 true Ik.1 Ik.2) else (lX.j0 k l0 a1 (decide (a1≥(l0.length:Int))) Ik.1 Ik.2)) else (lX.j0 k l0 a1 false Ik.1 Ik.2)))=some (r1,r2,r3):=h
 clear h
 replace H:=Option.bind_eq_some_iff.mp H
 obtain ⟨⟨t112,t113⟩,Wi,H⟩:=H
 replace H:(if (t112==0&&(t113==0))=true then (if a1<0 then (lX.j0 k l0 a1 true t112 t113) else (lX.j0 k l0 a1 (decide (a1≥(l0.length:Int))) t112 t113)) else (lX.j0 k l0 a1 false t112 t113))=some (r1,r2,r3):=H
 have A3:=aA.mk Wi
 clear Wi
 have HC4:=aA.mk H
 clear H
 go_enter Try.func37,Try.ntmps37
 go_upto_region 2 with (first|((with_reducible refine dH (N:=5) rfl ?_);(try (refine dZ (by rfl) ?_;dsimp only));refine dB ?hg (N:=5) ?hd (cs:=#[.int .i64 0,.int .i64 0]) (t:=27) ?hr ?_;(case hd=>rfl);(case hg=>rfl);(case hr=>first|(go_simp;done)|(go_simp;rfl));intro vF hg w5 hbox hb;have bT:=aA.mk (aT (dG HB.out) hb);have bW:=aA.mk (hbox);have dA:=aA.mk ((by rw [hg];exact (aN (dG HB.out)):w.heap.size≤vF));have dN:=aA.mk ((by rw [hg];exact (aN (dG HB.out)):w.heap.size≤vF));clear HB;have HB:=bT;have sD:=bW;have BJ:=dA;have Ns:=dN;clear bT bW dA dN;clear hb hbox hg)|((with_reducible refine cO (f:=35) rfl ?_);refine gI (some 8) rfl rfl Try.func35 aQ rfl #[.slice A0 l0.length c0] rfl fP ?_;(with_reducible refine (jQ.calls k _ _ l0 t112 t113 _ ?fJ ?fK A3.out).mono ?_);(case fJ=>repeat (first|exact (Kd.dP HR0.out HB.out)|(with_reducible refine Kd.fG ?_ _)|(with_reducible refine Kd.fC ?_ _)|(with_reducible refine Kd.gJ ?_)));(case fK=>exact Am.out);rintro e w6 ⟨rfl,hb⟩;refine ⟨_,rfl,?_⟩;have bT:=aA.mk (aK (g:=vF) (o:=.cells #[.int .i64 0,.int .i64 0] 27 (0,0)) (aH sD.out) hb);have bW:=aA.mk (aT (bV HB.out Ns.out) hb);clear sD HB;have sD:=bT;have HB:=bW;clear bT bW)|((with_reducible refine dH (N:=6) rfl ?_);(try (refine dZ (by rfl) ?_;dsimp only));refine dB ?hg (N:=6) ?hd (cs:=#[.int .i64 0,.int .i64 0]) (t:=27) ?hr ?_;(case hd=>rfl);(case hg=>rfl);(case hr=>first|(go_simp;done)|(go_simp;rfl));intro wS hg w7 hbox hb;have bT:=aA.mk (aK (g:=vF) (o:=.cells #[.int .i64 0,.int .i64 0] 27 (0,0)) (aH sD.out) hb);have bW:=aA.mk (aT (bV HB.out Ns.out) hb);have dA:=aA.mk (hbox);have dN:=aA.mk ((by rw [hg];exact (aN (bV HB.out Ns.out)):w.heap.size≤wS));have eY:=aA.mk ((by rw [hg];exact (aN (bV HB.out Ns.out)):w.heap.size≤wS));have fV:=aA.mk ((by rw [hg];exact Nat.ne_of_lt (bU (g:=vF) (o:=.cells #[.int .i64 0,.int .i64 0] 27 (0,0)) (aH sD.out)):vF≠wS));have jA:=aA.mk ((by rw [hg];exact Nat.ne_of_gt (bU (g:=vF) (o:=.cells #[.int .i64 0,.int .i64 0] 27 (0,0)) (aH sD.out)):wS≠vF));clear sD HB;have sD:=bT;have HB:=bW;have nZ:=dA;have bKy:=dN;have Vy:=eY;have qB:=fV;have nT:=jA;clear bT bW dA dN eY fV jA;clear hb hbox hg;have bHl:=nT.out;have bHm:=qB.out;have XE:w7.cell? ⟨wS,0,none⟩=some (.int .i64 0):=(aC nZ.out 0).trans rfl;have XF:w7.cell? ⟨wS,1,none⟩=some (.int .i64 0):=(aC nZ.out 1).trans rfl;have XG:=aG nZ.out 0;have XH:=aG nZ.out 1))
 (try simp only [Act.put,JF,Gf,Jh])
 go_cut [21] (fun v21 wc=>∃ (kq:Nat) (aG6:Bool),v21=.bool aG6∧aA (lX.j0 kq l0 a1 aG6 t112 t113=some (r1,r2,r3))∧aA (kq≤k)∧aA (wc.heap[vF]?=some (.cells #[.int .i64 0,.int .i64 0] 27 (0,0)))∧aA (wc.heap[wS]?=some (.cells #[.int .i64 t112,.int .i64 t113] 27 (0,0)))∧aA (Below w.heap.size w wc))
 case first =>
  have H:=HC4.out
  clear HC4
  by_cases c10:(t112==0&&(t113==0))=true
  ·rw [if_pos c10] at H;have BO:(t112==0&&(t113==0))=true:=c10
   (try (have Qi:decide (t112=0&&(t113==0))=true:=by simpa using c10))
   (try (have aQc:(t112==0&&(t113==0))=true:=by simpa using c10))
   clear c10
   (first|rw [BO]|(simp only [nX,tY];rw [BO])|skip)
   by_cases c11:a1<0
   ·rw [if_pos c11] at H;have KD:decide (a1<0)=true:=fB c11;clear c11;have H':=aA.mk H;clear H;have XA:=nT.out;have XB:=qB.out;have JG:w7.cell? ⟨wS,0,none⟩=some (.int .i64 0):=(aC nZ.out 0).trans rfl;have JH:w7.cell? ⟨wS,1,none⟩=some (.int .i64 0):=(aC nZ.out 1).trans rfl;have JI:=aG nZ.out 0;have JJ:=aG nZ.out 1
    go_wp2
    go_meet
    case rel=>exact ⟨_,(true),gV,H',⟨by first|omega|exact Nat.le_refl _⟩,⟨by refine aH ?_;refine aU ?_ qB.out _;refine aH ?_;refine aU ?_ qB.out _;refine aH ?_;exact sD.out⟩,⟨by refine aH ?_;refine aY (cs:=#[.int .i64 t112,.int .i64 0]) ?_ 1 _ rfl;refine aH ?_;refine aY (cs:=#[.int .i64 0,.int .i64 0]) ?_ 0 _ rfl;refine aH ?_;exact nZ.out⟩,⟨dK HB.out Ns.out Vy.out⟩⟩
   ·rw [if_neg c11] at H;have KD:decide (a1<0)=false:=kT c11;clear c11;have H':=aA.mk H;clear H;have aJf:=nT.out;have aJg:=qB.out;have WQ:w7.cell? ⟨wS,0,none⟩=some (.int .i64 0):=(aC nZ.out 0).trans rfl;have WS:w7.cell? ⟨wS,1,none⟩=some (.int .i64 0):=(aC nZ.out 1).trans rfl;have WT:=aG nZ.out 0;have WU:=aG nZ.out 1
    go_wp2
    go_meet
    case rel=>exact ⟨_,(decide (a1≥(l0.length:Int))),gV,H',⟨by first|omega|exact Nat.le_refl _⟩,⟨by refine aH ?_;refine aU ?_ qB.out _;refine aH ?_;refine aU ?_ qB.out _;refine aH ?_;exact sD.out⟩,⟨by refine aH ?_;refine aY (cs:=#[.int .i64 t112,.int .i64 0]) ?_ 1 _ rfl;refine aH ?_;refine aY (cs:=#[.int .i64 0,.int .i64 0]) ?_ 0 _ rfl;refine aH ?_;exact nZ.out⟩,⟨dK HB.out Ns.out Vy.out⟩⟩
  ·rw [if_neg c10] at H;have BO:(t112==0&&(t113==0))=false:=by simpa using c10
   (try (have Qi:decide (t112=0&&(t113==0))=false:=by simpa using c10))
   (try (have aQc:(t112==0&&(t113==0))=false:=by simpa using c10))
   (try (have bKz:¬ (t112=0&&(t113==0)):=by simpa using c10))
   clear c10
   (first|rw [BO]|(simp only [nX,tY];rw [BO])|skip)
   have H':=aA.mk H;clear H;have aPp:=nT.out;have aPq:=qB.out;have aFo:w7.cell? ⟨wS,0,none⟩=some (.int .i64 0):=(aC nZ.out 0).trans rfl;have aFp:w7.cell? ⟨wS,1,none⟩=some (.int .i64 0):=(aC nZ.out 1).trans rfl;have aFq:=aG nZ.out 0;have aFr:=aG nZ.out 1
   go_wp2
   go_meet
   case rel=>exact ⟨_,(false),gV,H',⟨by first|omega|exact Nat.le_refl _⟩,⟨by refine aH ?_;refine aU ?_ qB.out _;refine aH ?_;refine aU ?_ qB.out _;refine aH ?_;exact sD.out⟩,⟨by refine aH ?_;refine aY (cs:=#[.int .i64 t112,.int .i64 0]) ?_ 1 _ rfl;refine aH ?_;refine aY (cs:=#[.int .i64 0,.int .i64 0]) ?_ 0 _ rfl;refine aH ?_;exact nZ.out⟩,⟨dK HB.out Ns.out Vy.out⟩⟩
 case rest =>
  clear HC4
  obtain ⟨kq,aG6,rfl,HA,HJ3,sD,nZ,HB⟩:=hcut
  cases kq with
  | zero=>exact absurd HA.out (by simp [lX.j0])
  | succ kj3 =>
   have H:=HA.out;clear HA;simp only [lX.j0] at H
   by_cases c18:aG6=true
   ·subst c18;have H1:(some (0,3,(-2)))=some (r1,r2,r3):=by rw [if_pos rfl] at H;exact H
    clear H;have H:=H1;clear H1;simp only [Option.some.injEq,Prod.mk.injEq] at H;obtain ⟨rfl,rfl,rfl⟩:=H;have bKA:=nT.out;have bKB:=qB.out;have aMx:wc.cell? ⟨wS,0,none⟩=some (.int .i64 t112):=(aC nZ.out 0).trans rfl;have aMy:wc.cell? ⟨wS,1,none⟩=some (.int .i64 t113):=(aC nZ.out 1).trans rfl;have aMz:=aG nZ.out 0;have aMA:=aG nZ.out 1
    try go_wp2
    have bT:aA (((wc.setCell ⟨wS,0,none⟩ (.int .i64 3)).setCell ⟨wS,1,none⟩ (.int .i64 (-2))).heap[vF]?=some (.cells #[.int .i64 0,.int .i64 0] 27 (0,0))):=⟨by refine aH ?_;refine aU ?_ qB.out _;refine aH ?_;refine aU ?_ qB.out _;refine aH ?_;exact sD.out⟩;have bW:aA (((wc.setCell ⟨wS,0,none⟩ (.int .i64 3)).setCell ⟨wS,1,none⟩ (.int .i64 (-2))).heap[wS]?=some (.cells #[.int .i64 3,.int .i64 (-2)] 27 (0,0))):=⟨by refine aH ?_;refine aY (cs:=#[.int .i64 3,.int .i64 t113]) ?_ 1 _ rfl;refine aH ?_;refine aY (cs:=#[.int .i64 t112,.int .i64 t113]) ?_ 0 _ rfl;refine aH ?_;exact nZ.out⟩;have dA:aA (Below w.heap.size w ((wc.setCell ⟨wS,0,none⟩ (.int .i64 3)).setCell ⟨wS,1,none⟩ (.int .i64 (-2)))):=⟨dK HB.out Ns.out Vy.out⟩
    (try clear sD)
    (try clear nZ)
    (try clear HB)
    generalize ((wc.setCell ⟨wS,0,none⟩ (.int .i64 3)).setCell ⟨wS,1,none⟩ (.int .i64 (-2)))=Rf at bT bW dA ⊢;have sD:=bT;have nZ:=bW;have HB:=dA;clear bT bW dA;have bT:=aA.mk (dY sD.out);have bW:=aA.mk (dY nZ.out);have dA:=aA.mk (fZ HB.out);clear sD;clear nZ;clear HB;have sD:=bT;have nZ:=bW;have HB:=dA;clear bT bW dA;refine qZ (n:=3) (S:=fun w'=>w'.cell? ⟨wS,0,none⟩=some (.int .i64 3)∧w'.cell? ⟨wS,1,none⟩=some (.int .i64 (-2))) (ds:=[]) #[false,false,false] aQ rfl rfl ⟨(aC nZ.out 0).trans rfl,(aC nZ.out 1).trans rfl⟩ (fun hHeld=>?_);generalize Rf.drew=Zf at sD nZ HB hHeld ⊢;refine bQ (i:=1) (N:=some 4) (v:=?_) (a':=?_) #[false,true,false] rfl rfl aQ (fun _ _ _ h=>h) (bG ?_) ?_ ?_;rotate_left
    ·intro w';go_simp;with_reducible rfl
    rotate_left
    ·simp only [Act.put,aX];rfl
    refine iQ (i:=0) (N:=some 26) (v:=?_) (a':=?_) #[true,true,false] rfl rfl aQ (fun _ _ _ h=>h) (bG ?_) hHeld ?_ ?_;rotate_left
    ·rintro w' ⟨s0,s1⟩;go_simp;with_reducible rfl
    rotate_left
    ·simp only [Act.put,aX];rfl
    refine wL (i:=2) (N:=none) #[true,true,true] rfl rfl aQ (by decide) (fun K hK=>?_);have bMz:Zf.cell? ⟨vF,0,none⟩=some (.int .i64 0):=(aC sD.out 0).trans rfl;have bKC:=aG sD.out 0;have bEg:=nT.out;have bEh:=qB.out;have bMA:Zf.cell? ⟨vF,1,none⟩=some (.int .i64 0):=(aC sD.out 1).trans rfl;have bKD:=aG sD.out 1;have bEi:=nT.out;have bEj:=qB.out;refine BP (w1:=?_) (by rfl) rfl ?_ ?_;rotate_left
    ·go_simp;rfl
    refine hK.out _ _ ⟨((cell_far (p:=⟨vF,_,none⟩) nT.out _).trans (((cell_far (p:=⟨vF,_,none⟩) nT.out _).trans (hHeld.1)))),((cell_far (p:=⟨vF,_,none⟩) nT.out _).trans (((cell_far (p:=⟨vF,_,none⟩) nT.out _).trans (hHeld.2))))⟩ (fun hHeld=>?_);clear hK K;refine sG aQ ?_
    try go_wp2
    refine bodyPost_ret (zS rfl _ _ vF 27 #[.int .i64 3,.int .i64 (-2)] (0,0) _ rfl (by refine aH ?_;refine aY (cs:=#[.int .i64 3,.int .i64 0]) ?_ 1 _ rfl;refine aH ?_;refine aY (cs:=#[.int .i64 0,.int .i64 0]) ?_ 0 _ rfl;refine aH ?_;exact sD.out) Try.underlying27 rfl aQ) rfl ?_;exact ⟨by first|rfl|(simp [bK,bM] <;> rfl)|(simp [*,bK,bM] <;> rfl),dK HB.out Ns.out Vy.out⟩
   ·replace c18:=Bool.eq_false_iff.mpr c18;subst c18;have H1:(if (!(t112==0) || (!(t113==0)))=true then (some (0,t112,t113)) else (if 0≤a1 then (if a1<(l0.length:Int) then ((mQ.f kj3 ((aI l0 a1).f0) ((aI l0 a1).f1) ((aI l0 a1).f2)).bind fun t116=>(some (t116,t112,t113))) else (none)) else (none)))=some (r1,r2,r3):=by rw [if_neg (show ¬ (false=true) by decide)] at H;exact H
    clear H;have H:=H1;clear H1
    by_cases c25:(!(t112==0) || (!(t113==0)))=true
    ·rw [if_pos c25] at H;have aBU:(!(t112==0) || (!(t113==0)))=true:=c25;clear c25;simp only [Option.some.injEq,Prod.mk.injEq] at H;obtain ⟨rfl,rfl,rfl⟩:=H;have aJ9:=nT.out;have aJ_:=qB.out;have Xl:wc.cell? ⟨wS,0,none⟩=some (.int .i64 t112):=(aC nZ.out 0).trans rfl;have Xm:wc.cell? ⟨wS,1,none⟩=some (.int .i64 t113):=(aC nZ.out 1).trans rfl;have Xn:=aG nZ.out 0;have Xo:=aG nZ.out 1
     try go_wp2
     have bT:=aA.mk (dY sD.out);have bW:=aA.mk (dY nZ.out);have dA:=aA.mk (fZ HB.out);clear sD;clear nZ;clear HB;have sD:=bT;have nZ:=bW;have HB:=dA;clear bT bW dA;refine qZ (n:=3) (S:=fun w'=>w'.cell? ⟨wS,0,none⟩=some (.int .i64 t112)∧w'.cell? ⟨wS,1,none⟩=some (.int .i64 t113)) (ds:=[]) #[false,false,false] aQ rfl rfl ⟨(aC nZ.out 0).trans rfl,(aC nZ.out 1).trans rfl⟩ (fun hHeld=>?_);generalize wc.drew=w28 at sD nZ HB hHeld ⊢;refine bQ (i:=1) (N:=some 4) (v:=?_) (a':=?_) #[false,true,false] rfl rfl aQ (fun _ _ _ h=>h) (bG ?_) ?_ ?_;rotate_left
     ·intro w';go_simp;with_reducible rfl
     rotate_left
     ·simp only [Act.put,aX];rfl
     refine iQ (i:=0) (N:=some 26) (v:=?_) (a':=?_) #[true,true,false] rfl rfl aQ (fun _ _ _ h=>h) (bG ?_) hHeld ?_ ?_;rotate_left
     ·rintro w' ⟨s0,s1⟩;go_simp;with_reducible rfl
     rotate_left
     ·simp only [Act.put,aX];rfl
     refine wL (i:=2) (N:=none) #[true,true,true] rfl rfl aQ (by decide) (fun K hK=>?_);have bMB:w28.cell? ⟨vF,0,none⟩=some (.int .i64 0):=(aC sD.out 0).trans rfl;have bKE:=aG sD.out 0;have bEk:=nT.out;have bEl:=qB.out;have bMC:w28.cell? ⟨vF,1,none⟩=some (.int .i64 0):=(aC sD.out 1).trans rfl;have bKF:=aG sD.out 1;have bEm:=nT.out;have bEn:=qB.out;refine BP (w1:=?_) (by rfl) rfl ?_ ?_;rotate_left
     ·go_simp;rfl
     refine hK.out _ _ ⟨((cell_far (p:=⟨vF,_,none⟩) nT.out _).trans (((cell_far (p:=⟨vF,_,none⟩) nT.out _).trans (hHeld.1)))),((cell_far (p:=⟨vF,_,none⟩) nT.out _).trans (((cell_far (p:=⟨vF,_,none⟩) nT.out _).trans (hHeld.2))))⟩ (fun hHeld=>?_);clear hK K;refine sG aQ ?_
     try go_wp2
     refine bodyPost_ret (zS rfl _ _ vF 27 #[.int .i64 t112,.int .i64 t113] (0,0) _ rfl (by refine aH ?_;refine aY (cs:=#[.int .i64 t112,.int .i64 0]) ?_ 1 _ rfl;refine aH ?_;refine aY (cs:=#[.int .i64 0,.int .i64 0]) ?_ 0 _ rfl;refine aH ?_;exact sD.out) Try.underlying27 rfl aQ) rfl ?_;exact ⟨by first|rfl|(simp [bK,bM] <;> rfl)|(simp [*,bK,bM] <;> rfl),dK HB.out Ns.out Vy.out⟩
    ·rw [if_neg c25] at H;have aBU:(!(t112==0) || (!(t113==0)))=false:=by simpa using c25
     clear c25
     by_cases c31:0≤a1
     ·rw [if_pos c31] at H;have aXU:decide (0≤a1)=true:=fB c31;clear c31
      by_cases c32:a1<(l0.length:Int)
      ·rw [if_pos c32] at H;have bKG:decide (a1<(l0.length:Int))=true:=fB c32;clear c32;replace H:=Option.bind_eq_some_iff.mp H;obtain ⟨t116,aCl,H⟩:=H;replace H:(some (t116,t112,t113))=some (r1,r2,r3):=H;have A33:=aA.mk aCl;clear aCl;simp only [Option.some.injEq,Prod.mk.injEq] at H;obtain ⟨rfl,rfl,rfl⟩:=H;have Yi:=nT.out;have Yj:=qB.out;have WZ:wc.cell? ⟨wS,0,none⟩=some (.int .i64 t112):=(aC nZ.out 0).trans rfl;have Xa:wc.cell? ⟨wS,1,none⟩=some (.int .i64 t113):=(aC nZ.out 1).trans rfl;have Xb:=aG nZ.out 0;have Xc:=aG nZ.out 1
       try go_wp2
       have bT:=aA.mk (dY sD.out);have bW:=aA.mk (dY nZ.out);have dA:=aA.mk (fZ HB.out);clear sD;clear nZ;clear HB;have sD:=bT;have nZ:=bW;have HB:=dA;clear bT bW dA;have aT2:0≤(a1:Int):=dU dW;have aT3:a1<(l0.length:Int):=dU dW;obtain ⟨aC7,aLh,aLi,e115,TF,TG,TI,aG7,aG8⟩:=rJ HR0.out a1 aT2 aT3;have Eh:=TI;have Ei:=TG;have Ej:=TF
       cases e115
       replace TF:=(HB.out.cell (dM w _ TF)).trans TF;replace TG:=(HB.out.cell (dM w _ TG)).trans TG;replace TI:=(HB.out.cell (dM w _ TI)).trans TI;have aG9:=aA.mk aG8;have aN9:=aA.mk aG7;clear aG8 aG7;replace aT2:=eq_true aT2;replace aT3:=eq_true aT3;refine qZ (n:=8) (S:=fun w'=>w'.cell? ⟨wS,0,none⟩=some (.int .i64 t112)∧w'.cell? ⟨wS,1,none⟩=some (.int .i64 t113)∧w'.cell? (aC7.add ((a1).toNat*3))=some (.string ((aI l0 a1).f0))∧w'.cell? ⟨(aC7.add ((a1).toNat*3)).block,(aC7.add ((a1).toNat*3)).off+1,none⟩=some (.int .i64 ((aI l0 a1).f1))∧w'.cell? ⟨(aC7.add ((a1).toNat*3)).block,(aC7.add ((a1).toNat*3)).off+2,none⟩=some (.slice aLh ((aI l0 a1).f2).length aLi)) (ds:=[]) #[false,false,false,false,false,false,false,false] aQ rfl rfl ⟨(aC nZ.out 0).trans rfl,(aC nZ.out 1).trans rfl,((HB.out.cell (dM w _ Ej)).trans Ej),((HB.out.cell (dM w _ Ei)).trans Ei),((HB.out.cell (dM w _ Eh)).trans Eh)⟩ (fun hHeld=>?_);refine nK lX.tab6 lX.aIS (fun gG zQ=>?_);generalize wc.drew=w36 at sD nZ HB aG9 TF TG TI hHeld ⊢
       refine bQ (i:=0) (N:=some 27) (v:=?_) (a':=?_) #[true,false,false,false,false,false,false,false] rfl rfl (bP gG.out aQ) (fun _ _ _ h=>h) (bG ?_) ?_ ?_;rotate_left
       ·intro w';go_simp;with_reducible rfl
       rotate_left
       ·simp only [Act.put,aX];rfl
       refine bQ (i:=1) (N:=some 28) (v:=?_) (a':=?_) #[true,true,false,false,false,false,false,false] rfl rfl (bP gG.out aQ) (fun _ _ _ h=>h) (bG ?_) ?_ ?_;rotate_left
       ·intro w';go_simp;with_reducible rfl
       rotate_left
       ·simp only [Act.put,aX];rfl
       refine bQ (i:=2) (N:=some 29) (v:=?_) (a':=?_) #[true,true,true,false,false,false,false,false] rfl rfl (bP gG.out aQ) (fun _ _ _ h=>h) (bG ?_) ?_ ?_;rotate_left
       ·intro w';go_simp;with_reducible rfl
       rotate_left
       ·simp only [Act.put,aX];rfl
       refine iQ (i:=3) (N:=some 30) (v:=?_) (a':=?_) #[true,true,true,true,false,false,false,false] rfl rfl (iH gG.out zQ.out aQ) (fun _ _ _ h=>h) (bG ?_) hHeld ?_ ?_;rotate_left
       ·rintro w' ⟨s0,s1,s2,s3,s4⟩;go_simp;with_reducible rfl
       rotate_left
       ·simp only [Act.put,aX];rfl
       refine iQ (i:=5) (N:=some 32) (v:=?_) (a':=?_) #[true,true,true,true,false,true,false,false] rfl rfl (iH gG.out zQ.out aQ) (fun _ _ _ h=>h) (bG ?_) hHeld ?_ ?_;rotate_left
       ·rintro w' ⟨s0,s1,s2,s3,s4⟩;go_simp;with_reducible rfl
       rotate_left
       ·simp only [Act.put,aX];rfl
       refine wL (i:=4) (N:=some 31) #[true,true,true,true,true,true,false,false] rfl rfl (qH gG.out aQ) (by decide) (fun K hK=>?_);refine xR Try.func72 aQ rfl #[.agg #[.string ((aI l0 a1).f0),.int .i64 ((aI l0 a1).f1),.slice aLh ((aI l0 a1).f2).length aLi]] (by rfl) rfl rfl fP ?_
       with_reducible refine (mQ.calls kj3 ((aI l0 a1).f0) ((aI l0 a1).f1) _ _ ((aI l0 a1).f2) t116 _ ?fJ ?fK A33.out).mono ?_
       (case fJ=>repeat (first|exact (Kd.dP aG9.out HB.out)|(with_reducible refine Kd.fG ?_ _)|(with_reducible refine Kd.fC ?_ _)|(with_reducible refine Kd.gJ ?_)))
       (case fK=>exact aN9.out)
       rintro e w37 ⟨rfl,hb⟩;refine ⟨_,rfl,?_⟩;have bT:=aA.mk (aK (g:=vF) (o:=.cells #[.int .i64 0,.int .i64 0] 27 (0,0)) (aH sD.out) hb);have bW:=aA.mk (aK (g:=wS) (o:=.cells #[.int .i64 t112,.int .i64 t113] 27 (0,0)) (aH nZ.out) hb);have dA:=aA.mk (aT (dK HB.out Ns.out Vy.out) hb);clear sD;clear nZ;clear HB;have sD:=bT;have nZ:=bW;have HB:=dA;clear bT bW dA
       (try clear hb)
       (try clear hb2)
       (try clear hk)
       (try clear hi)
       refine hK.out _ _ ⟨(aC nZ.out 0).trans rfl,(aC nZ.out 1).trans rfl,((HB.out.cell (dM w _ Ej)).trans Ej),((HB.out.cell (dM w _ Ei)).trans Ei),((HB.out.cell (dM w _ Eh)).trans Eh)⟩ (fun hHeld=>?_);clear hK K;refine sJ (a':=?_) ?_ ?_;rotate_left
       ·show Act.put _ (some 31) _=_;simp only [Act.put,aX];rfl
       refine bQ (i:=6) (N:=some 4) (v:=?_) (a':=?_) #[true,true,true,true,true,true,true,false] rfl rfl (bP gG.out aQ) (fun _ _ _ h=>h) (bG ?_) ?_ ?_;rotate_left
       ·intro w';go_simp;with_reducible rfl
       rotate_left
       ·simp only [Act.put,aX];rfl
       refine wL (i:=7) (N:=none) #[true,true,true,true,true,true,true,true] rfl rfl (qH gG.out aQ) (by decide) (fun K hK=>?_);have bFz:w37.cell? ⟨vF,0,none⟩=some (.int .i64 0):=(aC sD.out 0).trans rfl;have aVJ:=aG sD.out 0;have bEo:=nT.out;have bEp:=qB.out;have bMD:w37.cell? ⟨vF,1,none⟩=some (.int .i64 0):=(aC sD.out 1).trans rfl;have bKH:=aG sD.out 1;have bEq:=nT.out;have bEr:=qB.out;refine BP (w1:=?_) (by rfl) rfl ?_ ?_;rotate_left
       ·go_simp;rfl
       refine hK.out _ _ ⟨((cell_far (p:=⟨vF,_,none⟩) nT.out _).trans (((cell_far (p:=⟨vF,_,none⟩) nT.out _).trans (hHeld.1)))),((cell_far (p:=⟨vF,_,none⟩) nT.out _).trans (((cell_far (p:=⟨vF,_,none⟩) nT.out _).trans (hHeld.2.1)))),((cell_far (p:=⟨vF,_,none⟩) (by first|exact Nat.ne_of_lt (Nat.lt_of_lt_of_le (by have:=dM _ _ Ej;first|rwa [add_block] at this|exact this) BJ.out)|(rw [add_block];exact Nat.ne_of_lt (Nat.lt_of_lt_of_le (by have:=dM _ _ Ej;first|rwa [add_block] at this|exact this) BJ.out))|(show (Addr.add _ _).block≠_;rw [add_block];exact Nat.ne_of_lt (Nat.lt_of_lt_of_le (by have:=dM _ _ Ej;first|rwa [add_block] at this|exact this) BJ.out))|(dsimp only;exact Nat.ne_of_lt (Nat.lt_of_lt_of_le (by have:=dM _ _ Ej;first|rwa [add_block] at this|exact this) BJ.out))) _).trans (((cell_far (p:=⟨vF,_,none⟩) (by first|exact Nat.ne_of_lt (Nat.lt_of_lt_of_le (by have:=dM _ _ Ej;first|rwa [add_block] at this|exact this) BJ.out)|(rw [add_block];exact Nat.ne_of_lt (Nat.lt_of_lt_of_le (by have:=dM _ _ Ej;first|rwa [add_block] at this|exact this) BJ.out))|(show (Addr.add _ _).block≠_;rw [add_block];exact Nat.ne_of_lt (Nat.lt_of_lt_of_le (by have:=dM _ _ Ej;first|rwa [add_block] at this|exact this) BJ.out))|(dsimp only;exact Nat.ne_of_lt (Nat.lt_of_lt_of_le (by have:=dM _ _ Ej;first|rwa [add_block] at this|exact this) BJ.out))) _).trans (hHeld.2.2.1)))),((cell_far (p:=⟨vF,_,none⟩) (by first|exact Nat.ne_of_lt (Nat.lt_of_lt_of_le (by have:=dM _ _ Ei;first|rwa [add_block] at this|exact this) BJ.out)|(rw [add_block];exact Nat.ne_of_lt (Nat.lt_of_lt_of_le (by have:=dM _ _ Ei;first|rwa [add_block] at this|exact this) BJ.out))|(show (Addr.add _ _).block≠_;rw [add_block];exact Nat.ne_of_lt (Nat.lt_of_lt_of_le (by have:=dM _ _ Ei;first|rwa [add_block] at this|exact this) BJ.out))|(dsimp only;exact Nat.ne_of_lt (Nat.lt_of_lt_of_le (by have:=dM _ _ Ei;first|rwa [add_block] at this|exact this) BJ.out))) _).trans (((cell_far (p:=⟨vF,_,none⟩) (by first|exact Nat.ne_of_lt (Nat.lt_of_lt_of_le (by have:=dM _ _ Ei;first|rwa [add_block] at this|exact this) BJ.out)|(rw [add_block];exact Nat.ne_of_lt (Nat.lt_of_lt_of_le (by have:=dM _ _ Ei;first|rwa [add_block] at this|exact this) BJ.out))|(show (Addr.add _ _).block≠_;rw [add_block];exact Nat.ne_of_lt (Nat.lt_of_lt_of_le (by have:=dM _ _ Ei;first|rwa [add_block] at this|exact this) BJ.out))|(dsimp only;exact Nat.ne_of_lt (Nat.lt_of_lt_of_le (by have:=dM _ _ Ei;first|rwa [add_block] at this|exact this) BJ.out))) _).trans (hHeld.2.2.2.1)))),((cell_far (p:=⟨vF,_,none⟩) (by first|exact Nat.ne_of_lt (Nat.lt_of_lt_of_le (by have:=dM _ _ Eh;first|rwa [add_block] at this|exact this) BJ.out)|(rw [add_block];exact Nat.ne_of_lt (Nat.lt_of_lt_of_le (by have:=dM _ _ Eh;first|rwa [add_block] at this|exact this) BJ.out))|(show (Addr.add _ _).block≠_;rw [add_block];exact Nat.ne_of_lt (Nat.lt_of_lt_of_le (by have:=dM _ _ Eh;first|rwa [add_block] at this|exact this) BJ.out))|(dsimp only;exact Nat.ne_of_lt (Nat.lt_of_lt_of_le (by have:=dM _ _ Eh;first|rwa [add_block] at this|exact this) BJ.out))) _).trans (((cell_far (p:=⟨vF,_,none⟩) (by first|exact Nat.ne_of_lt (Nat.lt_of_lt_of_le (by have:=dM _ _ Eh;first|rwa [add_block] at this|exact this) BJ.out)|(rw [add_block];exact Nat.ne_of_lt (Nat.lt_of_lt_of_le (by have:=dM _ _ Eh;first|rwa [add_block] at this|exact this) BJ.out))|(show (Addr.add _ _).block≠_;rw [add_block];exact Nat.ne_of_lt (Nat.lt_of_lt_of_le (by have:=dM _ _ Eh;first|rwa [add_block] at this|exact this) BJ.out))|(dsimp only;exact Nat.ne_of_lt (Nat.lt_of_lt_of_le (by have:=dM _ _ Eh;first|rwa [add_block] at this|exact this) BJ.out))) _).trans (hHeld.2.2.2.2))))⟩ (fun hHeld=>?_)
       clear hK K;refine sG (sH gG.out aQ) ?_
       try go_wp2
       refine bodyPost_ret (zS rfl _ _ vF 27 #[.int .i64 t112,.int .i64 t113] (0,0) _ rfl (by refine aH ?_;refine aY (cs:=#[.int .i64 t112,.int .i64 0]) ?_ 1 _ rfl;refine aH ?_;refine aY (cs:=#[.int .i64 0,.int .i64 0]) ?_ 0 _ rfl;refine aH ?_;exact sD.out) Try.underlying27 rfl aQ) rfl ?_;exact ⟨by first|rfl|(simp [bK,bM] <;> rfl)|(simp [*,bK,bM] <;> rfl),dK HB.out Ns.out Vy.out⟩
      ·rw [if_neg c32] at H;exact absurd H (by simp)
     ·rw [if_neg c31] at H;exact absurd H (by simp)
end Go.Proofs.Ytipjpdiianopcaa.E
