/- Words and contracts for the laws. -/
import Derived.Test.YtipjpdiianopcaarAx0
import Derived.Test.YtipjpdiianopcaarCv
import Derived.Test.YtipjpdiianopcaarCd
import Derived.Test.YtipjpdiianopcaarEx1
import Derived.Test.YtipjpdiianopcaarAx7
namespace Go.Proofs.Ytipjpdiianopcaa.E
open Go.RowKit Go.Proofs.YtipjpdiianopcaaW.aZ Go.Proofs.YtipjpdiianopcaaW.dQ Go.Proofs.YtipjpdiianopcaaW.gW Go.Proofs.Ytipjpdiianopcaa.A Go.Proofs.Ytipjpdiianopcaa.Cv Go.Proofs.Ytipjpdiianopcaa.Cd
attribute [local go_sem] jY jZ kY kZ jD jE kC kD
set_option linter.unusedVariables false
set_option linter.unusedSimpArgs false
attribute [local go_sem high] GY
def eF.j0:Nat→List (iJ)→Int→Bool→Int→Int→Option (Int × Int × Int)
 | 0,_,_,_,_,_=>none
 | k+1,x0,x1,x21,CP,CQ=>if x21=true then (some (0,3,(-2))) else (if (!(CP==0) || (!(CQ==0)))=true then (some (0,CP,CQ)) else (if 0≤x1 then (if x1<(x0.length:Int) then ((eP.f k ((aG x0 x1).f0) ((aG x0 x1).f1) ((aG x0 x1).f2)).bind fun t116=>(some (t116,CP,CQ))) else (none)) else (none)))
def eF.f (k:Nat) (l0:List (iJ)) (a1:Int):Option (Int × Int × Int):=(dP.f k l0).bind fun oN=>(if (oN.1==0&&(oN.2==0))=true then (if a1<0 then (eF.j0 k l0 a1 true oN.1 oN.2) else (eF.j0 k l0 a1 (decide (a1≥(l0.length:Int))) oN.1 oN.2)) else (eF.j0 k l0 a1 false oN.1 oN.2))
theorem eF.iW:∀ k,(∀ y0 y1 y2 y3 y4,eG (eF.j0 k y0 y1 y2 y3 y4) (eF.j0 (k+1) y0 y1 y2 y3 y4))
 | 0=>fun _ _ _ _ _ r h=>by simp [eF.j0] at h
 | k+1=>by
  have lZ:=eF.iW k
  ·intro y0 y1 y2 y3 y4;unfold eF.j0
   repeat' first
   | (with_reducible exact lZ _ _ _ _ _)
   | (with_reducible exact eP.mono _ _ _ _)
   | (with_reducible exact dP.mono _ _)
   | (with_reducible exact eG.refl _)
   | (with_reducible exact eG.none _)
   | (with_reducible refine eG.ite ?_ ?_)
   | (with_reducible refine eG.bind ?_ (fun _=>?_))
   | exact lZ _ _ _ _ _
   | exact eP.mono _ _ _ _
   | exact dP.mono _ _
   | exact eG.none _
   | refine eG.ite ?_ ?_
   | refine eG.bind ?_ (fun _=>?_)
theorem eF.mono:∀ a0 a1 k,eG (eF.f k a0 a1) (eF.f (k+1) a0 a1):=by
 intro a0 a1 k
 have lZ:=eF.iW k
 unfold eF.f
 repeat' first
   | (with_reducible exact lZ _ _ _ _ _)
   | (with_reducible exact eP.mono _ _ _ _)
   | (with_reducible exact dP.mono _ _)
   | (with_reducible exact eG.refl _)
   | (with_reducible exact eG.none _)
   | (with_reducible refine eG.ite ?_ ?_)
   | (with_reducible refine eG.bind ?_ (fun _=>?_))
   | exact lZ _ _ _ _ _
   | exact eP.mono _ _ _ _
   | exact dP.mono _ _
   | exact eG.none _
   | refine eG.ite ?_ ?_
   | refine eG.bind ?_ (fun _=>?_)
def eF.T6:Bool × List (List Nat × List Nat):=(true,[([],[]),([],[]),([0,1],[0,1]),([2],[2]),([3],[3]),([],[]),([4,4,0,1,2,3,4],[4]),([5,6,0,1,2,3,4,5,6],[5])])
def eF.B6:List Nat:=[0,0,3,7,15,0,31,127]
theorem eF.tab6:oP .any (opsOf Try.f37 6)=eF.T6:=by kernel_rfl
theorem eF.Vt:oZ eF.T6.2 eF.B6=true:=by kernel_rfl
set_option maxHeartbeats 8000000 in
set_option maxRecDepth 100000 in
theorem eF.calls (k:Nat) (A0:Option Addr) (c0:Nat) (l0:List (iJ)) (a1:Int) (r1:Int) (r2:Int) (r3:Int) (w:World) (hr0:Kd.C rC w A0 l0.length l0) (hc0:l0.length≤c0) (h:eF.f k l0 a1=some (r1,r2,r3)) :
  Calls Try.prog 37 #[.slice A0 l0.length c0,.int .i64 a1] w fun e w'=>e=.returned (.tuple #[.int .i64 r1,.agg #[.int .i64 r2,.int .i64 r3]])∧Below w.heap.size w w':=by
 have Eu:=Try.underlying27
 have vH:=Try.underlying54
 have HR0:=aA.mk hr0
 have PE:=aA.mk hc0
 clear hr0 hc0
 have HB:=aA.mk (Below.refl w.heap.size w)
 have H:((dP.f k l0).bind fun oN=>(if (oN.1==0&&(oN.2==0))=true then (if a1<0 then (eF.j0 k l0 a1 true oN.1 oN.2) else (eF.j0 k l0 a1 (decide (a1≥(l0.length:Int))) oN.1 oN.2)) else (eF.j0 k l0 a1 false oN.1 oN.2)))=some (r1,r2,r3):=h
 clear h
 replace H:=Option.bind_eq_some_iff.mp H
 obtain ⟨⟨t112,t113⟩,GN,H⟩:=H
 replace H:(if (t112==0&&(t113==0))=true then (if a1<0 then (eF.j0 k l0 a1 true t112 t113) else (eF.j0 k l0 a1 (decide (a1≥(l0.length:Int))) t112 t113)) else (eF.j0 k l0 a1 false t112 t113))=some (r1,r2,r3):=H
 have A3:=aA.mk GN
 clear GN
 have Jz:=aA.mk H
 clear H
 go_enter Try.func37,Try.ntmps37
 go_upto_region 2 with (first|((with_reducible refine bC (N:=5) rfl ?_);(try (refine rW (by rfl) ?_;dsimp only));refine eX ?hg (N:=5) ?hd (cs:=#[.int .i64 0,.int .i64 0]) (t:=27) ?hr ?_;(case hd=>rfl);(case hg=>rfl);(case hr=>first|(go_simp;done)|(go_simp;rfl));intro iZ hg w5 hbox hb;have bU:=aA.mk (aN (bM HB.out) hb);have bV:=aA.mk (hbox);have bZ:=aA.mk ((by rw [hg];exact (aQ (bM HB.out)):w.heap.size≤iZ));have jF:=aA.mk ((by rw [hg];exact (aQ (bM HB.out)):w.heap.size≤iZ));clear HB;have HB:=bU;have iL:=bV;have lV:=bZ;have sH:=jF;clear bU bV bZ jF;clear hb hbox hg)|((with_reducible refine cZ (f:=35) rfl ?_);refine gQ (some 8) rfl rfl Try.func35 aV rfl #[.slice A0 l0.length c0] rfl fU ?_;(with_reducible refine (dP.calls k _ _ l0 t112 t113 _ ?nS ?nT A3.out).mono ?_);(case nS=>repeat (first|exact (Kd.gI HR0.out HB.out)|(with_reducible refine Kd.gZ ?_ _)|(with_reducible refine Kd.iC ?_ _)|(with_reducible refine Kd.iU ?_)));(case nT=>exact PE.out);rintro e w6 ⟨rfl,hb⟩;refine ⟨_,rfl,?_⟩;have bU:=aA.mk (bJ (g:=iZ) (o:=.cells #[.int .i64 0,.int .i64 0] 27 (0,0)) (aU iL.out) hb);have bV:=aA.mk (aN (dA HB.out sH.out) hb);clear iL HB;have iL:=bU;have HB:=bV;clear bU bV)|((with_reducible refine bC (N:=6) rfl ?_);(try (refine rW (by rfl) ?_;dsimp only));refine eX ?hg (N:=6) ?hd (cs:=#[.int .i64 0,.int .i64 0]) (t:=27) ?hr ?_;(case hd=>rfl);(case hg=>rfl);(case hr=>first|(go_simp;done)|(go_simp;rfl));intro jI hg w7 hbox hb;have bU:=aA.mk (bJ (g:=iZ) (o:=.cells #[.int .i64 0,.int .i64 0] 27 (0,0)) (aU iL.out) hb);have bV:=aA.mk (aN (dA HB.out sH.out) hb);have bZ:=aA.mk (hbox);have jF:=aA.mk ((by rw [hg];exact (aQ (dA HB.out sH.out)):w.heap.size≤jI));have mQ:=aA.mk ((by rw [hg];exact (aQ (dA HB.out sH.out)):w.heap.size≤jI));have mM:=aA.mk ((by rw [hg];exact Nat.ne_of_lt (gU (g:=iZ) (o:=.cells #[.int .i64 0,.int .i64 0] 27 (0,0)) (aU iL.out)):iZ≠jI));have sF:=aA.mk ((by rw [hg];exact Nat.ne_of_gt (gU (g:=iZ) (o:=.cells #[.int .i64 0,.int .i64 0] 27 (0,0)) (aU iL.out)):jI≠iZ));clear iL HB;have iL:=bU;have HB:=bV;have gG:=bZ;have aDn:=jF;have xQ:=mQ;have iD:=mM;have fV:=sF;clear bU bV bZ jF mQ mM sF;clear hb hbox hg;have aEj:=fV.out;have aEk:=iD.out;have JA:w7.cell? ⟨jI,0,none⟩=some (.int .i64 0):=(aJ gG.out 0).trans rfl;have JB:w7.cell? ⟨jI,1,none⟩=some (.int .i64 0):=(aJ gG.out 1).trans rfl;have JC:=aI gG.out 0;have JD:=aI gG.out 1))
 (try simp only [Act.put,Aq,Ar,Au])
 go_cut [21] (fun v21 wc=>∃ (kq:Nat) (Iq:Bool),v21=.bool Iq∧aA (eF.j0 kq l0 a1 Iq t112 t113=some (r1,r2,r3))∧aA (kq≤k)∧aA (wc.heap[iZ]?=some (.cells #[.int .i64 0,.int .i64 0] 27 (0,0)))∧aA (wc.heap[jI]?=some (.cells #[.int .i64 t112,.int .i64 t113] 27 (0,0)))∧aA (Below w.heap.size w wc))
 case first =>
  have H:=Jz.out
  clear Jz
  by_cases c10:(t112==0&&(t113==0))=true
  ·rw [if_pos c10] at H;have qQ:(t112==0&&(t113==0))=true:=c10
   (try (have Dl:decide (t112=0&&(t113==0))=true:=by simpa using c10))
   (try (have Vu:(t112==0&&(t113==0))=true:=by simpa using c10))
   clear c10
   (first|rw [qQ]|(simp only [lK,lM];rw [qQ])|skip)
   by_cases c11:a1<0
   ·rw [if_pos c11] at H;have qR:decide (a1<0)=true:=eH c11;clear c11;have H':=aA.mk H;clear H;have TW:=fV.out;have TY:=iD.out;have Bj:w7.cell? ⟨jI,0,none⟩=some (.int .i64 0):=(aJ gG.out 0).trans rfl;have Bl:w7.cell? ⟨jI,1,none⟩=some (.int .i64 0):=(aJ gG.out 1).trans rfl;have Bo:=aI gG.out 0;have Bq:=aI gG.out 1
    go_wp2
    go_meet
    case rel=>exact ⟨_,(true),fB,H',⟨by first|omega|exact Nat.le_refl _⟩,⟨by refine aU ?_;refine fO ?_ iD.out _;refine aU ?_;refine fO ?_ iD.out _;refine aU ?_;exact iL.out⟩,⟨by refine aU ?_;refine bH (cs:=#[.int .i64 t112,.int .i64 0]) ?_ 1 _ rfl;refine aU ?_;refine bH (cs:=#[.int .i64 0,.int .i64 0]) ?_ 0 _ rfl;refine aU ?_;exact gG.out⟩,⟨fJ HB.out sH.out xQ.out⟩⟩
   ·rw [if_neg c11] at H;have qR:decide (a1<0)=false:=iE c11;clear c11;have H':=aA.mk H;clear H;have aDo:=fV.out;have aDp:=iD.out;have Yv:w7.cell? ⟨jI,0,none⟩=some (.int .i64 0):=(aJ gG.out 0).trans rfl;have Yw:w7.cell? ⟨jI,1,none⟩=some (.int .i64 0):=(aJ gG.out 1).trans rfl;have Yx:=aI gG.out 0;have Yy:=aI gG.out 1
    go_wp2
    go_meet
    case rel=>exact ⟨_,(decide (a1≥(l0.length:Int))),fB,H',⟨by first|omega|exact Nat.le_refl _⟩,⟨by refine aU ?_;refine fO ?_ iD.out _;refine aU ?_;refine fO ?_ iD.out _;refine aU ?_;exact iL.out⟩,⟨by refine aU ?_;refine bH (cs:=#[.int .i64 t112,.int .i64 0]) ?_ 1 _ rfl;refine aU ?_;refine bH (cs:=#[.int .i64 0,.int .i64 0]) ?_ 0 _ rfl;refine aU ?_;exact gG.out⟩,⟨fJ HB.out sH.out xQ.out⟩⟩
  ·rw [if_neg c10] at H;have qQ:(t112==0&&(t113==0))=false:=by simpa using c10
   (try (have Dl:decide (t112=0&&(t113==0))=false:=by simpa using c10))
   (try (have Vu:(t112==0&&(t113==0))=false:=by simpa using c10))
   (try (have aDq:¬ (t112=0&&(t113==0)):=by simpa using c10))
   clear c10
   (first|rw [qQ]|(simp only [lK,lM];rw [qQ])|skip)
   have H':=aA.mk H;clear H;have aDr:=fV.out;have aDs:=iD.out;have Gm:w7.cell? ⟨jI,0,none⟩=some (.int .i64 0):=(aJ gG.out 0).trans rfl;have Gn:w7.cell? ⟨jI,1,none⟩=some (.int .i64 0):=(aJ gG.out 1).trans rfl;have Gp:=aI gG.out 0;have Gq:=aI gG.out 1
   go_wp2
   go_meet
   case rel=>exact ⟨_,(false),fB,H',⟨by first|omega|exact Nat.le_refl _⟩,⟨by refine aU ?_;refine fO ?_ iD.out _;refine aU ?_;refine fO ?_ iD.out _;refine aU ?_;exact iL.out⟩,⟨by refine aU ?_;refine bH (cs:=#[.int .i64 t112,.int .i64 0]) ?_ 1 _ rfl;refine aU ?_;refine bH (cs:=#[.int .i64 0,.int .i64 0]) ?_ 0 _ rfl;refine aU ?_;exact gG.out⟩,⟨fJ HB.out sH.out xQ.out⟩⟩
 case rest =>
  clear Jz
  obtain ⟨kq,Iq,rfl,HA,Mc,iL,gG,HB⟩:=hcut
  cases kq with
  | zero=>exact absurd HA.out (by simp [eF.j0])
  | succ Md =>
   have H:=HA.out;clear HA;simp only [eF.j0] at H
   by_cases c18:Iq=true
   ·subst c18;have H1:(some (0,3,(-2)))=some (r1,r2,r3):=by rw [if_pos rfl] at H;exact H
    clear H;have H:=H1;clear H1;simp only [Option.some.injEq,Prod.mk.injEq] at H;obtain ⟨rfl,rfl,rfl⟩:=H;have aDt:=fV.out;have aDu:=iD.out;have Nb:wc.cell? ⟨jI,0,none⟩=some (.int .i64 t112):=(aJ gG.out 0).trans rfl;have Nc:wc.cell? ⟨jI,1,none⟩=some (.int .i64 t113):=(aJ gG.out 1).trans rfl;have Nh:=aI gG.out 0;have Nj:=aI gG.out 1
    try go_wp2
    have bU:aA (((wc.setCell ⟨jI,0,none⟩ (.int .i64 3)).setCell ⟨jI,1,none⟩ (.int .i64 (-2))).heap[iZ]?=some (.cells #[.int .i64 0,.int .i64 0] 27 (0,0))):=⟨by refine aU ?_;refine fO ?_ iD.out _;refine aU ?_;refine fO ?_ iD.out _;refine aU ?_;exact iL.out⟩;have bV:aA (((wc.setCell ⟨jI,0,none⟩ (.int .i64 3)).setCell ⟨jI,1,none⟩ (.int .i64 (-2))).heap[jI]?=some (.cells #[.int .i64 3,.int .i64 (-2)] 27 (0,0))):=⟨by refine aU ?_;refine bH (cs:=#[.int .i64 3,.int .i64 t113]) ?_ 1 _ rfl;refine aU ?_;refine bH (cs:=#[.int .i64 t112,.int .i64 t113]) ?_ 0 _ rfl;refine aU ?_;exact gG.out⟩;have bZ:aA (Below w.heap.size w ((wc.setCell ⟨jI,0,none⟩ (.int .i64 3)).setCell ⟨jI,1,none⟩ (.int .i64 (-2)))):=⟨fJ HB.out sH.out xQ.out⟩
    (try clear iL)
    (try clear gG)
    (try clear HB)
    generalize ((wc.setCell ⟨jI,0,none⟩ (.int .i64 3)).setCell ⟨jI,1,none⟩ (.int .i64 (-2)))=JM at bU bV bZ ⊢;have iL:=bU;have gG:=bV;have HB:=bZ;clear bU bV bZ;have bU:=aA.mk (iQ iL.out);have bV:=aA.mk (iQ gG.out);have bZ:=aA.mk (fZ HB.out);clear iL;clear gG;clear HB;have iL:=bU;have gG:=bV;have HB:=bZ;clear bU bV bZ;refine pO (n:=3) (S:=fun w'=>w'.cell? ⟨jI,0,none⟩=some (.int .i64 3)∧w'.cell? ⟨jI,1,none⟩=some (.int .i64 (-2))) (ds:=[]) #[false,false,false] aV rfl rfl ⟨(aJ gG.out 0).trans rfl,(aJ gG.out 1).trans rfl⟩ (fun hHeld=>?_);generalize JM.drew=Tn at iL gG HB hHeld ⊢;refine dZ (i:=1) (N:=some 4) (v:=?_) (a':=?_) #[false,true,false] rfl rfl aV (fun _ _ _ h=>h) (dO ?_) ?_ ?_;rotate_left
    ·intro w';go_simp;with_reducible rfl
    rotate_left
    ·simp only [Act.put,dD];rfl
    refine kT (i:=0) (N:=some 26) (v:=?_) (a':=?_) #[true,true,false] rfl rfl aV (fun _ _ _ h=>h) (dO ?_) hHeld ?_ ?_;rotate_left
    ·rintro w' ⟨s0,s1⟩;go_simp;with_reducible rfl
    rotate_left
    ·simp only [Act.put,dD];rfl
    refine xW (i:=2) (N:=none) #[true,true,true] rfl rfl aV (by decide) (fun K hK=>?_);have aEl:Tn.cell? ⟨iZ,0,none⟩=some (.int .i64 0):=(aJ iL.out 0).trans rfl;have aDv:=aI iL.out 0;have Yz:=fV.out;have YA:=iD.out;have aEm:Tn.cell? ⟨iZ,1,none⟩=some (.int .i64 0):=(aJ iL.out 1).trans rfl;have aDw:=aI iL.out 1;have YB:=fV.out;have YC:=iD.out;refine AY (w1:=?_) (by rfl) rfl ?_ ?_;rotate_left
    ·go_simp;rfl
    refine hK.out _ _ ⟨((cell_far (p:=⟨iZ,_,none⟩) fV.out _).trans (((cell_far (p:=⟨iZ,_,none⟩) fV.out _).trans (hHeld.1)))),((cell_far (p:=⟨iZ,_,none⟩) fV.out _).trans (((cell_far (p:=⟨iZ,_,none⟩) fV.out _).trans (hHeld.2))))⟩ (fun hHeld=>?_);clear hK K;refine sG aV ?_
    try go_wp2
    refine bodyPost_ret (iM rfl _ _ iZ 27 #[.int .i64 3,.int .i64 (-2)] (0,0) _ rfl (by refine aU ?_;refine bH (cs:=#[.int .i64 3,.int .i64 0]) ?_ 1 _ rfl;refine aU ?_;refine bH (cs:=#[.int .i64 0,.int .i64 0]) ?_ 0 _ rfl;refine aU ?_;exact iL.out) Try.underlying27 rfl aV) rfl ?_;exact ⟨by first|rfl|(simp [aX,aY] <;> rfl)|(simp [*,aX,aY] <;> rfl),fJ HB.out sH.out xQ.out⟩
   ·replace c18:=Bool.eq_false_iff.mpr c18;subst c18;have H1:(if (!(t112==0) || (!(t113==0)))=true then (some (0,t112,t113)) else (if 0≤a1 then (if a1<(l0.length:Int) then ((eP.f Md ((aG l0 a1).f0) ((aG l0 a1).f1) ((aG l0 a1).f2)).bind fun t116=>(some (t116,t112,t113))) else (none)) else (none)))=some (r1,r2,r3):=by rw [if_neg (show ¬ (false=true) by decide)] at H;exact H
    clear H;have H:=H1;clear H1
    by_cases c25:(!(t112==0) || (!(t113==0)))=true
    ·rw [if_pos c25] at H;have PV:(!(t112==0) || (!(t113==0)))=true:=c25;clear c25;simp only [Option.some.injEq,Prod.mk.injEq] at H;obtain ⟨rfl,rfl,rfl⟩:=H;have aDx:=fV.out;have aDy:=iD.out;have MC:wc.cell? ⟨jI,0,none⟩=some (.int .i64 t112):=(aJ gG.out 0).trans rfl;have MF:wc.cell? ⟨jI,1,none⟩=some (.int .i64 t113):=(aJ gG.out 1).trans rfl;have MG:=aI gG.out 0;have MH:=aI gG.out 1
     try go_wp2
     have bU:=aA.mk (iQ iL.out);have bV:=aA.mk (iQ gG.out);have bZ:=aA.mk (fZ HB.out);clear iL;clear gG;clear HB;have iL:=bU;have gG:=bV;have HB:=bZ;clear bU bV bZ;refine pO (n:=3) (S:=fun w'=>w'.cell? ⟨jI,0,none⟩=some (.int .i64 t112)∧w'.cell? ⟨jI,1,none⟩=some (.int .i64 t113)) (ds:=[]) #[false,false,false] aV rfl rfl ⟨(aJ gG.out 0).trans rfl,(aJ gG.out 1).trans rfl⟩ (fun hHeld=>?_);generalize wc.drew=w28 at iL gG HB hHeld ⊢;refine dZ (i:=1) (N:=some 4) (v:=?_) (a':=?_) #[false,true,false] rfl rfl aV (fun _ _ _ h=>h) (dO ?_) ?_ ?_;rotate_left
     ·intro w';go_simp;with_reducible rfl
     rotate_left
     ·simp only [Act.put,dD];rfl
     refine kT (i:=0) (N:=some 26) (v:=?_) (a':=?_) #[true,true,false] rfl rfl aV (fun _ _ _ h=>h) (dO ?_) hHeld ?_ ?_;rotate_left
     ·rintro w' ⟨s0,s1⟩;go_simp;with_reducible rfl
     rotate_left
     ·simp only [Act.put,dD];rfl
     refine xW (i:=2) (N:=none) #[true,true,true] rfl rfl aV (by decide) (fun K hK=>?_);have aEn:w28.cell? ⟨iZ,0,none⟩=some (.int .i64 0):=(aJ iL.out 0).trans rfl;have aDz:=aI iL.out 0;have YD:=fV.out;have YE:=iD.out;have aEo:w28.cell? ⟨iZ,1,none⟩=some (.int .i64 0):=(aJ iL.out 1).trans rfl;have aDA:=aI iL.out 1;have YF:=fV.out;have YG:=iD.out;refine AY (w1:=?_) (by rfl) rfl ?_ ?_;rotate_left
     ·go_simp;rfl
     refine hK.out _ _ ⟨((cell_far (p:=⟨iZ,_,none⟩) fV.out _).trans (((cell_far (p:=⟨iZ,_,none⟩) fV.out _).trans (hHeld.1)))),((cell_far (p:=⟨iZ,_,none⟩) fV.out _).trans (((cell_far (p:=⟨iZ,_,none⟩) fV.out _).trans (hHeld.2))))⟩ (fun hHeld=>?_);clear hK K;refine sG aV ?_
     try go_wp2
     refine bodyPost_ret (iM rfl _ _ iZ 27 #[.int .i64 t112,.int .i64 t113] (0,0) _ rfl (by refine aU ?_;refine bH (cs:=#[.int .i64 t112,.int .i64 0]) ?_ 1 _ rfl;refine aU ?_;refine bH (cs:=#[.int .i64 0,.int .i64 0]) ?_ 0 _ rfl;refine aU ?_;exact iL.out) Try.underlying27 rfl aV) rfl ?_;exact ⟨by first|rfl|(simp [aX,aY] <;> rfl)|(simp [*,aX,aY] <;> rfl),fJ HB.out sH.out xQ.out⟩
    ·rw [if_neg c25] at H;have PV:(!(t112==0) || (!(t113==0)))=false:=by simpa using c25
     clear c25
     by_cases c31:0≤a1
     ·rw [if_pos c31] at H;have aDB:decide (0≤a1)=true:=eH c31;clear c31
      by_cases c32:a1<(l0.length:Int)
      ·rw [if_pos c32] at H;have aDC:decide (a1<(l0.length:Int))=true:=eH c32;clear c32;replace H:=Option.bind_eq_some_iff.mp H;obtain ⟨t116,JP,H⟩:=H;replace H:(some (t116,t112,t113))=some (r1,r2,r3):=H;have Zq:=aA.mk JP;clear JP;simp only [Option.some.injEq,Prod.mk.injEq] at H;obtain ⟨rfl,rfl,rfl⟩:=H;have Ue:=fV.out;have Uf:=iD.out;have Nk:wc.cell? ⟨jI,0,none⟩=some (.int .i64 t112):=(aJ gG.out 0).trans rfl;have Nl:wc.cell? ⟨jI,1,none⟩=some (.int .i64 t113):=(aJ gG.out 1).trans rfl;have Np:=aI gG.out 0;have Nq:=aI gG.out 1
       try go_wp2
       have bU:=aA.mk (iQ iL.out);have bV:=aA.mk (iQ gG.out);have bZ:=aA.mk (fZ HB.out);clear iL;clear gG;clear HB;have iL:=bU;have gG:=bV;have HB:=bZ;clear bU bV bZ;have Sm:0≤(a1:Int):=dW dX;have Sr:a1<(l0.length:Int):=dW dX;obtain ⟨Ef,La,Lc,e115,wJ,wK,wL,Ir,Iu⟩:=lC HR0.out a1 Sm Sr;have nJ:=wL;have nK:=wK;have nM:=wJ
       cases e115
       replace wJ:=(HB.out.cell (dJ w _ wJ)).trans wJ;replace wK:=(HB.out.cell (dJ w _ wK)).trans wK;replace wL:=(HB.out.cell (dJ w _ wL)).trans wL;have Iw:=aA.mk Iu;have Oy:=aA.mk Ir;clear Iu Ir;replace Sm:=eq_true Sm;replace Sr:=eq_true Sr;refine pO (n:=8) (S:=fun w'=>w'.cell? ⟨jI,0,none⟩=some (.int .i64 t112)∧w'.cell? ⟨jI,1,none⟩=some (.int .i64 t113)∧w'.cell? (Ef.add ((a1).toNat*3))=some (.string ((aG l0 a1).f0))∧w'.cell? ⟨(Ef.add ((a1).toNat*3)).block,(Ef.add ((a1).toNat*3)).off+1,none⟩=some (.int .i64 ((aG l0 a1).f1))∧w'.cell? ⟨(Ef.add ((a1).toNat*3)).block,(Ef.add ((a1).toNat*3)).off+2,none⟩=some (.slice La ((aG l0 a1).f2).length Lc)) (ds:=[]) #[false,false,false,false,false,false,false,false] aV rfl rfl ⟨(aJ gG.out 0).trans rfl,(aJ gG.out 1).trans rfl,((HB.out.cell (dJ w _ nM)).trans nM),((HB.out.cell (dJ w _ nK)).trans nK),((HB.out.cell (dJ w _ nJ)).trans nJ)⟩ (fun hHeld=>?_);refine oJ eF.tab6 eF.Vt (fun jA xU=>?_);generalize wc.drew=WO at iL gG HB Iw wJ wK wL hHeld ⊢
       refine dZ (i:=0) (N:=some 27) (v:=?_) (a':=?_) #[true,false,false,false,false,false,false,false] rfl rfl (dR jA.out aV) (fun _ _ _ h=>h) (dO ?_) ?_ ?_;rotate_left
       ·intro w';go_simp;with_reducible rfl
       rotate_left
       ·simp only [Act.put,dD];rfl
       refine dZ (i:=1) (N:=some 28) (v:=?_) (a':=?_) #[true,true,false,false,false,false,false,false] rfl rfl (dR jA.out aV) (fun _ _ _ h=>h) (dO ?_) ?_ ?_;rotate_left
       ·intro w';go_simp;with_reducible rfl
       rotate_left
       ·simp only [Act.put,dD];rfl
       refine dZ (i:=2) (N:=some 29) (v:=?_) (a':=?_) #[true,true,true,false,false,false,false,false] rfl rfl (dR jA.out aV) (fun _ _ _ h=>h) (dO ?_) ?_ ?_;rotate_left
       ·intro w';go_simp;with_reducible rfl
       rotate_left
       ·simp only [Act.put,dD];rfl
       refine kT (i:=3) (N:=some 30) (v:=?_) (a':=?_) #[true,true,true,true,false,false,false,false] rfl rfl (iY jA.out xU.out aV) (fun _ _ _ h=>h) (dO ?_) hHeld ?_ ?_;rotate_left
       ·rintro w' ⟨s0,s1,s2,s3,s4⟩;go_simp;with_reducible rfl
       rotate_left
       ·simp only [Act.put,dD];rfl
       refine kT (i:=5) (N:=some 32) (v:=?_) (a':=?_) #[true,true,true,true,false,true,false,false] rfl rfl (iY jA.out xU.out aV) (fun _ _ _ h=>h) (dO ?_) hHeld ?_ ?_;rotate_left
       ·rintro w' ⟨s0,s1,s2,s3,s4⟩;go_simp;with_reducible rfl
       rotate_left
       ·simp only [Act.put,dD];rfl
       refine xW (i:=4) (N:=some 31) #[true,true,true,true,true,true,false,false] rfl rfl (sZ jA.out aV) (by decide) (fun K hK=>?_);refine DI Try.func72 aV rfl #[.agg #[.string ((aG l0 a1).f0),.int .i64 ((aG l0 a1).f1),.slice La ((aG l0 a1).f2).length Lc]] (by rfl) rfl rfl fU ?_
       with_reducible refine (eP.calls Md ((aG l0 a1).f0) ((aG l0 a1).f1) _ _ ((aG l0 a1).f2) t116 _ ?nS ?nT Zq.out).mono ?_
       (case nS=>repeat (first|exact (Kd.gI Iw.out HB.out)|(with_reducible refine Kd.gZ ?_ _)|(with_reducible refine Kd.iC ?_ _)|(with_reducible refine Kd.iU ?_)))
       (case nT=>exact Oy.out)
       rintro e UO ⟨rfl,hb⟩;refine ⟨_,rfl,?_⟩;have bU:=aA.mk (bJ (g:=iZ) (o:=.cells #[.int .i64 0,.int .i64 0] 27 (0,0)) (aU iL.out) hb);have bV:=aA.mk (bJ (g:=jI) (o:=.cells #[.int .i64 t112,.int .i64 t113] 27 (0,0)) (aU gG.out) hb);have bZ:=aA.mk (aN (fJ HB.out sH.out xQ.out) hb);clear iL;clear gG;clear HB;have iL:=bU;have gG:=bV;have HB:=bZ;clear bU bV bZ
       (try clear hb)
       (try clear hb2)
       (try clear hk)
       (try clear hi)
       refine hK.out _ _ ⟨(aJ gG.out 0).trans rfl,(aJ gG.out 1).trans rfl,((HB.out.cell (dJ w _ nM)).trans nM),((HB.out.cell (dJ w _ nK)).trans nK),((HB.out.cell (dJ w _ nJ)).trans nJ)⟩ (fun hHeld=>?_);clear hK K;refine vW (a':=?_) ?_ ?_;rotate_left
       ·show Act.put _ (some 31) _=_;simp only [Act.put,dD];rfl
       refine dZ (i:=6) (N:=some 4) (v:=?_) (a':=?_) #[true,true,true,true,true,true,true,false] rfl rfl (dR jA.out aV) (fun _ _ _ h=>h) (dO ?_) ?_ ?_;rotate_left
       ·intro w';go_simp;with_reducible rfl
       rotate_left
       ·simp only [Act.put,dD];rfl
       refine xW (i:=7) (N:=none) #[true,true,true,true,true,true,true,true] rfl rfl (sZ jA.out aV) (by decide) (fun K hK=>?_);have aEp:UO.cell? ⟨iZ,0,none⟩=some (.int .i64 0):=(aJ iL.out 0).trans rfl;have aDD:=aI iL.out 0;have YH:=fV.out;have YI:=iD.out;have aEq:UO.cell? ⟨iZ,1,none⟩=some (.int .i64 0):=(aJ iL.out 1).trans rfl;have aDE:=aI iL.out 1;have YJ:=fV.out;have YK:=iD.out;refine AY (w1:=?_) (by rfl) rfl ?_ ?_;rotate_left
       ·go_simp;rfl
       refine hK.out _ _ ⟨((cell_far (p:=⟨iZ,_,none⟩) fV.out _).trans (((cell_far (p:=⟨iZ,_,none⟩) fV.out _).trans (hHeld.1)))),((cell_far (p:=⟨iZ,_,none⟩) fV.out _).trans (((cell_far (p:=⟨iZ,_,none⟩) fV.out _).trans (hHeld.2.1)))),((cell_far (p:=⟨iZ,_,none⟩) (by first|exact Nat.ne_of_lt (Nat.lt_of_lt_of_le (by have:=dJ _ _ nM;first|rwa [add_block] at this|exact this) lV.out)|(rw [add_block];exact Nat.ne_of_lt (Nat.lt_of_lt_of_le (by have:=dJ _ _ nM;first|rwa [add_block] at this|exact this) lV.out))|(show (Addr.add _ _).block≠_;rw [add_block];exact Nat.ne_of_lt (Nat.lt_of_lt_of_le (by have:=dJ _ _ nM;first|rwa [add_block] at this|exact this) lV.out))|(dsimp only;exact Nat.ne_of_lt (Nat.lt_of_lt_of_le (by have:=dJ _ _ nM;first|rwa [add_block] at this|exact this) lV.out))) _).trans (((cell_far (p:=⟨iZ,_,none⟩) (by first|exact Nat.ne_of_lt (Nat.lt_of_lt_of_le (by have:=dJ _ _ nM;first|rwa [add_block] at this|exact this) lV.out)|(rw [add_block];exact Nat.ne_of_lt (Nat.lt_of_lt_of_le (by have:=dJ _ _ nM;first|rwa [add_block] at this|exact this) lV.out))|(show (Addr.add _ _).block≠_;rw [add_block];exact Nat.ne_of_lt (Nat.lt_of_lt_of_le (by have:=dJ _ _ nM;first|rwa [add_block] at this|exact this) lV.out))|(dsimp only;exact Nat.ne_of_lt (Nat.lt_of_lt_of_le (by have:=dJ _ _ nM;first|rwa [add_block] at this|exact this) lV.out))) _).trans (hHeld.2.2.1)))),((cell_far (p:=⟨iZ,_,none⟩) (by first|exact Nat.ne_of_lt (Nat.lt_of_lt_of_le (by have:=dJ _ _ nK;first|rwa [add_block] at this|exact this) lV.out)|(rw [add_block];exact Nat.ne_of_lt (Nat.lt_of_lt_of_le (by have:=dJ _ _ nK;first|rwa [add_block] at this|exact this) lV.out))|(show (Addr.add _ _).block≠_;rw [add_block];exact Nat.ne_of_lt (Nat.lt_of_lt_of_le (by have:=dJ _ _ nK;first|rwa [add_block] at this|exact this) lV.out))|(dsimp only;exact Nat.ne_of_lt (Nat.lt_of_lt_of_le (by have:=dJ _ _ nK;first|rwa [add_block] at this|exact this) lV.out))) _).trans (((cell_far (p:=⟨iZ,_,none⟩) (by first|exact Nat.ne_of_lt (Nat.lt_of_lt_of_le (by have:=dJ _ _ nK;first|rwa [add_block] at this|exact this) lV.out)|(rw [add_block];exact Nat.ne_of_lt (Nat.lt_of_lt_of_le (by have:=dJ _ _ nK;first|rwa [add_block] at this|exact this) lV.out))|(show (Addr.add _ _).block≠_;rw [add_block];exact Nat.ne_of_lt (Nat.lt_of_lt_of_le (by have:=dJ _ _ nK;first|rwa [add_block] at this|exact this) lV.out))|(dsimp only;exact Nat.ne_of_lt (Nat.lt_of_lt_of_le (by have:=dJ _ _ nK;first|rwa [add_block] at this|exact this) lV.out))) _).trans (hHeld.2.2.2.1)))),((cell_far (p:=⟨iZ,_,none⟩) (by first|exact Nat.ne_of_lt (Nat.lt_of_lt_of_le (by have:=dJ _ _ nJ;first|rwa [add_block] at this|exact this) lV.out)|(rw [add_block];exact Nat.ne_of_lt (Nat.lt_of_lt_of_le (by have:=dJ _ _ nJ;first|rwa [add_block] at this|exact this) lV.out))|(show (Addr.add _ _).block≠_;rw [add_block];exact Nat.ne_of_lt (Nat.lt_of_lt_of_le (by have:=dJ _ _ nJ;first|rwa [add_block] at this|exact this) lV.out))|(dsimp only;exact Nat.ne_of_lt (Nat.lt_of_lt_of_le (by have:=dJ _ _ nJ;first|rwa [add_block] at this|exact this) lV.out))) _).trans (((cell_far (p:=⟨iZ,_,none⟩) (by first|exact Nat.ne_of_lt (Nat.lt_of_lt_of_le (by have:=dJ _ _ nJ;first|rwa [add_block] at this|exact this) lV.out)|(rw [add_block];exact Nat.ne_of_lt (Nat.lt_of_lt_of_le (by have:=dJ _ _ nJ;first|rwa [add_block] at this|exact this) lV.out))|(show (Addr.add _ _).block≠_;rw [add_block];exact Nat.ne_of_lt (Nat.lt_of_lt_of_le (by have:=dJ _ _ nJ;first|rwa [add_block] at this|exact this) lV.out))|(dsimp only;exact Nat.ne_of_lt (Nat.lt_of_lt_of_le (by have:=dJ _ _ nJ;first|rwa [add_block] at this|exact this) lV.out))) _).trans (hHeld.2.2.2.2))))⟩ (fun hHeld=>?_)
       clear hK K;refine sG (rO jA.out aV) ?_
       try go_wp2
       refine bodyPost_ret (iM rfl _ _ iZ 27 #[.int .i64 t112,.int .i64 t113] (0,0) _ rfl (by refine aU ?_;refine bH (cs:=#[.int .i64 t112,.int .i64 0]) ?_ 1 _ rfl;refine aU ?_;refine bH (cs:=#[.int .i64 0,.int .i64 0]) ?_ 0 _ rfl;refine aU ?_;exact iL.out) Try.underlying27 rfl aV) rfl ?_;exact ⟨by first|rfl|(simp [aX,aY] <;> rfl)|(simp [*,aX,aY] <;> rfl),fJ HB.out sH.out xQ.out⟩
      ·rw [if_neg c32] at H;exact absurd H (by simp)
     ·rw [if_neg c31] at H;exact absurd H (by simp)
def dG.f (k:Nat) :Option (Bool):=(kM.f).bind fun t124=>((fC.f).bind fun t127=>((eF.f k t127 1).bind fun tN=>((fC.f).bind fun t134=>((jH.f k t134 (⟨#[98]⟩:ByteArray) (([1,3]:List Int))).bind fun nO=>(if (t124.length:Int)=59 then (if 9<(t124.length:Int) then (if ((aG t124 9).f1)=88 then (if tN.2.1=0 then (if nO.2.1=0 then (if tN.1=3 then (some (nO.1==1)) else (some false)) else (some false)) else (some false)) else (some false)) else (none)) else (some false))))))
theorem dG.mono:∀ k,eG (dG.f k ) (dG.f (k+1) ):=by
 intro  k
 unfold dG.f
 repeat' first
   | (with_reducible exact jH.mono _ _ _ _)
   | (with_reducible exact eF.mono _ _ _)
   | (with_reducible exact eG.refl _)
   | (with_reducible exact eG.none _)
   | (with_reducible refine eG.ite ?_ ?_)
   | (with_reducible refine eG.bind ?_ (fun _=>?_))
   | exact jH.mono _ _ _ _
   | exact eF.mono _ _ _
   | exact eG.none _
   | refine eG.ite ?_ ?_
   | refine eG.bind ?_ (fun _=>?_)
set_option maxHeartbeats 8000000 in
set_option maxRecDepth 100000 in
theorem dG.calls (k:Nat)  (r:Bool) (w:World) (hT:r=true) (h:dG.f k =some r) :
  Calls Try.prog 33 #[] w fun e w'=>e=.returned (.bool r)∧Below w.heap.size w w':=by
 have Eu:=Try.underlying27
 have HT:=aA.mk hT
 clear hT
 have HB:=aA.mk (Below.refl w.heap.size w)
 have H:((kM.f).bind fun t124=>((fC.f).bind fun t127=>((eF.f k t127 1).bind fun tN=>((fC.f).bind fun t134=>((jH.f k t134 (⟨#[98]⟩:ByteArray) (([1,3]:List Int))).bind fun nO=>(if (t124.length:Int)=59 then (if 9<(t124.length:Int) then (if ((aG t124 9).f1)=88 then (if tN.2.1=0 then (if nO.2.1=0 then (if tN.1=3 then (some (nO.1==1)) else (some false)) else (some false)) else (some false)) else (some false)) else (none)) else (some false)))))))=some r:=h
 clear h
 replace H:=Option.bind_eq_some_iff.mp H
 obtain ⟨t124,Dy,H⟩:=H
 replace H:((fC.f).bind fun t127=>((eF.f k t127 1).bind fun tN=>((fC.f).bind fun t134=>((jH.f k t134 (⟨#[98]⟩:ByteArray) (([1,3]:List Int))).bind fun nO=>(if (t124.length:Int)=59 then (if 9<(t124.length:Int) then (if ((aG t124 9).f1)=88 then (if tN.2.1=0 then (if nO.2.1=0 then (if tN.1=3 then (some (nO.1==1)) else (some false)) else (some false)) else (some false)) else (some false)) else (none)) else (some false))))))=some r:=H
 have A1:=aA.mk Dy
 clear Dy
 replace H:=Option.bind_eq_some_iff.mp H
 obtain ⟨t127,GH,H⟩:=H
 replace H:((eF.f k t127 1).bind fun tN=>((fC.f).bind fun t134=>((jH.f k t134 (⟨#[98]⟩:ByteArray) (([1,3]:List Int))).bind fun nO=>(if (t124.length:Int)=59 then (if 9<(t124.length:Int) then (if ((aG t124 9).f1)=88 then (if tN.2.1=0 then (if nO.2.1=0 then (if tN.1=3 then (some (nO.1==1)) else (some false)) else (some false)) else (some false)) else (some false)) else (none)) else (some false)))))=some r:=H
 have A2:=aA.mk GH
 clear GH
 replace H:=Option.bind_eq_some_iff.mp H
 obtain ⟨⟨t130,t131,t132⟩,GN,H⟩:=H
 replace H:((fC.f).bind fun t134=>((jH.f k t134 (⟨#[98]⟩:ByteArray) (([1,3]:List Int))).bind fun nO=>(if (t124.length:Int)=59 then (if 9<(t124.length:Int) then (if ((aG t124 9).f1)=88 then (if t131=0 then (if nO.2.1=0 then (if t130=3 then (some (nO.1==1)) else (some false)) else (some false)) else (some false)) else (some false)) else (none)) else (some false))))=some r:=H
 have A3:=aA.mk GN
 clear GN
 replace H:=Option.bind_eq_some_iff.mp H
 obtain ⟨t134,TT,H⟩:=H
 replace H:((jH.f k t134 (⟨#[98]⟩:ByteArray) (([1,3]:List Int))).bind fun nO=>(if (t124.length:Int)=59 then (if 9<(t124.length:Int) then (if ((aG t124 9).f1)=88 then (if t131=0 then (if nO.2.1=0 then (if t130=3 then (some (nO.1==1)) else (some false)) else (some false)) else (some false)) else (some false)) else (none)) else (some false)))=some r:=H
 have A4:=aA.mk TT
 clear TT
 obtain ⟨Eg,Eh⟩:∃ y_:List Int,y_=(([1,3]:List Int)):=⟨_,rfl⟩
 replace H:((jH.f k t134 (⟨#[98]⟩:ByteArray) Eg).bind fun nO=>(if (t124.length:Int)=59 then (if 9<(t124.length:Int) then (if ((aG t124 9).f1)=88 then (if t131=0 then (if nO.2.1=0 then (if t130=3 then (some (nO.1==1)) else (some false)) else (some false)) else (some false)) else (some false)) else (none)) else (some false)))=some r:=by first|(rw [Eh];with_reducible exact H)|(have EM:=(Option.bind_some _ _).symm.trans H;rw [Eh];with_reducible exact EM)|(have EM:=(Option.bind_some _ _).symm.trans H;with_reducible exact EM)|with_reducible exact H|(rw [Eh];exact H)|exact H
 have Qc:=aA.mk Eh
 clear Eh
 replace H:=Option.bind_eq_some_iff.mp H
 obtain ⟨⟨t140,t141,t142⟩,QH,H⟩:=H
 replace H:(if (t124.length:Int)=59 then (if 9<(t124.length:Int) then (if ((aG t124 9).f1)=88 then (if t131=0 then (if t141=0 then (if t130=3 then (some (t140==1)) else (some false)) else (some false)) else (some false)) else (some false)) else (none)) else (some false))=some r:=H
 have A5:=aA.mk QH
 clear QH
 by_cases c6:(t124.length:Int)=59
 ·rw [if_pos c6] at H
  have BA:((t124.length:Int)==59)=true:=beq_iff_eq.mpr c6
  have JG:((t124.length:Int) != 59)=false:=bne_eq_false_iff_eq.mpr c6
  clear c6
  by_cases c7:9<(t124.length:Int)
  ·rw [if_pos c7] at H;have vF:decide (9<(t124.length:Int))=true:=eH c7;have IK:decide (9<t124.length)=true:=eH (by omega);clear c7
   by_cases c8:((aG t124 9).f1)=88
   ·rw [if_pos c8] at H;have Dt:(((aG t124 9).f1)==88)=true:=beq_iff_eq.mpr c8;have QD:(((aG t124 9).f1) != 88)=false:=bne_eq_false_iff_eq.mpr c8;clear c8
    by_cases c9:t131=0
    ·rw [if_pos c9] at H;have yZ:(t131==0)=true:=beq_iff_eq.mpr c9;have Jw:(t131 != 0)=false:=bne_eq_false_iff_eq.mpr c9;clear c9
     by_cases c10:t141=0
     ·rw [if_pos c10] at H;have qQ:(t141==0)=true:=beq_iff_eq.mpr c10;have Dl:(t141 != 0)=false:=bne_eq_false_iff_eq.mpr c10;clear c10
      by_cases c11:t130=3
      ·rw [if_pos c11] at H;have qR:(t130==3)=true:=beq_iff_eq.mpr c11;have yY:(t130 != 3)=false:=bne_eq_false_iff_eq.mpr c11;clear c11;obtain rfl:=Option.some.inj H
       go_enter Try.func33,Try.ntmps33
       go_wp2_with (first|((with_reducible refine cZ (f:=41) rfl ?_);refine gQ (some 6) rfl rfl Try.func41 aV rfl #[] rfl fU ?_;(with_reducible refine (kM.calls  t124 _ A1.out).mono ?_);rintro e w12 ⟨Ld,rfl,ho0,hb⟩;refine ⟨_,rfl,?_⟩;have bU:=aA.mk (Kd.oV (Kd.gY (ok':=fun k_=>True) ho0 (fun k_ JR=>trivial)) (aQ (bM HB.out)));have bV:=aA.mk (aN (bM HB.out) hb);clear HB;have kG:=bU;have HB:=bV;clear bU bV)|((with_reducible refine cZ (f:=66) rfl ?_);refine gQ (some 8) rfl rfl Try.func66 aV rfl #[] rfl fU ?_;(with_reducible refine (fC.calls  t127 _ A2.out).mono ?_);rintro e w13 ⟨aEr,rfl,ho0,hb⟩;refine ⟨_,rfl,?_⟩;have bU:=aA.mk (Kd.pV (fG kG.out) (Kd.BO ho0) hb);have bV:=aA.mk (Kd.oV (Kd.gY (ok':=fun k_=>some k_≠(Ld:Value).ownBlock) ho0 (fun k_ JR=>(Kd.fresh' (Kd.IU (fG kG.out)) k_ JR))) (aQ (bM HB.out)));have bZ:=aA.mk (aN (bM HB.out) hb);clear kG HB;have kG:=bU;have lQ:=bV;have HB:=bZ;clear bU bV bZ;obtain ⟨Le,Lh,aCc⟩:=Kd.kQ lQ.out;subst aCc)|((with_reducible refine cZ (f:=37) rfl ?_);refine gQ (some 9) rfl rfl Try.func37 aV rfl #[.slice Le t127.length Lh,.int .i64 1] rfl fU ?_;(with_reducible refine (eF.calls k _ _ t127 1 t130 t131 t132 _ ?nS ?nT A3.out).mono ?_);(case nS=>repeat (first|exact (Kd.iK lQ.out).2.2|(with_reducible refine Kd.gZ ?_ _)|(with_reducible refine Kd.iC ?_ _)|(with_reducible refine Kd.iU ?_)));(case nT=>exact (Kd.iK lQ.out).2.1);rintro e w15 ⟨rfl,hb⟩;refine ⟨_,rfl,?_⟩;have bU:=aA.mk (Kd.gJ (fG kG.out) hb);have bV:=aA.mk (Kd.gJ (fG lQ.out) hb);have bZ:=aA.mk (aN (bM HB.out) hb);clear kG lQ HB;have kG:=bU;have lQ:=bV;have HB:=bZ;clear bU bV bZ)|((with_reducible refine bC (N:=3) rfl ?_);refine eX ?hg (N:=3) ?hd (cs:=#[.int .i64 0,.int .i64 0]) (t:=27) ?hr ?_;(case hd=>rfl);(case hg=>rfl);(case hr=>first|(go_simp;done)|(go_simp;rfl));intro jQ hg w16 hbox hb;have bU:=aA.mk (Kd.gJ (Kd.oD (fG kG.out) jQ (Nat.le_of_eq hg.symm)) hb);have bV:=aA.mk (Kd.gJ (Kd.oD (fG lQ.out) jQ (Nat.le_of_eq hg.symm)) hb);have bZ:=aA.mk (aN (bM HB.out) hb);have jF:=aA.mk (hbox);have mQ:=aA.mk ((by rw [hg];exact (aQ (bM HB.out)):w.heap.size≤jQ));have mM:=aA.mk ((by rw [hg];exact (aQ (bM HB.out)):w.heap.size≤jQ));clear kG lQ HB;have kG:=bU;have lQ:=bV;have HB:=bZ;have kX:=jF;have aDF:=mQ;have uO:=mM;clear bU bV bZ jF mQ mM;clear hb hbox hg;have Gm:w16.cell? ⟨jQ,0,none⟩=some (.int .i64 0):=(aJ kX.out 0).trans rfl;have Gn:w16.cell? ⟨jQ,1,none⟩=some (.int .i64 0):=(aJ kX.out 1).trans rfl;have Gp:=aI kX.out 0;have Gq:=aI kX.out 1)|((with_reducible refine cZ (f:=66) rfl ?_);refine gQ (some 13) rfl rfl Try.func66 aV rfl #[] rfl fU ?_;(with_reducible refine (fC.calls  t134 _ A4.out).mono ?_);rintro e w18 ⟨aEs,rfl,ho0,hb⟩;refine ⟨_,rfl,?_⟩;have bU:=aA.mk (Kd.pV (by refine fG ?_;exact (Kd.gY (Kd.mP (p:=⟨jQ,1,none⟩) (Kd.mP (p:=⟨jQ,0,none⟩) (Kd.gY kG.out (fun k_ hk=>(⟨hk,hk.2⟩:_∧k_≠jQ))) (fun _ hk=>hk.2) (.int .i64 t131)) (fun _ hk=>hk.2) (.int .i64 t132)) (fun _ h_=>h_.1))) (Kd.BO ho0) hb);have bV:=aA.mk (Kd.pV (by refine fG ?_;exact (Kd.gY (Kd.mP (p:=⟨jQ,1,none⟩) (Kd.mP (p:=⟨jQ,0,none⟩) (Kd.gY lQ.out (fun k_ hk=>(⟨hk,hk.2⟩:_∧k_≠jQ))) (fun _ hk=>hk.2) (.int .i64 t131)) (fun _ hk=>hk.2) (.int .i64 t132)) (fun _ h_=>h_.1))) (Kd.BO ho0) hb);have bZ:=aA.mk (Kd.oV (Kd.gY (ok':=fun k_=>some k_≠(Ld:Value).ownBlock∧some k_≠(.slice Le t127.length Lh:Value).ownBlock∧k_≠jQ) ho0 (fun k_ JR=>⟨(Kd.fresh' (Kd.IU (by refine fG ?_;exact (Kd.gY (Kd.mP (p:=⟨jQ,1,none⟩) (Kd.mP (p:=⟨jQ,0,none⟩) (Kd.gY kG.out (fun k_ hk=>(⟨hk,hk.2⟩:_∧k_≠jQ))) (fun _ hk=>hk.2) (.int .i64 t131)) (fun _ hk=>hk.2) (.int .i64 t132)) (fun _ h_=>h_.1)))) k_ JR),(Kd.fresh' (Kd.IU (by refine fG ?_;exact (Kd.gY (Kd.mP (p:=⟨jQ,1,none⟩) (Kd.mP (p:=⟨jQ,0,none⟩) (Kd.gY lQ.out (fun k_ hk=>(⟨hk,hk.2⟩:_∧k_≠jQ))) (fun _ hk=>hk.2) (.int .i64 t131)) (fun _ hk=>hk.2) (.int .i64 t132)) (fun _ h_=>h_.1)))) k_ JR),(Kd.Su (g:=jQ) (o:=.cells #[.int .i64 t131,.int .i64 t132] 27 (0,0)) (by refine aU ?_;refine bH (cs:=#[.int .i64 t131,.int .i64 0]) ?_ 1 _ rfl;refine aU ?_;refine bH (cs:=#[.int .i64 0,.int .i64 0]) ?_ 0 _ rfl;refine aU ?_;exact kX.out) k_ JR)⟩)) (aQ (dA HB.out uO.out)));have jF:=aA.mk (bJ (g:=jQ) (o:=.cells #[.int .i64 t131,.int .i64 t132] 27 (0,0)) (by refine aU ?_;refine bH (cs:=#[.int .i64 t131,.int .i64 0]) ?_ 1 _ rfl;refine aU ?_;refine bH (cs:=#[.int .i64 0,.int .i64 0]) ?_ 0 _ rfl;refine aU ?_;exact kX.out) hb);have mQ:=aA.mk (aN (dA HB.out uO.out) hb);clear kG lQ kX HB;have kG:=bU;have lQ:=bV;have pW:=bZ;have kX:=jF;have HB:=mQ;clear bU bV bZ jF mQ)|((with_reducible refine bC (N:=14) rfl ?_);refine Kd.fM (Kd.int .i64) _ 3 ?hg (N:=14) ?hd (xs:=([1,3]:List Int)) (inner:=[.int .i64 1,.int .i64 3]) (ok:=fun _=>True) (jC:=fun _=>True) ?hr ?hp (fun _ hk=>hk) trivial (Below.refl _ _) (Nat.le_refl _) (by simp) ?_;(case hd=>rfl);(case hg=>rfl);(case hr=>first|(go_simp;done)|(go_simp;rfl));(case hp=>exact (dY.one (show Kd.M (Kd.int .i64) _ _ _ 1 [.int .i64 1] from rfl) (dY.one (show Kd.M (Kd.int .i64) _ _ _ 3 [.int .i64 3] from rfl) (dY.none _ _))));intro v138 Jk Ei hb iR cO;clear iR cO;(first|rw [← Qc.out] at Ei|(simp only [Int.reduceToNat] at Ei;rw [← Qc.out] at Ei));have bU:=aA.mk (Kd.pV (fG kG.out) (Kd.CS Ei) hb);have bV:=aA.mk (Kd.pV (fG lQ.out) (Kd.CS Ei) hb);have bZ:=aA.mk (Kd.pV (fG pW.out) (Kd.CS Ei) hb);have jF:=aA.mk (Kd.vJ Ei (aQ (dA HB.out uO.out)));have mQ:=aA.mk (bJ (g:=jQ) (o:=.cells #[.int .i64 t131,.int .i64 t132] 27 (0,0)) (aU kX.out) hb);have mM:=aA.mk (aN (dA HB.out uO.out) hb);clear kG lQ pW kX HB;have kG:=bU;have lQ:=bV;have pW:=bZ;have sJ:=jF;have kX:=mQ;have HB:=mM;clear bU bV bZ jF mQ mM;clear hb Ei;obtain ⟨Oz,OA,aCd⟩:=Kd.kQ pW.out;subst aCd;obtain ⟨Lj,Ll,aCe⟩:=Kd.qF sJ.out;subst aCe)|((with_reducible refine cZ (f:=39) rfl ?_);refine gQ (some 15) rfl rfl Try.func39 aV rfl #[.slice Oz t134.length OA,.string (⟨#[98]⟩:ByteArray),.slice Lj Eg.length Ll] rfl fU ?_;(with_reducible refine (jH.calls k _ _ t134 (⟨#[98]⟩:ByteArray) _ _ Eg t140 t141 t142 _ ?nS ?nT ?vN ?vO A5.out).mono ?_);(case nS=>repeat (first|exact (Kd.iK pW.out).2.2|(with_reducible refine Kd.gZ ?_ _)|(with_reducible refine Kd.iC ?_ _)|(with_reducible refine Kd.iU ?_)));(case nT=>exact (Kd.iK pW.out).2.1);(case vN=>repeat (first|exact (Kd.lN sJ.out).2.2|(with_reducible refine Kd.gZ ?_ _)|(with_reducible refine Kd.iC ?_ _)|(with_reducible refine Kd.iU ?_)));(case vO=>exact (Kd.lN sJ.out).2.1);rintro e w23 ⟨rfl,hb⟩;refine ⟨_,rfl,?_⟩;have bU:=aA.mk (Kd.gJ (fG kG.out) hb);have bV:=aA.mk (Kd.gJ (fG lQ.out) hb);have bZ:=aA.mk (Kd.gJ (fG pW.out) hb);have jF:=aA.mk (Kd.dN (xP sJ.out) hb);have mQ:=aA.mk (bJ (g:=jQ) (o:=.cells #[.int .i64 t131,.int .i64 t132] 27 (0,0)) (aU kX.out) hb);have mM:=aA.mk (aN (dA HB.out uO.out) hb);clear kG lQ pW sJ kX HB;have kG:=bU;have lQ:=bV;have pW:=bZ;have sJ:=jF;have kX:=mQ;have HB:=mM;clear bU bV bZ jF mQ mM)|((with_reducible refine bC (N:=5) rfl ?_);refine eX ?hg (N:=5) ?hd (cs:=#[.int .i64 0,.int .i64 0]) (t:=27) ?hr ?_;(case hd=>rfl);(case hg=>rfl);(case hr=>first|(go_simp;done)|(go_simp;rfl));intro kN hg w24 hbox hb;have bU:=aA.mk (Kd.gJ (Kd.oD (fG kG.out) kN (Nat.le_of_eq hg.symm)) hb);have bV:=aA.mk (Kd.gJ (Kd.oD (fG lQ.out) kN (Nat.le_of_eq hg.symm)) hb);have bZ:=aA.mk (Kd.gJ (Kd.oD (fG pW.out) kN (Nat.le_of_eq hg.symm)) hb);have jF:=aA.mk (Kd.dN (xP sJ.out) hb);have mQ:=aA.mk (bJ (g:=jQ) (o:=.cells #[.int .i64 t131,.int .i64 t132] 27 (0,0)) (aU kX.out) hb);have mM:=aA.mk (aN (dA HB.out uO.out) hb);have sF:=aA.mk (hbox);have xA:=aA.mk ((by rw [hg];exact (aQ (dA HB.out uO.out)):w.heap.size≤kN));have Ac:=aA.mk ((by rw [hg];exact (aQ (dA HB.out uO.out)):w.heap.size≤kN));have UI:=aA.mk ((by rw [hg];exact Nat.ne_of_lt (gU (g:=jQ) (o:=.cells #[.int .i64 t131,.int .i64 t132] 27 (0,0)) (aU kX.out)):jQ≠kN));have Kr:=aA.mk ((by rw [hg];exact Nat.ne_of_gt (gU (g:=jQ) (o:=.cells #[.int .i64 t131,.int .i64 t132] 27 (0,0)) (aU kX.out)):kN≠jQ));clear kG lQ pW sJ kX HB;have kG:=bU;have lQ:=bV;have pW:=bZ;have sJ:=jF;have kX:=mQ;have HB:=mM;have sK:=sF;have aDG:=xA;have Qd:=Ac;have xE:=UI;have Ja:=Kr;clear bU bV bZ jF mQ mM sF xA Ac UI Kr;clear hb hbox hg;have aDH:=Ja.out;have aDI:=xE.out;have YL:w24.cell? ⟨kN,0,none⟩=some (.int .i64 0):=(aJ sK.out 0).trans rfl;have YM:w24.cell? ⟨kN,1,none⟩=some (.int .i64 0):=(aJ sK.out 1).trans rfl;have YN:=aI sK.out 0;have YO:=aI sK.out 1)|((with_reducible refine FM (t:=27) (p:=5) rfl ?_);refine Ej (t:=27) (p:=5) (v:=?aCf) (w1:=((w24.setCell ⟨kN,0,none⟩ (.int .i64 t141)).setCell ⟨kN,1,none⟩ (.int .i64 t142))) ?hg ?ho ?hn ?hr ?_;(case ho=>rfl);(case hg=>rfl);(case hn=>rfl);(case hr=>first|(go_simp;done)|(go_simp;rfl));intro Jl hw;have bU:aA (Kd.N rC 54 Jl w.heap.size (fun k_=>some k_≠(.slice Le t127.length Lh:Value).ownBlock∧some k_≠(.slice Oz t134.length OA:Value).ownBlock∧some k_≠(.slice Lj Eg.length Ll:Value).ownBlock∧k_≠jQ∧k_≠kN) Ld t124):=⟨(by rw [hw];exact (by refine fG ?_;exact Kd.gY (Kd.mP (p:=⟨kN,1,none⟩) (Kd.mP (p:=⟨kN,0,none⟩) (Kd.gY kG.out (fun k_ hk=>(⟨hk,hk.2⟩:_∧k_≠kN))) (fun _ hk=>hk.2) (.int .i64 t141)) (fun _ hk=>hk.2) (.int .i64 t142)) (fun _ hk=>⟨hk.1.1.1.1.1.2,⟨hk.1.1.1.2,⟨hk.1.1.2,⟨hk.1.1.1.1.2,hk.1.2⟩⟩⟩⟩)))⟩;have bV:aA (Kd.N rC 54 Jl w.heap.size (fun k_=>some k_≠(Ld:Value).ownBlock∧some k_≠(.slice Oz t134.length OA:Value).ownBlock∧some k_≠(.slice Lj Eg.length Ll:Value).ownBlock∧k_≠jQ∧k_≠kN) (.slice Le t127.length Lh) t127):=⟨(by rw [hw];exact (by refine fG ?_;exact Kd.gY (Kd.mP (p:=⟨kN,1,none⟩) (Kd.mP (p:=⟨kN,0,none⟩) (Kd.gY lQ.out (fun k_ hk=>(⟨hk,hk.2⟩:_∧k_≠kN))) (fun _ hk=>hk.2) (.int .i64 t141)) (fun _ hk=>hk.2) (.int .i64 t142)) (fun _ hk=>⟨hk.1.1.1.1.1,⟨hk.1.1.1.2,⟨hk.1.1.2,⟨hk.1.1.1.1.2,hk.1.2⟩⟩⟩⟩)))⟩;have bZ:aA (Kd.N rC 54 Jl w.heap.size (fun k_=>some k_≠(Ld:Value).ownBlock∧some k_≠(.slice Le t127.length Lh:Value).ownBlock∧some k_≠(.slice Lj Eg.length Ll:Value).ownBlock∧k_≠jQ∧k_≠kN) (.slice Oz t134.length OA) t134):=⟨(by rw [hw];exact (by refine fG ?_;exact Kd.gY (Kd.mP (p:=⟨kN,1,none⟩) (Kd.mP (p:=⟨kN,0,none⟩) (Kd.gY pW.out (fun k_ hk=>(⟨hk,hk.2⟩:_∧k_≠kN))) (fun _ hk=>hk.2) (.int .i64 t141)) (fun _ hk=>hk.2) (.int .i64 t142)) (fun _ hk=>⟨hk.1.1.1.1,⟨hk.1.1.1.2.1,⟨hk.1.1.2,⟨hk.1.1.1.2.2,hk.1.2⟩⟩⟩⟩)))⟩;have jF:aA (Kd.R (Kd.int .i64) 3 Jl w.heap.size (fun _=>True) (.slice Lj Eg.length Ll) Eg):=⟨(by rw [hw];exact (by refine xP ?_;exact Kd.mD (Kd.Qe (p:=⟨kN,1,none⟩) (Kd.Qe (p:=⟨kN,0,none⟩) (Kd.Iy sJ.out sK.out (by decide)) (fun _ hk=>hk.2) (.int .i64 t141)) (fun _ hk=>hk.2) (.int .i64 t142)) (fun _ hk=>trivial)))⟩;have mQ:aA (Jl.heap[jQ]?=some (.cells #[.int .i64 t131,.int .i64 t132] 27 (0,0))):=⟨(by rw [hw];exact (by refine aU ?_;refine fO ?_ xE.out _;refine aU ?_;refine fO ?_ xE.out _;refine aU ?_;exact kX.out))⟩;have mM:aA (Jl.heap[kN]?=some (.cells #[.int .i64 t141,.int .i64 t142] 27 (0,0))):=⟨(by rw [hw];exact (by refine aU ?_;refine bH (cs:=#[.int .i64 t141,.int .i64 0]) ?_ 1 _ rfl;refine aU ?_;refine bH (cs:=#[.int .i64 0,.int .i64 0]) ?_ 0 _ rfl;refine aU ?_;exact sK.out))⟩;have sF:aA (Below w.heap.size w Jl):=⟨(by rw [hw];exact (fJ HB.out uO.out Qd.out))⟩;clear hw kG lQ pW sJ kX sK HB;have kG:=bU;have lQ:=bV;have pW:=bZ;have sJ:=jF;have kX:=mQ;have sK:=mM;have HB:=sF;clear bU bV bZ jF mQ mM sF;obtain ⟨ZI,ZJ,NH⟩:=Kd.kQ kG.out;subst NH;have OB:0≤(9:Int):=(by omega);have OC:9<(t124.length:Int):=dW dX;obtain ⟨aDJ,aCg,aCh,aCi,CU,CV,yR,Iz,IA⟩:=lC (Kd.iK kG.out).2.2 9 OB OC;cases aCi;obtain ⟨aDK,Sv,Sz,Lm⟩:=Kd.xO kG.out z54 9 OB (by first|exact OC|exact dW dX|(have e_:=(Kd.iK kG.out).1;omega));obtain ⟨YP,YQ,rfl,CW,CX⟩:=oI Sz;have yS:=Lm 2 _ rfl;rw [mJ _ _ 2 (by omega)] at yS;replace yS:=Option.some.inj (yS.symm.trans yR);injection yS with pR uV pU;rw [pR] at CX;rw [pU] at CW;have YR:=aA.mk (show Kd.V (Kd.int .i64) 3 _ w.heap.size _ _ ((aG t124 9).f2) from Kd.DJ CW CX);clear pR uV pU CX CW;clear Lm Sv;(try simp only [show (9:Int).toNat=9 from rfl,Nat.reduceMul,Nat.reduceEqDiff,Go.Addr.add,↓reduceIte] at CU);(try simp only [show (9:Int).toNat=9 from rfl,Nat.reduceMul,Nat.reduceEqDiff,Go.Addr.add,↓reduceIte] at CV);(try simp only [show (9:Int).toNat=9 from rfl,Nat.reduceMul,Nat.reduceEqDiff,Go.Addr.add,↓reduceIte] at yR);have aDL:(9<t124.length)=True:=eq_true (by omega);(try rw [show ((9:Int)).toNat=9 from rfl] at CU);(try rw [show 9*3=27 from rfl] at CU);(try rw [show ((9:Int)).toNat=9 from rfl] at CV);(try rw [show 9*3=27 from rfl] at CV);(try rw [show ((9:Int)).toNat=9 from rfl] at yR);(try rw [show 9*3=27 from rfl] at yR);have YS:=aA.mk IA;have YT:=aA.mk Iz;clear IA Iz;replace OB:=eq_true OB;replace OC:=eq_true OC;have MI:Jl.cell? ⟨jQ,0,none⟩=some (.int .i64 t131):=(aJ kX.out 0).trans rfl;have MJ:Jl.cell? ⟨jQ,1,none⟩=some (.int .i64 t132):=(aJ kX.out 1).trans rfl;have MK:=aI kX.out 0;have ML:=aI kX.out 1;have Gx:Jl.cell? ⟨kN,0,none⟩=some (.int .i64 t141):=(aJ sK.out 0).trans rfl;have Gy:Jl.cell? ⟨kN,1,none⟩=some (.int .i64 t142):=(aJ sK.out 1).trans rfl;have Gz:=aI sK.out 0;have GG:=aI sK.out 1))
       go_ret
       exact ⟨by first|rfl|(simp [aX,aY] <;> rfl)|(simp [*,aX,aY] <;> rfl),fJ HB.out uO.out Qd.out⟩
      ·rw [if_neg c11] at H;have qR:(t130==3)=false:=beq_eq_false_iff_ne.mpr c11;have yY:(t130 != 3)=true:=bne_iff_ne.mpr c11;exact absurd ((Option.some.inj H).trans HT.out) (by decide)
     ·rw [if_neg c10] at H;have qQ:(t141==0)=false:=beq_eq_false_iff_ne.mpr c10;have Dl:(t141 != 0)=true:=bne_iff_ne.mpr c10;exact absurd ((Option.some.inj H).trans HT.out) (by decide)
    ·rw [if_neg c9] at H;have yZ:(t131==0)=false:=beq_eq_false_iff_ne.mpr c9;have Jw:(t131 != 0)=true:=bne_iff_ne.mpr c9;exact absurd ((Option.some.inj H).trans HT.out) (by decide)
   ·rw [if_neg c8] at H;have Dt:(((aG t124 9).f1)==88)=false:=beq_eq_false_iff_ne.mpr c8;have QD:(((aG t124 9).f1) != 88)=true:=bne_iff_ne.mpr c8;exact absurd ((Option.some.inj H).trans HT.out) (by decide)
  ·rw [if_neg c7] at H;exact absurd H (by simp)
 ·rw [if_neg c6] at H
  have BA:((t124.length:Int)==59)=false:=beq_eq_false_iff_ne.mpr c6
  have JG:((t124.length:Int) != 59)=true:=bne_iff_ne.mpr c6
  exact absurd ((Option.some.inj H).trans HT.out) (by decide)
end Go.Proofs.Ytipjpdiianopcaa.E
