/- Words and contracts for the laws. -/
import Derived.Test.YtipjpdiianopcaarAx0
import Derived.Test.YtipjpdiianopcaarAx5
namespace Go.Proofs.Ytipjpdiianopcaa.A
open Go.RowKit Go.Proofs.YtipjpdiianopcaaW.aZ Go.Proofs.YtipjpdiianopcaaW.dQ Go.Proofs.YtipjpdiianopcaaW.gW
attribute [local go_sem] jY jZ kY kZ jD jE kC kD
set_option linter.unusedVariables false
set_option linter.unusedSimpArgs false
mutual
def dK.j0:Nat→Bool→ByteArray→Int→List Int→Option (Int)
 | 0,_,_,_,_=>none
 | k+1,x11,VT,VU,BB=>if x11=true then (some 3) else (if (BB.length:Int)>4 then (some 2) else (dK.l0 k 0 BB (BB.length:Int) 0))
def dK.l0:Nat→Int→List Int→Int→Int→Option (Int)
 | 0,_,_,_,_=>none
 | k+1,x3,Jy,x27,x28=>if x28<x27 then (if 0≤x28 then (if x28<(Jy.length:Int) then (if (rd Jy x28)<1 then (dK.j2 k x3 (rd Jy x28) Jy x27 x28 true) else (dK.j2 k x3 (rd Jy x28) Jy x27 x28 (decide ((rd Jy x28)>6)))) else (none)) else (none)) else (if x3>1 then (some 5) else (some 0))
def dK.j2:Nat→Int→Int→List Int→Int→Int→Bool→Option (Int)
 | 0,_,_,_,_,_,_=>none
 | k+1,x3,x5,Jy,x27,x28,x37=>if x37=true then (some 4) else (if x5≥5 then (dK.l0 k (wrap64 (x3+1)) Jy x27 (wrap64 (x28+1))) else (dK.l0 k x3 Jy x27 (wrap64 (x28+1))))
end
def dK.f (k:Nat) (iH:ByteArray) (iI:Int) (dS:List Int):Option (Int):=(bY.f k iH).bind fun IM=>(if IM=true then (if iI<0 then (dK.j0 k true iH iI dS) else (dK.j0 k (decide (iI>255)) iH iI dS)) else (some 12))
theorem dK.iW:∀ k,(∀ y0 y1 y2 y3,eG (dK.j0 k y0 y1 y2 y3) (dK.j0 (k+1) y0 y1 y2 y3))∧(∀ y0 y1 y2 y3,eG (dK.l0 k y0 y1 y2 y3) (dK.l0 (k+1) y0 y1 y2 y3))∧(∀ y0 y1 y2 y3 y4 y5,eG (dK.j2 k y0 y1 y2 y3 y4 y5) (dK.j2 (k+1) y0 y1 y2 y3 y4 y5))
 | 0=>⟨fun _ _ _ _ r h=>by simp [dK.j0] at h,fun _ _ _ _ r h=>by simp [dK.l0] at h,fun _ _ _ _ _ _ r h=>by simp [dK.j2] at h⟩
 | k+1=>by
  obtain ⟨lZ,ih1,ih2⟩:=dK.iW k
  refine ⟨?_,?_,?_⟩
  ·intro y0 y1 y2 y3;unfold dK.j0
   repeat' first
   | (with_reducible exact lZ _ _ _ _)
   | (with_reducible exact ih1 _ _ _ _)
   | (with_reducible exact ih2 _ _ _ _ _ _)
   | (with_reducible exact bY.mono _ _)
   | (with_reducible exact eG.refl _)
   | (with_reducible exact eG.none _)
   | (with_reducible refine eG.ite ?_ ?_)
   | (with_reducible refine eG.bind ?_ (fun _=>?_))
   | exact lZ _ _ _ _
   | exact ih1 _ _ _ _
   | exact ih2 _ _ _ _ _ _
   | exact bY.mono _ _
   | exact eG.none _
   | refine eG.ite ?_ ?_
   | refine eG.bind ?_ (fun _=>?_)
  ·intro y0 y1 y2 y3;unfold dK.l0
   repeat' first
   | (with_reducible exact lZ _ _ _ _)
   | (with_reducible exact ih1 _ _ _ _)
   | (with_reducible exact ih2 _ _ _ _ _ _)
   | (with_reducible exact bY.mono _ _)
   | (with_reducible exact eG.refl _)
   | (with_reducible exact eG.none _)
   | (with_reducible refine eG.ite ?_ ?_)
   | (with_reducible refine eG.bind ?_ (fun _=>?_))
   | exact lZ _ _ _ _
   | exact ih1 _ _ _ _
   | exact ih2 _ _ _ _ _ _
   | exact bY.mono _ _
   | exact eG.none _
   | refine eG.ite ?_ ?_
   | refine eG.bind ?_ (fun _=>?_)
  ·intro y0 y1 y2 y3 y4 y5;unfold dK.j2
   repeat' first
   | (with_reducible exact lZ _ _ _ _)
   | (with_reducible exact ih1 _ _ _ _)
   | (with_reducible exact ih2 _ _ _ _ _ _)
   | (with_reducible exact bY.mono _ _)
   | (with_reducible exact eG.refl _)
   | (with_reducible exact eG.none _)
   | (with_reducible refine eG.ite ?_ ?_)
   | (with_reducible refine eG.bind ?_ (fun _=>?_))
   | exact lZ _ _ _ _
   | exact ih1 _ _ _ _
   | exact ih2 _ _ _ _ _ _
   | exact bY.mono _ _
   | exact eG.none _
   | refine eG.ite ?_ ?_
   | refine eG.bind ?_ (fun _=>?_)
theorem dK.mono:∀ a0 a1 a2 k,eG (dK.f k a0 a1 a2) (dK.f (k+1) a0 a1 a2):=by
 intro a0 a1 a2 k
 obtain ⟨lZ,ih1,ih2⟩:=dK.iW k
 unfold dK.f
 repeat' first
   | (with_reducible exact lZ _ _ _ _)
   | (with_reducible exact ih1 _ _ _ _)
   | (with_reducible exact ih2 _ _ _ _ _ _)
   | (with_reducible exact bY.mono _ _)
   | (with_reducible exact eG.refl _)
   | (with_reducible exact eG.none _)
   | (with_reducible refine eG.ite ?_ ?_)
   | (with_reducible refine eG.bind ?_ (fun _=>?_))
   | exact lZ _ _ _ _
   | exact ih1 _ _ _ _
   | exact ih2 _ _ _ _ _ _
   | exact bY.mono _ _
   | exact eG.none _
   | refine eG.ite ?_ ?_
   | refine eG.bind ?_ (fun _=>?_)
set_option maxHeartbeats 8000000 in
set_option maxRecDepth 100000 in
theorem dK.calls (k:Nat) (iH:ByteArray) (iI:Int) (kU:Option Addr) (kR:Nat) (dS:List Int) (r:Int) (w:World) (sS:Kd.C (Kd.int .i64) w kU dS.length dS) (sU:dS.length≤kR) (h:dK.f k iH iI dS=some r) :
  Calls Try.prog 68 #[.agg #[.string iH,.int .i64 iI,.slice kU dS.length kR]] w fun e w'=>e=.returned (.int .i64 r)∧Below w.heap.size w w':=by
 have vH:=Try.underlying54
 have uH:=aA.mk sS
 have Du:=aA.mk sU
 clear sS sU
 have HB:=aA.mk (Below.refl w.heap.size w)
 have H:((bY.f k iH).bind fun IM=>(if IM=true then (if iI<0 then (dK.j0 k true iH iI dS) else (dK.j0 k (decide (iI>255)) iH iI dS)) else (some 12)))=some r:=h
 clear h
 replace H:=Option.bind_eq_some_iff.mp H
 obtain ⟨IM,GH,H⟩:=H
 replace H:(if IM=true then (if iI<0 then (dK.j0 k true iH iI dS) else (dK.j0 k (decide (iI>255)) iH iI dS)) else (some 12))=some r:=H
 have A2:=aA.mk GH
 clear GH
 by_cases c3:IM=true
 ·subst c3
  have H1:(if iI<0 then (dK.j0 k true iH iI dS) else (dK.j0 k (decide (iI>255)) iH iI dS))=some r:=by rw [if_pos rfl] at H;exact H
  clear H
  have H:=H1
  clear H1
  have Jz:=aA.mk H
  clear H
  go_enter Try.func68,Try.ntmps68
  go_upto_region 3 with (first|((with_reducible refine bC (N:=1) rfl ?_);refine eX ?hg (N:=1) ?hd (cs:=#[.string iH,.int .i64 iI,.slice kU dS.length kR]) (t:=54) ?hr ?_;(case hd=>rfl);(case hg=>rfl);(case hr=>first|(go_simp;done)|(go_simp;rfl));intro kW hg w5 hbox hb;have bU:=aA.mk (aN (bM HB.out) hb);have bV:=aA.mk (hbox);have bZ:=aA.mk ((by rw [hg];exact (aQ (bM HB.out)):w.heap.size≤kW));have jF:=aA.mk ((by rw [hg];exact (aQ (bM HB.out)):w.heap.size≤kW));clear HB;have HB:=bU;have iF:=bV;have TL:=bZ;have qE:=jF;clear bU bV bZ jF;clear hb hbox hg;have Ew:w5.cell? ⟨kW,0,none⟩=some (.string iH):=(aJ iF.out 0).trans rfl;have Ey:w5.cell? ⟨kW,1,none⟩=some (.int .i64 iI):=(aJ iF.out 1).trans rfl;have Qu:w5.cell? ⟨kW,2,none⟩=some (.slice kU dS.length kR):=(aJ iF.out 2).trans rfl;have Ez:=aI iF.out 0;have EC:=aI iF.out 1;have Qv:=aI iF.out 2)|((with_reducible refine cZ (f:=83) rfl ?_);refine gQ (some 9) rfl rfl Try.func83 aV rfl #[.string iH] rfl fU ?_;(with_reducible refine (bY.calls k iH true _ A2.out).mono ?_);rintro e w' ⟨rfl,⟨nd,rfl⟩⟩;refine ⟨_,rfl,?_⟩))
  (try simp only [Act.put,Aq,Ar,Au])
  go_cut [11] (fun v11 wc=>∃ (kq:Nat) (GI:Bool),v11=.bool GI∧aA (dK.j0 kq GI iH iI dS=some r)∧aA (kq≤k)∧aA (wc.heap[kW]?=some (.cells #[.string iH,.int .i64 iI,(.slice kU dS.length kR)] 54 (0,0)))∧aA (Below w.heap.size w wc))
  case first =>
   have H:=Jz.out;clear Jz
   by_cases c7:iI<0
   ·rw [if_pos c7] at H;have vF:decide (iI<0)=true:=eH c7;clear c7
    (first|rw [vF]|(simp only [lK,lM];rw [vF])|skip)
    have H':=aA.mk H;clear H;have Jm:w5.cell? ⟨kW,0,none⟩=some (.string iH):=(aJ iF.out 0).trans rfl;have Jn:w5.cell? ⟨kW,1,none⟩=some (.int .i64 iI):=(aJ iF.out 1).trans rfl;have Qw:w5.cell? ⟨kW,2,none⟩=some (.slice kU dS.length kR):=(aJ iF.out 2).trans rfl;have Jo:=aI iF.out 0;have Jp:=aI iF.out 1;have Qx:=aI iF.out 2
    go_wp2
    go_meet
    case rel=>exact ⟨_,(true),fB,H',⟨by first|omega|exact Nat.le_refl _⟩,⟨by refine aU ?_;exact iF.out⟩,⟨dA HB.out qE.out⟩⟩
   ·rw [if_neg c7] at H;have vF:decide (iI<0)=false:=iE c7;clear c7
    (first|rw [vF]|(simp only [lK,lM];rw [vF])|skip)
    have H':=aA.mk H;clear H;have JA:w5.cell? ⟨kW,0,none⟩=some (.string iH):=(aJ iF.out 0).trans rfl;have JB:w5.cell? ⟨kW,1,none⟩=some (.int .i64 iI):=(aJ iF.out 1).trans rfl;have Qy:w5.cell? ⟨kW,2,none⟩=some (.slice kU dS.length kR):=(aJ iF.out 2).trans rfl;have JC:=aI iF.out 0;have JD:=aI iF.out 1;have Qz:=aI iF.out 2
    go_wp2
    go_meet
    case rel=>exact ⟨_,(decide (iI>255)),fB,H',⟨by first|omega|exact Nat.le_refl _⟩,⟨by refine aU ?_;exact iF.out⟩,⟨dA HB.out qE.out⟩⟩
  case rest =>
   clear Jz;obtain ⟨kq,GI,rfl,HA,Mc,iF,HB⟩:=hcut
   cases kq with
   | zero=>exact absurd HA.out (by simp [dK.j0])
   | succ Md =>
    have H:=HA.out;clear HA;simp only [dK.j0] at H
    by_cases c10:GI=true
    ·subst c10;have H1:(some 3)=some r:=by rw [if_pos rfl] at H;exact H
     clear H;have H:=H1;clear H1;obtain rfl:=Option.some.inj H
     go_wp2
     go_ret
     exact ⟨by first|rfl|(simp [aX,aY] <;> rfl)|(simp [*,aX,aY] <;> rfl),dA HB.out qE.out⟩
    ·replace c10:=Bool.eq_false_iff.mpr c10;subst c10;have H1:(if (dS.length:Int)>4 then (some 2) else (dK.l0 Md 0 dS (dS.length:Int) 0))=some r:=by rw [if_neg (show ¬ (false=true) by decide)] at H;exact H
     clear H;have H:=H1;clear H1
     by_cases c11:(dS.length:Int)>4
     ·rw [if_pos c11] at H;have qR:decide (4<(dS.length:Int))=true:=eH c11;have yY:decide (4<dS.length)=true:=eH (by omega);clear c11;obtain rfl:=Option.some.inj H;have VV:wc.cell? ⟨kW,0,none⟩=some (.string iH):=(aJ iF.out 0).trans rfl;have VW:wc.cell? ⟨kW,1,none⟩=some (.int .i64 iI):=(aJ iF.out 1).trans rfl;have VX:wc.cell? ⟨kW,2,none⟩=some (.slice kU dS.length kR):=(aJ iF.out 2).trans rfl;have VY:=aI iF.out 0;have VZ:=aI iF.out 1;have We:=aI iF.out 2
      go_wp2
      go_ret
      exact ⟨by first|rfl|(simp [aX,aY] <;> rfl)|(simp [*,aX,aY] <;> rfl),dA HB.out qE.out⟩
     ·rw [if_neg c11] at H;have qR:decide (4<(dS.length:Int))=false:=iE c11;have yY:decide (4<dS.length)=false:=iE (by omega);clear c11;have H':=aA.mk H;clear H;have Bj:wc.cell? ⟨kW,0,none⟩=some (.string iH):=(aJ iF.out 0).trans rfl;have Bl:wc.cell? ⟨kW,1,none⟩=some (.int .i64 iI):=(aJ iF.out 1).trans rfl;have MO:wc.cell? ⟨kW,2,none⟩=some (.slice kU dS.length kR):=(aJ iF.out 2).trans rfl;have Bo:=aI iF.out 0;have Bq:=aI iF.out 1;have MP:=aI iF.out 2
      go_wp2
      go_loopg [3,28] Md (fun kq v3 v28 w'=>∃ (zA:Int) (kS:Int),v3=.int .i64 zA∧v28=.int .i64 kS∧aA (dK.l0 kq zA dS (dS.length:Int) kS=some r)∧aA (kq≤Md)∧aA (w'.heap[kW]?=some (.cells #[.string iH,.int .i64 iI,(.slice kU dS.length kR)] 54 (0,0)))∧aA (Below w.heap.size w w'))
      case atStart=>exact ⟨(0),(0),fB,fB,H',⟨Nat.le_refl _⟩,⟨by refine aU ?_;exact iF.out⟩,⟨dA HB.out qE.out⟩⟩
      case round =>
       clear H';obtain ⟨zA,kS,rfl,rfl,HA,Dk,iF,HB⟩:=hrel
       cases gk with
       | zero=>exact absurd HA.out (by simp [dK.l0])
       | succ k2 =>
        have H:=HA.out;clear HA;simp only [dK.l0] at H
        by_cases c14:kS<(dS.length:Int)
        ·rw [if_pos c14] at H;have vI:decide (kS<(dS.length:Int))=true:=eH c14;clear c14
         by_cases c15:0≤kS
         ·rw [if_pos c15] at H;have xJ:decide (0≤kS)=true:=eH c15;clear c15
          by_cases c16:kS<(dS.length:Int)
          ·rw [if_pos c16] at H;have PG:decide (kS<(dS.length:Int))=true:=eH c16;clear c16;have QA:=aA.mk H;clear H;have QB:0≤(kS:Int):=dW dX;have QC:kS<(dS.length:Int):=dW dX;obtain ⟨TM,Zb,BC⟩:=Kd.lU uH.out kS QB QC
           cases Zb
           replace BC:=(HB.out.cell (dJ w _ BC)).trans BC;replace QB:=eq_true QB;replace QC:=eq_true QC;go_upto_region 11 with (fail)
           go_cut [37] (fun v37 wc=>∃ (kq:Nat) (BD:Bool),v37=.bool BD∧aA (dK.j2 kq zA (rd dS kS) dS (dS.length:Int) kS BD=some r)∧aA (kq≤k2)∧aA (wc.heap[kW]?=some (.cells #[.string iH,.int .i64 iI,(.slice (some TM) dS.length kR)] 54 (0,0)))∧aA (Below w.heap.size w wc))
           case first =>
            have H:=QA.out;clear QA
            by_cases c18:(rd dS kS)<1
            ·rw [if_pos c18] at H;have Dv:decide ((rd dS kS)<1)=true:=eH c18;clear c18
             (first|rw [Dv]|(simp only [lK,lM];rw [Dv])|skip)
             have H':=aA.mk H;clear H
             go_wp2
             go_meet
             case rel=>exact ⟨_,(true),fB,H',⟨by have:=Mc.out;have:=Dk.out;first|omega|exact Nat.le_refl _⟩,⟨by refine aU ?_;exact iF.out⟩,⟨dA HB.out qE.out⟩⟩
            ·rw [if_neg c18] at H;have Dv:decide ((rd dS kS)<1)=false:=iE c18;clear c18
             (first|rw [Dv]|(simp only [lK,lM];rw [Dv])|skip)
             have H':=aA.mk H;clear H
             go_wp2
             go_meet
             case rel=>exact ⟨_,(decide ((rd dS kS)>6)),fB,H',⟨by have:=Mc.out;have:=Dk.out;first|omega|exact Nat.le_refl _⟩,⟨by refine aU ?_;exact iF.out⟩,⟨dA HB.out qE.out⟩⟩
           case rest =>
            clear QA;obtain ⟨kq,BD,rfl,HA,MQ,iF,HB⟩:=hcut
            cases kq with
            | zero=>exact absurd HA.out (by simp [dK.j2])
            | succ MR =>
             have H:=HA.out;clear HA;simp only [dK.j2] at H
             by_cases c19:BD=true
             ·subst c19;have H1:(some 4)=some r:=by rw [if_pos rfl] at H;exact H
              clear H;have H:=H1;clear H1;obtain rfl:=Option.some.inj H
              go_wp2
              go_ret
              exact ⟨by first|rfl|(simp [aX,aY] <;> rfl)|(simp [*,aX,aY] <;> rfl),dA HB.out qE.out⟩
             ·replace c19:=Bool.eq_false_iff.mpr c19;subst c19;have H1:(if (rd dS kS)≥5 then (dK.l0 MR (wrap64 (zA+1)) dS (dS.length:Int) (wrap64 (kS+1))) else (dK.l0 MR zA dS (dS.length:Int) (wrap64 (kS+1))))=some r:=by rw [if_neg (show ¬ (false=true) by decide)] at H;exact H
              clear H;have H:=H1;clear H1
              by_cases c20:(rd dS kS)≥5
              ·rw [if_pos c20] at H;have JE:decide (5≤(rd dS kS))=true:=eH c20;clear c20;have H':=aA.mk H;clear H
               go_wp2
               go_roundg MR
               case measure=>have:=Mc.out;have:=Dk.out;have:=MQ.out;omega
               case rel=>exact ⟨(wrap64 (zA+1)),(wrap64 (kS+1)),fB,fB,H',⟨by have:=Mc.out;have:=Dk.out;have:=MQ.out;omega⟩,⟨by refine aU ?_;exact iF.out⟩,⟨dA HB.out qE.out⟩⟩
              ·rw [if_neg c20] at H;have JE:decide (5≤(rd dS kS))=false:=iE c20;clear c20;have H':=aA.mk H;clear H
               go_wp2
               go_roundg MR
               case measure=>have:=Mc.out;have:=Dk.out;have:=MQ.out;omega
               case rel=>exact ⟨(zA),(wrap64 (kS+1)),fB,fB,H',⟨by have:=Mc.out;have:=Dk.out;have:=MQ.out;omega⟩,⟨by refine aU ?_;exact iF.out⟩,⟨dA HB.out qE.out⟩⟩
          ·rw [if_neg c16] at H;exact absurd H (by simp)
         ·rw [if_neg c15] at H;exact absurd H (by simp)
        ·rw [if_neg c14] at H;have vI:decide (kS<(dS.length:Int))=false:=iE c14;clear c14
         by_cases c21:zA>1
         ·rw [if_pos c21] at H;have GK:decide (1<zA)=true:=eH c21;clear c21;obtain rfl:=Option.some.inj H
          go_wp2
          go_ret
          exact ⟨by first|rfl|(simp [aX,aY] <;> rfl)|(simp [*,aX,aY] <;> rfl),dA HB.out qE.out⟩
         ·rw [if_neg c21] at H;have GK:decide (1<zA)=false:=iE c21;clear c21;obtain rfl:=Option.some.inj H
          go_wp2
          go_ret
          exact ⟨by first|rfl|(simp [aX,aY] <;> rfl)|(simp [*,aX,aY] <;> rfl),dA HB.out qE.out⟩
 ·replace c3:=Bool.eq_false_iff.mpr c3
  subst c3
  have H1:(some 12)=some r:=by rw [if_neg (show ¬ (false=true) by decide)] at H;exact H
  clear H
  have H:=H1
  clear H1
  obtain rfl:=Option.some.inj H
  go_enter Try.func68,Try.ntmps68
  go_wp2_with (first|((with_reducible refine bC (N:=1) rfl ?_);refine eX ?hg (N:=1) ?hd (cs:=#[.string iH,.int .i64 iI,.slice kU dS.length kR]) (t:=54) ?hr ?_;(case hd=>rfl);(case hg=>rfl);(case hr=>first|(go_simp;done)|(go_simp;rfl));intro kW hg Tn hbox hb;have bU:=aA.mk (aN (bM HB.out) hb);have bV:=aA.mk (hbox);have bZ:=aA.mk ((by rw [hg];exact (aQ (bM HB.out)):w.heap.size≤kW));have jF:=aA.mk ((by rw [hg];exact (aQ (bM HB.out)):w.heap.size≤kW));clear HB;have HB:=bU;have iF:=bV;have TL:=bZ;have qE:=jF;clear bU bV bZ jF;clear hb hbox hg;have Gt:Tn.cell? ⟨kW,0,none⟩=some (.string iH):=(aJ iF.out 0).trans rfl;have Gu:Tn.cell? ⟨kW,1,none⟩=some (.int .i64 iI):=(aJ iF.out 1).trans rfl;have MS:Tn.cell? ⟨kW,2,none⟩=some (.slice kU dS.length kR):=(aJ iF.out 2).trans rfl;have Gv:=aI iF.out 0;have Gw:=aI iF.out 1;have MV:=aI iF.out 2)|((with_reducible refine cZ (f:=83) rfl ?_);refine gQ (some 9) rfl rfl Try.func83 aV rfl #[.string iH] rfl fU ?_;(with_reducible refine (bY.calls k iH false _ A2.out).mono ?_);rintro e w' ⟨rfl,⟨nd,rfl⟩⟩;refine ⟨_,rfl,?_⟩))
  go_ret
  exact ⟨by first|rfl|(simp [aX,aY] <;> rfl)|(simp [*,aX,aY] <;> rfl),dA HB.out qE.out⟩
end Go.Proofs.Ytipjpdiianopcaa.A
