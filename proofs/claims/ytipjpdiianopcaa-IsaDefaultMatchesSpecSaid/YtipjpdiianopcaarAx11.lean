/- Words and contracts for the laws. -/
import Derived.Test.YtipjpdiianopcaarAx0
namespace Go.Proofs.Ytipjpdiianopcaa.A
open Go.RowKit Go.Proofs.YtipjpdiianopcaaW.aZ Go.Proofs.YtipjpdiianopcaaW.dQ Go.Proofs.YtipjpdiianopcaaW.gW
attribute [local go_sem] jY jZ kY kZ jD jE kC kD
set_option linter.unusedVariables false
set_option linter.unusedSimpArgs false
mutual
def bQ.j0:Nat→Int→Bool→Option (Int × Int × Int)
 | 0,_,_=>none
 | k+1,x0,x4=>if x4=true then (some (0,3,(-2))) else (if x0=0 then (some (7,0,0)) else (if x0=27 then (bQ.j1 k x0 true) else (if x0=28 then (bQ.j1 k x0 true) else (bQ.j1 k x0 (x0==39)))))
def bQ.j1:Nat→Int→Bool→Option (Int × Int × Int)
 | 0,_,_=>none
 | k+1,x0,x16=>if x16=true then (some (2,0,0)) else (if x0≥29 then (bQ.j2 k x0 (decide (x0≤36))) else (bQ.j2 k x0 false))
def bQ.j2:Nat→Int→Bool→Option (Int × Int × Int)
 | 0,_,_=>none
 | k+1,x0,x28=>if x28=true then (some (3,0,0)) else (if x0=40 then (bQ.j3 k x0 true) else (bQ.j3 k x0 (x0==41)))
def bQ.j3:Nat→Int→Bool→Option (Int × Int × Int)
 | 0,_,_=>none
 | k+1,x0,x36=>if x36=true then (some (4,0,0)) else (if x0=42 then (some (5,0,0)) else (if x0=37 then (some (6,0,0)) else (if x0=38 then (some (6,0,0)) else (if x0=4 then (some (6,0,0)) else (some (1,0,0))))))
end
def bQ.f (k:Nat) (a0:Int):Option (Int × Int × Int):=if a0<0 then (bQ.j0 k a0 true) else (bQ.j0 k a0 (decide (a0≥59)))
theorem bQ.iW:∀ k,(∀ y0 y1,eG (bQ.j0 k y0 y1) (bQ.j0 (k+1) y0 y1))∧(∀ y0 y1,eG (bQ.j1 k y0 y1) (bQ.j1 (k+1) y0 y1))∧(∀ y0 y1,eG (bQ.j2 k y0 y1) (bQ.j2 (k+1) y0 y1))∧(∀ y0 y1,eG (bQ.j3 k y0 y1) (bQ.j3 (k+1) y0 y1))
 | 0=>⟨fun _ _ r h=>by simp [bQ.j0] at h,fun _ _ r h=>by simp [bQ.j1] at h,fun _ _ r h=>by simp [bQ.j2] at h,fun _ _ r h=>by simp [bQ.j3] at h⟩
 | k+1=>by
  obtain ⟨lZ,ih1,ih2,ih3⟩:=bQ.iW k
  refine ⟨?_,?_,?_,?_⟩
  ·intro y0 y1;unfold bQ.j0
   repeat' first
   | (with_reducible exact lZ _ _)
   | (with_reducible exact ih1 _ _)
   | (with_reducible exact ih2 _ _)
   | (with_reducible exact ih3 _ _)
   | (with_reducible exact eG.refl _)
   | (with_reducible exact eG.none _)
   | (with_reducible refine eG.ite ?_ ?_)
   | (with_reducible refine eG.bind ?_ (fun _=>?_))
   | exact lZ _ _
   | exact ih1 _ _
   | exact ih2 _ _
   | exact ih3 _ _
   | exact eG.none _
   | refine eG.ite ?_ ?_
   | refine eG.bind ?_ (fun _=>?_)
  ·intro y0 y1;unfold bQ.j1
   repeat' first
   | (with_reducible exact lZ _ _)
   | (with_reducible exact ih1 _ _)
   | (with_reducible exact ih2 _ _)
   | (with_reducible exact ih3 _ _)
   | (with_reducible exact eG.refl _)
   | (with_reducible exact eG.none _)
   | (with_reducible refine eG.ite ?_ ?_)
   | (with_reducible refine eG.bind ?_ (fun _=>?_))
   | exact lZ _ _
   | exact ih1 _ _
   | exact ih2 _ _
   | exact ih3 _ _
   | exact eG.none _
   | refine eG.ite ?_ ?_
   | refine eG.bind ?_ (fun _=>?_)
  ·intro y0 y1;unfold bQ.j2
   repeat' first
   | (with_reducible exact lZ _ _)
   | (with_reducible exact ih1 _ _)
   | (with_reducible exact ih2 _ _)
   | (with_reducible exact ih3 _ _)
   | (with_reducible exact eG.refl _)
   | (with_reducible exact eG.none _)
   | (with_reducible refine eG.ite ?_ ?_)
   | (with_reducible refine eG.bind ?_ (fun _=>?_))
   | exact lZ _ _
   | exact ih1 _ _
   | exact ih2 _ _
   | exact ih3 _ _
   | exact eG.none _
   | refine eG.ite ?_ ?_
   | refine eG.bind ?_ (fun _=>?_)
  ·intro y0 y1;unfold bQ.j3
   repeat' first
   | (with_reducible exact lZ _ _)
   | (with_reducible exact ih1 _ _)
   | (with_reducible exact ih2 _ _)
   | (with_reducible exact ih3 _ _)
   | (with_reducible exact eG.refl _)
   | (with_reducible exact eG.none _)
   | (with_reducible refine eG.ite ?_ ?_)
   | (with_reducible refine eG.bind ?_ (fun _=>?_))
   | exact lZ _ _
   | exact ih1 _ _
   | exact ih2 _ _
   | exact ih3 _ _
   | exact eG.none _
   | refine eG.ite ?_ ?_
   | refine eG.bind ?_ (fun _=>?_)
theorem bQ.mono:∀ a0 k,eG (bQ.f k a0) (bQ.f (k+1) a0):=by
 intro a0 k
 obtain ⟨lZ,ih1,ih2,ih3⟩:=bQ.iW k
 unfold bQ.f
 repeat' first
   | (with_reducible exact lZ _ _)
   | (with_reducible exact ih1 _ _)
   | (with_reducible exact ih2 _ _)
   | (with_reducible exact ih3 _ _)
   | (with_reducible exact eG.refl _)
   | (with_reducible exact eG.none _)
   | (with_reducible refine eG.ite ?_ ?_)
   | (with_reducible refine eG.bind ?_ (fun _=>?_))
   | exact lZ _ _
   | exact ih1 _ _
   | exact ih2 _ _
   | exact ih3 _ _
   | exact eG.none _
   | refine eG.ite ?_ ?_
   | refine eG.bind ?_ (fun _=>?_)
set_option maxHeartbeats 8000000 in
set_option maxRecDepth 100000 in
theorem bQ.calls (k:Nat) (a0:Int) (r1:Int) (r2:Int) (r3:Int) (w:World) (h:bQ.f k a0=some (r1,r2,r3)) :
  Calls Try.prog 43 #[.int .i64 a0] w fun e w'=>e=.returned (.tuple #[.int .i64 r1,.agg #[.int .i64 r2,.int .i64 r3]])∧Below w.heap.size w w':=by
 have Eu:=Try.underlying27
 have HB:=aA.mk (Below.refl w.heap.size w)
 have H:(if a0<0 then (bQ.j0 k a0 true) else (bQ.j0 k a0 (decide (a0≥59))))=some (r1,r2,r3):=h
 clear h
 have HC2:=aA.mk H
 clear H
 go_enter Try.func43,Try.ntmps43
 go_upto_region 1 with (first|((with_reducible refine bC (N:=3) rfl ?_);refine eX ?hg (N:=3) ?hd (cs:=#[.int .i64 0,.int .i64 0]) (t:=27) ?hr ?_;(case hd=>rfl);(case hg=>rfl);(case hr=>first|(go_simp;done)|(go_simp;rfl));intro jG hg w3 hbox hb;have bU:=aA.mk (aN (bM HB.out) hb);have bV:=aA.mk (hbox);have bZ:=aA.mk ((by rw [hg];exact (aQ (bM HB.out)):w.heap.size≤jG));have jF:=aA.mk ((by rw [hg];exact (aQ (bM HB.out)):w.heap.size≤jG));clear HB;have HB:=bU;have fK:=bV;have aCI:=bZ;have nP:=jF;clear bU bV bZ jF;clear hb hbox hg))
 (try simp only [Act.put,Aq,Ar,Au])
 go_cut [4] (fun v4 wc=>∃ (kq:Nat) (rD:Bool),v4=.bool rD∧aA (bQ.j0 kq a0 rD=some (r1,r2,r3))∧aA (kq≤k)∧aA (wc.heap[jG]?=some (.cells #[.int .i64 0,.int .i64 0] 27 (0,0)))∧aA (Below w.heap.size w wc))
 case first =>
  have H:=HC2.out
  clear HC2
  by_cases c4:a0<0
  ·rw [if_pos c4] at H;have vC:decide (a0<0)=true:=eH c4;clear c4
   (first|rw [vC]|(simp only [lK,lM];rw [vC])|skip)
   have H':=aA.mk H;clear H
   go_wp2
   go_meet
   case rel=>exact ⟨_,(true),fB,H',⟨by first|omega|exact Nat.le_refl _⟩,⟨by refine aU ?_;exact fK.out⟩,⟨dA HB.out nP.out⟩⟩
  ·rw [if_neg c4] at H;have vC:decide (a0<0)=false:=iE c4;clear c4
   (first|rw [vC]|(simp only [lK,lM];rw [vC])|skip)
   have H':=aA.mk H;clear H
   go_wp2
   go_meet
   case rel=>exact ⟨_,(decide (a0≥59)),fB,H',⟨by first|omega|exact Nat.le_refl _⟩,⟨by refine aU ?_;exact fK.out⟩,⟨dA HB.out nP.out⟩⟩
 case rest =>
  clear HC2
  obtain ⟨kq,rD,rfl,HA,PD,fK,HB⟩:=hcut
  cases kq with
  | zero=>exact absurd HA.out (by simp [bQ.j0])
  | succ TC =>
   have H:=HA.out;clear HA;simp only [bQ.j0] at H
   by_cases c5:rD=true
   ·subst c5;have H1:(some (0,3,(-2)))=some (r1,r2,r3):=by rw [if_pos rfl] at H;exact H
    clear H;have H:=H1;clear H1;simp only [Option.some.injEq,Prod.mk.injEq] at H;obtain ⟨rfl,rfl,rfl⟩:=H;have Ew:wc.cell? ⟨jG,0,none⟩=some (.int .i64 0):=(aJ fK.out 0).trans rfl;have Ey:wc.cell? ⟨jG,1,none⟩=some (.int .i64 0):=(aJ fK.out 1).trans rfl;have Ez:=aI fK.out 0;have EC:=aI fK.out 1
    go_wp2
    refine bodyPost_ret (iM rfl _ _ jG 27 #[.int .i64 3,.int .i64 (-2)] (0,0) _ rfl (by refine aU ?_;refine bH (cs:=#[.int .i64 3,.int .i64 0]) ?_ 1 _ rfl;refine aU ?_;refine bH (cs:=#[.int .i64 0,.int .i64 0]) ?_ 0 _ rfl;refine aU ?_;exact fK.out) Try.underlying27 rfl aV) rfl ?_;exact ⟨by first|rfl|(simp [aX,aY] <;> rfl)|(simp [*,aX,aY] <;> rfl),dA HB.out nP.out⟩
   ·replace c5:=Bool.eq_false_iff.mpr c5;subst c5;have H1:(if a0=0 then (some (7,0,0)) else (if a0=27 then (bQ.j1 TC a0 true) else (if a0=28 then (bQ.j1 TC a0 true) else (bQ.j1 TC a0 (a0==39)))))=some (r1,r2,r3):=by rw [if_neg (show ¬ (false=true) by decide)] at H;exact H
    clear H;have H:=H1;clear H1
    by_cases c7:a0=0
    ·rw [if_pos c7] at H;have vF:(a0==0)=true:=beq_iff_eq.mpr c7;have IK:(a0 != 0)=false:=bne_eq_false_iff_eq.mpr c7;clear c7;simp only [Option.some.injEq,Prod.mk.injEq] at H;obtain ⟨rfl,rfl,rfl⟩:=H;have Jm:wc.cell? ⟨jG,0,none⟩=some (.int .i64 0):=(aJ fK.out 0).trans rfl;have Jn:wc.cell? ⟨jG,1,none⟩=some (.int .i64 0):=(aJ fK.out 1).trans rfl;have Jo:=aI fK.out 0;have Jp:=aI fK.out 1
     go_wp2
     refine bodyPost_ret (iM rfl _ _ jG 27 #[.int .i64 0,.int .i64 0] (0,0) _ rfl (by refine aU ?_;refine bH (cs:=#[.int .i64 0,.int .i64 0]) ?_ 1 _ rfl;refine aU ?_;refine bH (cs:=#[.int .i64 0,.int .i64 0]) ?_ 0 _ rfl;refine aU ?_;exact fK.out) Try.underlying27 rfl aV) rfl ?_;exact ⟨by first|rfl|(simp [aX,aY] <;> rfl)|(simp [*,aX,aY] <;> rfl),dA HB.out nP.out⟩
    ·rw [if_neg c7] at H;have vF:(a0==0)=false:=beq_eq_false_iff_ne.mpr c7;have IK:(a0 != 0)=true:=bne_iff_ne.mpr c7;have YX:=aA.mk H;clear H;go_upto_region 5 with (fail)
     go_cut [16] (fun v16 wc=>∃ (kq:Nat) (Gl:Bool),v16=.bool Gl∧aA (bQ.j1 kq a0 Gl=some (r1,r2,r3))∧aA (kq≤TC)∧aA (wc.heap[jG]?=some (.cells #[.int .i64 0,.int .i64 0] 27 (0,0)))∧aA (Below w.heap.size w wc))
     case first =>
      have H:=YX.out;clear YX
      by_cases c10:a0=27
      ·rw [if_pos c10] at H;have qQ:(a0==27)=true:=beq_iff_eq.mpr c10;have Dl:(a0 != 27)=false:=bne_eq_false_iff_eq.mpr c10;clear c10
       (first|rw [qQ]|(simp only [lK,lM];rw [qQ])|skip)
       have H':=aA.mk H;clear H
       go_wp2
       go_meet
       case rel=>exact ⟨_,(true),fB,H',⟨by have:=PD.out;first|omega|exact Nat.le_refl _⟩,⟨by refine aU ?_;exact fK.out⟩,⟨dA HB.out nP.out⟩⟩
      ·rw [if_neg c10] at H;have qQ:(a0==27)=false:=beq_eq_false_iff_ne.mpr c10;have Dl:(a0 != 27)=true:=bne_iff_ne.mpr c10
       (first|rw [qQ]|(simp only [lK,lM];rw [qQ])|skip)
       by_cases c11:a0=28
       ·rw [if_pos c11] at H;have qR:(a0==28)=true:=beq_iff_eq.mpr c11;have yY:(a0 != 28)=false:=bne_eq_false_iff_eq.mpr c11;clear c11;have H':=aA.mk H;clear H
        go_wp2
        go_meet
        case rel=>exact ⟨_,(true),fB,H',⟨by have:=PD.out;first|omega|exact Nat.le_refl _⟩,⟨by refine aU ?_;exact fK.out⟩,⟨dA HB.out nP.out⟩⟩
       ·rw [if_neg c11] at H;have qR:(a0==28)=false:=beq_eq_false_iff_ne.mpr c11;have yY:(a0 != 28)=true:=bne_iff_ne.mpr c11;have H':=aA.mk H;clear H
        go_wp2
        go_meet
        case rel=>exact ⟨_,((a0==39)),fB,H',⟨by have:=PD.out;first|omega|exact Nat.le_refl _⟩,⟨by refine aU ?_;exact fK.out⟩,⟨dA HB.out nP.out⟩⟩
     case rest =>
      clear YX;obtain ⟨kq,Gl,rfl,HA,VK,fK,HB⟩:=hcut
      cases kq with
      | zero=>exact absurd HA.out (by simp [bQ.j1])
      | succ kj8 =>
       have H:=HA.out;clear HA;simp only [bQ.j1] at H
       by_cases c12:Gl=true
       ·subst c12;have H1:(some (2,0,0))=some (r1,r2,r3):=by rw [if_pos rfl] at H;exact H
        clear H;have H:=H1;clear H1;simp only [Option.some.injEq,Prod.mk.injEq] at H;obtain ⟨rfl,rfl,rfl⟩:=H;have Bj:wc.cell? ⟨jG,0,none⟩=some (.int .i64 0):=(aJ fK.out 0).trans rfl;have Bl:wc.cell? ⟨jG,1,none⟩=some (.int .i64 0):=(aJ fK.out 1).trans rfl;have Bo:=aI fK.out 0;have Bq:=aI fK.out 1
        go_wp2
        refine bodyPost_ret (iM rfl _ _ jG 27 #[.int .i64 0,.int .i64 0] (0,0) _ rfl (by refine aU ?_;refine bH (cs:=#[.int .i64 0,.int .i64 0]) ?_ 1 _ rfl;refine aU ?_;refine bH (cs:=#[.int .i64 0,.int .i64 0]) ?_ 0 _ rfl;refine aU ?_;exact fK.out) Try.underlying27 rfl aV) rfl ?_;exact ⟨by first|rfl|(simp [aX,aY] <;> rfl)|(simp [*,aX,aY] <;> rfl),dA HB.out nP.out⟩
       ·replace c12:=Bool.eq_false_iff.mpr c12;subst c12;have H1:(if a0≥29 then (bQ.j2 kj8 a0 (decide (a0≤36))) else (bQ.j2 kj8 a0 false))=some (r1,r2,r3):=by rw [if_neg (show ¬ (false=true) by decide)] at H;exact H
        clear H;have H:=H1;clear H1;have Qk:=aA.mk H;clear H;go_upto_region 7 with (fail)
        go_cut [28] (fun v28 wc=>∃ (kq:Nat) (Bv:Bool),v28=.bool Bv∧aA (bQ.j2 kq a0 Bv=some (r1,r2,r3))∧aA (kq≤kj8)∧aA (wc.heap[jG]?=some (.cells #[.int .i64 0,.int .i64 0] 27 (0,0)))∧aA (Below w.heap.size w wc))
        case first =>
         have H:=Qk.out;clear Qk
         by_cases c15:a0≥29
         ·rw [if_pos c15] at H;have xJ:decide (29≤a0)=true:=eH c15;clear c15
          (first|rw [xJ]|(simp only [lK,lM];rw [xJ])|skip)
          have H':=aA.mk H;clear H
          go_wp2
          go_meet
          case rel=>exact ⟨_,(decide (a0≤36)),fB,H',⟨by have:=PD.out;have:=VK.out;first|omega|exact Nat.le_refl _⟩,⟨by refine aU ?_;exact fK.out⟩,⟨dA HB.out nP.out⟩⟩
         ·rw [if_neg c15] at H;have xJ:decide (29≤a0)=false:=iE c15;clear c15
          (first|rw [xJ]|(simp only [lK,lM];rw [xJ])|skip)
          have H':=aA.mk H;clear H
          go_wp2
          go_meet
          case rel=>exact ⟨_,(false),fB,H',⟨by have:=PD.out;have:=VK.out;first|omega|exact Nat.le_refl _⟩,⟨by refine aU ?_;exact fK.out⟩,⟨dA HB.out nP.out⟩⟩
        case rest =>
         clear Qk;obtain ⟨kq,Bv,rfl,HA,TD,fK,HB⟩:=hcut
         cases kq with
         | zero=>exact absurd HA.out (by simp [bQ.j2])
         | succ Ql =>
          have H:=HA.out;clear HA;simp only [bQ.j2] at H
          by_cases c16:Bv=true
          ·subst c16;have H1:(some (3,0,0))=some (r1,r2,r3):=by rw [if_pos rfl] at H;exact H
           clear H;have H:=H1;clear H1;simp only [Option.some.injEq,Prod.mk.injEq] at H;obtain ⟨rfl,rfl,rfl⟩:=H;have Gm:wc.cell? ⟨jG,0,none⟩=some (.int .i64 0):=(aJ fK.out 0).trans rfl;have Gn:wc.cell? ⟨jG,1,none⟩=some (.int .i64 0):=(aJ fK.out 1).trans rfl;have Gp:=aI fK.out 0;have Gq:=aI fK.out 1
           go_wp2
           refine bodyPost_ret (iM rfl _ _ jG 27 #[.int .i64 0,.int .i64 0] (0,0) _ rfl (by refine aU ?_;refine bH (cs:=#[.int .i64 0,.int .i64 0]) ?_ 1 _ rfl;refine aU ?_;refine bH (cs:=#[.int .i64 0,.int .i64 0]) ?_ 0 _ rfl;refine aU ?_;exact fK.out) Try.underlying27 rfl aV) rfl ?_;exact ⟨by first|rfl|(simp [aX,aY] <;> rfl)|(simp [*,aX,aY] <;> rfl),dA HB.out nP.out⟩
          ·replace c16:=Bool.eq_false_iff.mpr c16;subst c16;have H1:(if a0=40 then (bQ.j3 Ql a0 true) else (bQ.j3 Ql a0 (a0==41)))=some (r1,r2,r3):=by rw [if_neg (show ¬ (false=true) by decide)] at H;exact H
           clear H;have H:=H1;clear H1;have ED:=aA.mk H;clear H;go_upto_region 9 with (fail)
           go_cut [36] (fun v36 wc=>∃ (kq:Nat) (Bz:Bool),v36=.bool Bz∧aA (bQ.j3 kq a0 Bz=some (r1,r2,r3))∧aA (kq≤Ql)∧aA (wc.heap[jG]?=some (.cells #[.int .i64 0,.int .i64 0] 27 (0,0)))∧aA (Below w.heap.size w wc))
           case first =>
            have H:=ED.out;clear ED
            by_cases c19:a0=40
            ·rw [if_pos c19] at H;have sQ:(a0==40)=true:=beq_iff_eq.mpr c19;have Jq:(a0 != 40)=false:=bne_eq_false_iff_eq.mpr c19;clear c19
             (first|rw [sQ]|(simp only [lK,lM];rw [sQ])|skip)
             have H':=aA.mk H;clear H
             go_wp2
             go_meet
             case rel=>exact ⟨_,(true),fB,H',⟨by have:=PD.out;have:=VK.out;have:=TD.out;first|omega|exact Nat.le_refl _⟩,⟨by refine aU ?_;exact fK.out⟩,⟨dA HB.out nP.out⟩⟩
            ·rw [if_neg c19] at H;have sQ:(a0==40)=false:=beq_eq_false_iff_ne.mpr c19;have Jq:(a0 != 40)=true:=bne_iff_ne.mpr c19
             (first|rw [sQ]|(simp only [lK,lM];rw [sQ])|skip)
             have H':=aA.mk H;clear H
             go_wp2
             go_meet
             case rel=>exact ⟨_,((a0==41)),fB,H',⟨by have:=PD.out;have:=VK.out;have:=TD.out;first|omega|exact Nat.le_refl _⟩,⟨by refine aU ?_;exact fK.out⟩,⟨dA HB.out nP.out⟩⟩
           case rest =>
            clear ED;obtain ⟨kq,Bz,rfl,HA,YY,fK,HB⟩:=hcut
            cases kq with
            | zero=>exact absurd HA.out (by simp [bQ.j3])
            | succ YZ =>
             have H:=HA.out;clear HA;simp only [bQ.j3] at H
             by_cases c20:Bz=true
             ·subst c20;have H1:(some (4,0,0))=some (r1,r2,r3):=by rw [if_pos rfl] at H;exact H
              clear H;have H:=H1;clear H1;simp only [Option.some.injEq,Prod.mk.injEq] at H;obtain ⟨rfl,rfl,rfl⟩:=H;have VL:wc.cell? ⟨jG,0,none⟩=some (.int .i64 0):=(aJ fK.out 0).trans rfl;have VM:wc.cell? ⟨jG,1,none⟩=some (.int .i64 0):=(aJ fK.out 1).trans rfl;have VN:=aI fK.out 0;have VO:=aI fK.out 1
              go_wp2
              refine bodyPost_ret (iM rfl _ _ jG 27 #[.int .i64 0,.int .i64 0] (0,0) _ rfl (by refine aU ?_;refine bH (cs:=#[.int .i64 0,.int .i64 0]) ?_ 1 _ rfl;refine aU ?_;refine bH (cs:=#[.int .i64 0,.int .i64 0]) ?_ 0 _ rfl;refine aU ?_;exact fK.out) Try.underlying27 rfl aV) rfl ?_;exact ⟨by first|rfl|(simp [aX,aY] <;> rfl)|(simp [*,aX,aY] <;> rfl),dA HB.out nP.out⟩
             ·replace c20:=Bool.eq_false_iff.mpr c20;subst c20;have H1:(if a0=42 then (some (5,0,0)) else (if a0=37 then (some (6,0,0)) else (if a0=38 then (some (6,0,0)) else (if a0=4 then (some (6,0,0)) else (some (1,0,0))))))=some (r1,r2,r3):=by rw [if_neg (show ¬ (false=true) by decide)] at H;exact H
              clear H;have H:=H1;clear H1
              by_cases Aw:a0=42
              ·rw [if_pos Aw] at H;have Gs:(a0==42)=true:=beq_iff_eq.mpr Aw;have Jr:(a0 != 42)=false:=bne_eq_false_iff_eq.mpr Aw;clear Aw;simp only [Option.some.injEq,Prod.mk.injEq] at H;obtain ⟨rfl,rfl,rfl⟩:=H;have Gt:wc.cell? ⟨jG,0,none⟩=some (.int .i64 0):=(aJ fK.out 0).trans rfl;have Gu:wc.cell? ⟨jG,1,none⟩=some (.int .i64 0):=(aJ fK.out 1).trans rfl;have Gv:=aI fK.out 0;have Gw:=aI fK.out 1
               go_wp2
               refine bodyPost_ret (iM rfl _ _ jG 27 #[.int .i64 0,.int .i64 0] (0,0) _ rfl (by refine aU ?_;refine bH (cs:=#[.int .i64 0,.int .i64 0]) ?_ 1 _ rfl;refine aU ?_;refine bH (cs:=#[.int .i64 0,.int .i64 0]) ?_ 0 _ rfl;refine aU ?_;exact fK.out) Try.underlying27 rfl aV) rfl ?_;exact ⟨by first|rfl|(simp [aX,aY] <;> rfl)|(simp [*,aX,aY] <;> rfl),dA HB.out nP.out⟩
              ·rw [if_neg Aw] at H;have Gs:(a0==42)=false:=beq_eq_false_iff_ne.mpr Aw;have Jr:(a0 != 42)=true:=bne_iff_ne.mpr Aw
               by_cases c24:a0=37
               ·rw [if_pos c24] at H;have Dn:(a0==37)=true:=beq_iff_eq.mpr c24;have Js:(a0 != 37)=false:=bne_eq_false_iff_eq.mpr c24;clear c24;simp only [Option.some.injEq,Prod.mk.injEq] at H;obtain ⟨rfl,rfl,rfl⟩:=H;have VP:wc.cell? ⟨jG,0,none⟩=some (.int .i64 0):=(aJ fK.out 0).trans rfl;have VQ:wc.cell? ⟨jG,1,none⟩=some (.int .i64 0):=(aJ fK.out 1).trans rfl;have VR:=aI fK.out 0;have VS:=aI fK.out 1
                go_wp2
                refine bodyPost_ret (iM rfl _ _ jG 27 #[.int .i64 0,.int .i64 0] (0,0) _ rfl (by refine aU ?_;refine bH (cs:=#[.int .i64 0,.int .i64 0]) ?_ 1 _ rfl;refine aU ?_;refine bH (cs:=#[.int .i64 0,.int .i64 0]) ?_ 0 _ rfl;refine aU ?_;exact fK.out) Try.underlying27 rfl aV) rfl ?_;exact ⟨by first|rfl|(simp [aX,aY] <;> rfl)|(simp [*,aX,aY] <;> rfl),dA HB.out nP.out⟩
               ·rw [if_neg c24] at H;have Dn:(a0==37)=false:=beq_eq_false_iff_ne.mpr c24;have Js:(a0 != 37)=true:=bne_iff_ne.mpr c24
                by_cases Qm:a0=38
                ·rw [if_pos Qm] at H;have TE:(a0==38)=true:=beq_iff_eq.mpr Qm;have TF:(a0 != 38)=false:=bne_eq_false_iff_eq.mpr Qm;clear Qm;simp only [Option.some.injEq,Prod.mk.injEq] at H;obtain ⟨rfl,rfl,rfl⟩:=H;have MC:wc.cell? ⟨jG,0,none⟩=some (.int .i64 0):=(aJ fK.out 0).trans rfl;have MF:wc.cell? ⟨jG,1,none⟩=some (.int .i64 0):=(aJ fK.out 1).trans rfl;have MG:=aI fK.out 0;have MH:=aI fK.out 1
                 go_wp2
                 refine bodyPost_ret (iM rfl _ _ jG 27 #[.int .i64 0,.int .i64 0] (0,0) _ rfl (by refine aU ?_;refine bH (cs:=#[.int .i64 0,.int .i64 0]) ?_ 1 _ rfl;refine aU ?_;refine bH (cs:=#[.int .i64 0,.int .i64 0]) ?_ 0 _ rfl;refine aU ?_;exact fK.out) Try.underlying27 rfl aV) rfl ?_;exact ⟨by first|rfl|(simp [aX,aY] <;> rfl)|(simp [*,aX,aY] <;> rfl),dA HB.out nP.out⟩
                ·rw [if_neg Qm] at H;have TE:(a0==38)=false:=beq_eq_false_iff_ne.mpr Qm;have TF:(a0 != 38)=true:=bne_iff_ne.mpr Qm
                 by_cases c28:a0=4
                 ·rw [if_pos c28] at H;have Jt:(a0==4)=true:=beq_iff_eq.mpr c28;have TG:(a0 != 4)=false:=bne_eq_false_iff_eq.mpr c28;clear c28;simp only [Option.some.injEq,Prod.mk.injEq] at H;obtain ⟨rfl,rfl,rfl⟩:=H;have MI:wc.cell? ⟨jG,0,none⟩=some (.int .i64 0):=(aJ fK.out 0).trans rfl;have MJ:wc.cell? ⟨jG,1,none⟩=some (.int .i64 0):=(aJ fK.out 1).trans rfl;have MK:=aI fK.out 0;have ML:=aI fK.out 1
                  go_wp2
                  refine bodyPost_ret (iM rfl _ _ jG 27 #[.int .i64 0,.int .i64 0] (0,0) _ rfl (by refine aU ?_;refine bH (cs:=#[.int .i64 0,.int .i64 0]) ?_ 1 _ rfl;refine aU ?_;refine bH (cs:=#[.int .i64 0,.int .i64 0]) ?_ 0 _ rfl;refine aU ?_;exact fK.out) Try.underlying27 rfl aV) rfl ?_;exact ⟨by first|rfl|(simp [aX,aY] <;> rfl)|(simp [*,aX,aY] <;> rfl),dA HB.out nP.out⟩
                 ·rw [if_neg c28] at H;have Jt:(a0==4)=false:=beq_eq_false_iff_ne.mpr c28;have TG:(a0 != 4)=true:=bne_iff_ne.mpr c28;simp only [Option.some.injEq,Prod.mk.injEq] at H;obtain ⟨rfl,rfl,rfl⟩:=H;have Gx:wc.cell? ⟨jG,0,none⟩=some (.int .i64 0):=(aJ fK.out 0).trans rfl;have Gy:wc.cell? ⟨jG,1,none⟩=some (.int .i64 0):=(aJ fK.out 1).trans rfl;have Gz:=aI fK.out 0;have GG:=aI fK.out 1
                  go_wp2
                  refine bodyPost_ret (iM rfl _ _ jG 27 #[.int .i64 0,.int .i64 0] (0,0) _ rfl (by refine aU ?_;refine bH (cs:=#[.int .i64 0,.int .i64 0]) ?_ 1 _ rfl;refine aU ?_;refine bH (cs:=#[.int .i64 0,.int .i64 0]) ?_ 0 _ rfl;refine aU ?_;exact fK.out) Try.underlying27 rfl aV) rfl ?_;exact ⟨by first|rfl|(simp [aX,aY] <;> rfl)|(simp [*,aX,aY] <;> rfl),dA HB.out nP.out⟩
end Go.Proofs.Ytipjpdiianopcaa.A
