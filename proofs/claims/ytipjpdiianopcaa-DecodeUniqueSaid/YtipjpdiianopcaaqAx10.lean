/- Words and contracts for the laws of encode. -/
import Derived.Test.YtipjpdiianopcaaqAx0
namespace Go.Proofs.Ytipjpdiianopcaa.A
open Go.RowKit Go.Proofs.YtipjpdiianopcaaW.dF Go.Proofs.YtipjpdiianopcaaW.fO Go.Proofs.YtipjpdiianopcaaW.jP
attribute [local go_sem] mV mW oO oP lC lD mX mY
set_option linter.unusedVariables false
set_option linter.unusedSimpArgs false
mutual
def bJ.l0:Nat→Int→Int→Int→ByteArray→Int→List Int→Option (Int)
 | 0,_,_,_,_,_,_=>none
 | k+1,x3,x4,x5,EO,EP,zB=>if x5<(zB.length:Int) then (if 0≤x5 then (if (rd zB x5)=1 then (bJ.j1 k x3 x4 x5 (rd zB x5) ((rd zB x5)==1) EO EP zB) else (bJ.j1 k x3 x4 x5 (rd zB x5) ((rd zB x5)==2) EO EP zB)) else (none)) else (some (wrap64 ((wrap64 (x4+(wrap64 (Int.tdiv x3 2))))+(Int.tmod x3 2))))
def bJ.j1:Nat→Int→Int→Int→Int→Bool→ByteArray→Int→List Int→Option (Int)
 | 0,_,_,_,_,_,_,_,_=>none
 | k+1,x3,x4,x5,x17,x18,EO,EP,zB=>if x18=true then (bJ.l0 k (wrap64 (x3+1)) x4 (wrap64 (x5+1)) EO EP zB) else (if x17=3 then (bJ.j2 k x3 x4 x5 x17 (x17==3) EO EP zB) else (bJ.j2 k x3 x4 x5 x17 (x17==5) EO EP zB))
def bJ.j2:Nat→Int→Int→Int→Int→Bool→ByteArray→Int→List Int→Option (Int)
 | 0,_,_,_,_,_,_,_,_=>none
 | k+1,x3,x4,x5,x17,x23,EO,EP,zB=>if x23=true then (bJ.l0 k x3 (wrap64 (x4+1)) (wrap64 (x5+1)) EO EP zB) else (if x17=6 then (bJ.l0 k x3 (wrap64 (x4+2)) (wrap64 (x5+1)) EO EP zB) else (if x17=4 then (bJ.l0 k x3 (wrap64 (x4+4)) (wrap64 (x5+1)) EO EP zB) else (bJ.l0 k x3 x4 (wrap64 (x5+1)) EO EP zB)))
end
def bJ.f (k:Nat) (jI:ByteArray) (jU:Int) (fD:List Int):Option (Int):=bJ.l0 k 0 1 0 jI jU fD
set_option maxHeartbeats 8000000 in
set_option maxRecDepth 100000 in
theorem bJ.calls (k:Nat) (jI:ByteArray) (jU:Int) (uJ:Option Addr) (qW:Nat) (fD:List Int) (r:Int) (w:World) (He:Kd.C (Kd.int .i64) w uJ fD.length fD) (Hf:fD.length≤qW) (h:bJ.f k jI jU fD=some r) :
  Calls Try.prog 38 #[.agg #[.string jI,.int .i64 jU,.slice uJ fD.length qW]] w fun e w'=>e=.returned (.int .i64 r)∧Below w.heap.size w w':=by
 have Jf:=Try.underlying54
 have JD:=aA.mk He
 have Xw:=aA.mk Hf
 clear He Hf
 have HB:=aA.mk (Below.refl w.heap.size w)
 have H:(bJ.l0 k 0 1 0 jI jU fD)=some r:=h
 clear h
 have H':=aA.mk H
 clear H
 go_enter Try.func38,Try.ntmps38
 go_wp2_with (first|((with_reducible refine dH (N:=1) rfl ?_);refine dB ?hg (N:=1) ?hd (cs:=#[.string jI,.int .i64 jU,.slice uJ fD.length qW]) (t:=54) ?hr ?_;(case hd=>rfl);(case hg=>rfl);(case hr=>first|(go_simp;done)|(go_simp;rfl));intro mD hg w2 hbox hb;have bT:=aA.mk (aT (dG HB.out) hb);have bW:=aA.mk (hbox);have dA:=aA.mk ((by rw [hg];exact (aN (dG HB.out)):w.heap.size≤mD));have dN:=aA.mk ((by rw [hg];exact (aN (dG HB.out)):w.heap.size≤mD));clear HB;have HB:=bT;have lI:=bW;have aUv:=dA;have yH:=dN;clear bT bW dA dN;clear hb hbox hg))
 go_loopg [3,4,5] k (fun kq v3 v4 v5 w'=>∃ (fF:Int) (Jy:Int) (jL:Int),v3=.int .i64 fF∧v4=.int .i64 Jy∧v5=.int .i64 jL∧aA (bJ.l0 kq fF Jy jL jI jU fD=some r)∧aA (kq≤k)∧aA (w'.heap[mD]?=some (.cells #[.string jI,.int .i64 jU,(.slice uJ fD.length qW)] 54 (0,0)))∧aA (Below w.heap.size w w'))
 case atStart=>exact ⟨(0),(1),(0),gV,gV,gV,H',⟨Nat.le_refl _⟩,⟨by refine aH ?_;exact lI.out⟩,⟨bV HB.out yH.out⟩⟩
 case round =>
  clear H'
  obtain ⟨fF,Jy,jL,rfl,rfl,rfl,HA,wU,lI,HB⟩:=hrel
  cases gk with
  | zero=>exact absurd HA.out (by simp [bJ.l0])
  | succ k1 =>
   have H:=HA.out;clear HA;simp only [bJ.l0] at H
   by_cases c3:jL<(fD.length:Int)
   ·rw [if_pos c3] at H;have LC:decide (jL<(fD.length:Int))=true:=fB c3;clear c3
    by_cases c4:0≤jL
    ·rw [if_pos c4] at H;have Jz:decide (0≤jL)=true:=fB c4;clear c4;have HC5:=aA.mk H;clear H;have aAt:wr.cell? ⟨mD,0,none⟩=some (.string jI):=(aC lI.out 0).trans rfl;have aAu:wr.cell? ⟨mD,1,none⟩=some (.int .i64 jU):=(aC lI.out 1).trans rfl;have aDq:wr.cell? ⟨mD,2,none⟩=some (.slice uJ fD.length qW):=(aC lI.out 2).trans rfl;have aAv:=aG lI.out 0;have aAw:=aG lI.out 1;have aDr:=aG lI.out 2;have aQJ:0≤(jL:Int):=dU dW;have aQK:jL<(fD.length:Int):=dU dW;obtain ⟨aOB,bEx,aAx⟩:=Kd.jJ JD.out jL aQJ aQK
     cases bEx
     replace aAx:=(HB.out.cell (dM w _ aAx)).trans aAx;replace aQJ:=eq_true aQJ;replace aQK:=eq_true aQK
     go_upto_if 18 with (fail)
     go_cut [18] (fun v18 wc=>∃ (kq:Nat) (aES:Bool),v18=.bool aES∧aA (bJ.j1 kq fF Jy jL (rd fD jL) aES jI jU fD=some r)∧aA (kq≤k1)∧aA (wc.heap[mD]?=some (.cells #[.string jI,.int .i64 jU,(.slice (some aOB) fD.length qW)] 54 (0,0)))∧aA (Below w.heap.size w wc))
     case first =>
      have H:=HC5.out;clear HC5
      by_cases c7:(rd fD jL)=1
      ·rw [if_pos c7] at H;have EJ:((rd fD jL)==1)=true:=beq_iff_eq.mpr c7;have Xx:((rd fD jL) != 1)=false:=bne_eq_false_iff_eq.mpr c7;clear c7
       (first|rw [EJ]|(simp only [nX,tY];rw [EJ])|skip)
       have H':=aA.mk H;clear H
       go_wp2
       go_meet
       case rel=>exact ⟨_,(((rd fD jL)==1)),gV,H',⟨by have:=wU.out;first|omega|exact Nat.le_refl _⟩,⟨by refine aH ?_;exact lI.out⟩,⟨bV HB.out yH.out⟩⟩
      ·rw [if_neg c7] at H;have EJ:((rd fD jL)==1)=false:=beq_eq_false_iff_ne.mpr c7;have Xx:((rd fD jL) != 1)=true:=bne_iff_ne.mpr c7
       (first|rw [EJ]|(simp only [nX,tY];rw [EJ])|skip)
       have H':=aA.mk H;clear H
       go_wp2
       go_meet
       case rel=>exact ⟨_,(((rd fD jL)==2)),gV,H',⟨by have:=wU.out;first|omega|exact Nat.le_refl _⟩,⟨by refine aH ?_;exact lI.out⟩,⟨bV HB.out yH.out⟩⟩
     case rest =>
      clear HC5;obtain ⟨kq,aES,rfl,HA,HJ4,lI,HB⟩:=hcut
      cases kq with
      | zero=>exact absurd HA.out (by simp [bJ.j1])
      | succ kj4 =>
       have H:=HA.out;clear HA;simp only [bJ.j1] at H
       by_cases c8:aES=true
       ·subst c8;have H1:(bJ.l0 kj4 (wrap64 (fF+1)) Jy (wrap64 (jL+1)) jI jU fD)=some r:=by rw [if_pos rfl] at H;exact H
        clear H;have H:=H1;clear H1;have H':=aA.mk H;clear H
        go_wp2
        go_roundg kj4
        case measure=>have:=wU.out;have:=HJ4.out;omega
        case rel=>exact ⟨(wrap64 (fF+1)),(Jy),(wrap64 (jL+1)),gV,gV,gV,H',⟨by have:=wU.out;have:=HJ4.out;omega⟩,⟨by refine aH ?_;exact lI.out⟩,⟨bV HB.out yH.out⟩⟩
       ·replace c8:=Bool.eq_false_iff.mpr c8;subst c8;have H1:(if (rd fD jL)=3 then (bJ.j2 kj4 fF Jy jL (rd fD jL) ((rd fD jL)==3) jI jU fD) else (bJ.j2 kj4 fF Jy jL (rd fD jL) ((rd fD jL)==5) jI jU fD))=some r:=by rw [if_neg (show ¬ (false=true) by decide)] at H;exact H
        clear H;have H:=H1;clear H1;have HC9:=aA.mk H;clear H
        go_upto_if 23 with (fail)
        go_cut [23] (fun v23 wc=>∃ (kq:Nat) (aET:Bool),v23=.bool aET∧aA (bJ.j2 kq fF Jy jL (rd fD jL) aET jI jU fD=some r)∧aA (kq≤kj4)∧aA (wc.heap[mD]?=some (.cells #[.string jI,.int .i64 jU,(.slice (some aOB) fD.length qW)] 54 (0,0)))∧aA (Below w.heap.size w wc))
        case first =>
         have H:=HC9.out;clear HC9
         by_cases c10:(rd fD jL)=3
         ·rw [if_pos c10] at H;have BO:((rd fD jL)==3)=true:=beq_iff_eq.mpr c10;have Qi:((rd fD jL) != 3)=false:=bne_eq_false_iff_eq.mpr c10;clear c10
          (first|rw [BO]|(simp only [nX,tY];rw [BO])|skip)
          have H':=aA.mk H;clear H
          go_wp2
          go_meet
          case rel=>exact ⟨_,(((rd fD jL)==3)),gV,H',⟨by have:=wU.out;have:=HJ4.out;first|omega|exact Nat.le_refl _⟩,⟨by refine aH ?_;exact lI.out⟩,⟨bV HB.out yH.out⟩⟩
         ·rw [if_neg c10] at H;have BO:((rd fD jL)==3)=false:=beq_eq_false_iff_ne.mpr c10;have Qi:((rd fD jL) != 3)=true:=bne_iff_ne.mpr c10
          (first|rw [BO]|(simp only [nX,tY];rw [BO])|skip)
          have H':=aA.mk H;clear H
          go_wp2
          go_meet
          case rel=>exact ⟨_,(((rd fD jL)==5)),gV,H',⟨by have:=wU.out;have:=HJ4.out;first|omega|exact Nat.le_refl _⟩,⟨by refine aH ?_;exact lI.out⟩,⟨bV HB.out yH.out⟩⟩
        case rest =>
         clear HC9;obtain ⟨kq,aET,rfl,HA,HJ8,lI,HB⟩:=hcut
         cases kq with
         | zero=>exact absurd HA.out (by simp [bJ.j2])
         | succ kj8 =>
          have H:=HA.out;clear HA;simp only [bJ.j2] at H
          by_cases c11:aET=true
          ·subst c11;have H1:(bJ.l0 kj8 fF (wrap64 (Jy+1)) (wrap64 (jL+1)) jI jU fD)=some r:=by rw [if_pos rfl] at H;exact H
           clear H;have H:=H1;clear H1;have H':=aA.mk H;clear H
           go_wp2
           go_roundg kj8
           case measure=>have:=wU.out;have:=HJ4.out;have:=HJ8.out;omega
           case rel=>exact ⟨(fF),(wrap64 (Jy+1)),(wrap64 (jL+1)),gV,gV,gV,H',⟨by have:=wU.out;have:=HJ4.out;have:=HJ8.out;omega⟩,⟨by refine aH ?_;exact lI.out⟩,⟨bV HB.out yH.out⟩⟩
          ·replace c11:=Bool.eq_false_iff.mpr c11;subst c11;have H1:(if (rd fD jL)=6 then (bJ.l0 kj8 fF (wrap64 (Jy+2)) (wrap64 (jL+1)) jI jU fD) else (if (rd fD jL)=4 then (bJ.l0 kj8 fF (wrap64 (Jy+4)) (wrap64 (jL+1)) jI jU fD) else (bJ.l0 kj8 fF Jy (wrap64 (jL+1)) jI jU fD)))=some r:=by rw [if_neg (show ¬ (false=true) by decide)] at H;exact H
           clear H;have H:=H1;clear H1
           by_cases c12:(rd fD jL)=6
           ·rw [if_pos c12] at H;have Jg:((rd fD jL)==6)=true:=beq_iff_eq.mpr c12;have Vb:((rd fD jL) != 6)=false:=bne_eq_false_iff_eq.mpr c12;clear c12;have H':=aA.mk H;clear H
            go_wp2
            go_roundg kj8
            case measure=>have:=wU.out;have:=HJ4.out;have:=HJ8.out;omega
            case rel=>exact ⟨(fF),(wrap64 (Jy+2)),(wrap64 (jL+1)),gV,gV,gV,H',⟨by have:=wU.out;have:=HJ4.out;have:=HJ8.out;omega⟩,⟨by refine aH ?_;exact lI.out⟩,⟨bV HB.out yH.out⟩⟩
           ·rw [if_neg c12] at H;have Jg:((rd fD jL)==6)=false:=beq_eq_false_iff_ne.mpr c12;have Vb:((rd fD jL) != 6)=true:=bne_iff_ne.mpr c12
            by_cases c13:(rd fD jL)=4
            ·rw [if_pos c13] at H;have Vd:((rd fD jL)==4)=true:=beq_iff_eq.mpr c13;have ZM:((rd fD jL) != 4)=false:=bne_eq_false_iff_eq.mpr c13;clear c13;have H':=aA.mk H;clear H
             go_wp2
             go_roundg kj8
             case measure=>have:=wU.out;have:=HJ4.out;have:=HJ8.out;omega
             case rel=>exact ⟨(fF),(wrap64 (Jy+4)),(wrap64 (jL+1)),gV,gV,gV,H',⟨by have:=wU.out;have:=HJ4.out;have:=HJ8.out;omega⟩,⟨by refine aH ?_;exact lI.out⟩,⟨bV HB.out yH.out⟩⟩
            ·rw [if_neg c13] at H;have Vd:((rd fD jL)==4)=false:=beq_eq_false_iff_ne.mpr c13;have ZM:((rd fD jL) != 4)=true:=bne_iff_ne.mpr c13;have H':=aA.mk H;clear H
             go_wp2
             go_roundg kj8
             case measure=>have:=wU.out;have:=HJ4.out;have:=HJ8.out;omega
             case rel=>exact ⟨(fF),(Jy),(wrap64 (jL+1)),gV,gV,gV,H',⟨by have:=wU.out;have:=HJ4.out;have:=HJ8.out;omega⟩,⟨by refine aH ?_;exact lI.out⟩,⟨bV HB.out yH.out⟩⟩
    ·rw [if_neg c4] at H;exact absurd H (by simp)
   ·rw [if_neg c3] at H;have LC:decide (jL<(fD.length:Int))=false:=kT c3;clear c3;obtain rfl:=Option.some.inj H;have VY:wr.cell? ⟨mD,0,none⟩=some (.string jI):=(aC lI.out 0).trans rfl;have VZ:wr.cell? ⟨mD,1,none⟩=some (.int .i64 jU):=(aC lI.out 1).trans rfl;have aLS:wr.cell? ⟨mD,2,none⟩=some (.slice uJ fD.length qW):=(aC lI.out 2).trans rfl;have We:=aG lI.out 0;have Wh:=aG lI.out 1;have aLT:=aG lI.out 2
    go_wp2
    go_ret
    exact ⟨by first|rfl|(simp [bK,bM] <;> rfl)|(simp [*,bK,bM] <;> rfl),bV HB.out yH.out⟩
end Go.Proofs.Ytipjpdiianopcaa.A
