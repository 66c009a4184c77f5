/- Words and contracts for the laws of encode. -/
import Derived.Test.YtipjpdiianopcaaqAx0
import Derived.Test.YtipjpdiianopcaaqAx5
namespace Go.Proofs.Ytipjpdiianopcaa.A
open Go.RowKit Go.Proofs.YtipjpdiianopcaaW.dF Go.Proofs.YtipjpdiianopcaaW.fO Go.Proofs.YtipjpdiianopcaaW.jP
attribute [local go_sem] mV mW oO oP lC lD mX mY
set_option linter.unusedVariables false
set_option linter.unusedSimpArgs false
mutual
def jZ.j0:Nat→Bool→ByteArray→Int→List Int→Option (Int)
 | 0,_,_,_,_=>none
 | k+1,x11,bCl,bCm,aA1=>if x11=true then (some 3) else (if (aA1.length:Int)>4 then (some 2) else (jZ.l0 k 0 aA1 (aA1.length:Int) 0))
def jZ.l0:Nat→Int→List Int→Int→Int→Option (Int)
 | 0,_,_,_,_=>none
 | k+1,x3,x26,x27,x28=>if x28<x27 then (if 0≤x28 then (if x28<(x26.length:Int) then (if (rd x26 x28)<1 then (jZ.j2 k x3 (rd x26 x28) x26 x27 x28 true) else (jZ.j2 k x3 (rd x26 x28) x26 x27 x28 (decide ((rd x26 x28)>6)))) else (none)) else (none)) else (if x3>1 then (some 5) else (some 0))
def jZ.j2:Nat→Int→Int→List Int→Int→Int→Bool→Option (Int)
 | 0,_,_,_,_,_,_=>none
 | k+1,x3,x5,x26,x27,x28,x37=>if x37=true then (some 4) else (if x5≥5 then (jZ.l0 k (wrap64 (x3+1)) x26 x27 (wrap64 (x28+1))) else (jZ.l0 k x3 x26 x27 (wrap64 (x28+1))))
end
def jZ.f (k:Nat) (jI:ByteArray) (jU:Int) (fD:List Int):Option (Int):=(lS.f k jI).bind fun Uf=>(if Uf=true then (if jU<0 then (jZ.j0 k true jI jU fD) else (jZ.j0 k (decide (jU>255)) jI jU fD)) else (some 12))
set_option maxHeartbeats 8000000 in
set_option maxRecDepth 100000 in
theorem jZ.calls (k:Nat) (jI:ByteArray) (jU:Int) (uJ:Option Addr) (qW:Nat) (fD:List Int) (r:Int) (w:World) (He:Kd.C (Kd.int .i64) w uJ fD.length fD) (Hf:fD.length≤qW) (h:jZ.f k jI jU fD=some r) :
  Calls Try.prog 68 #[.agg #[.string jI,.int .i64 jU,.slice uJ fD.length qW]] w fun e w'=>e=.returned (.int .i64 r)∧Below w.heap.size w w':=by
 have Jf:=Try.underlying54
 have JD:=aA.mk He
 have Xw:=aA.mk Hf
 clear He Hf
 have HB:=aA.mk (Below.refl w.heap.size w)
 have H:((lS.f k jI).bind fun Uf=>(if Uf=true then (if jU<0 then (jZ.j0 k true jI jU fD) else (jZ.j0 k (decide (jU>255)) jI jU fD)) else (some 12)))=some r:=h
 clear h
 replace H:=Option.bind_eq_some_iff.mp H
 obtain ⟨Uf,A20,H⟩:=H
 replace H:(if Uf=true then (if jU<0 then (jZ.j0 k true jI jU fD) else (jZ.j0 k (decide (jU>255)) jI jU fD)) else (some 12))=some r:=H
 have A2:=aA.mk A20
 clear A20
 by_cases c3:Uf=true
 ·subst c3
  have H1:(if jU<0 then (jZ.j0 k true jI jU fD) else (jZ.j0 k (decide (jU>255)) jI jU fD))=some r:=by rw [if_pos rfl] at H;exact H
  clear H
  have H:=H1
  clear H1
  have HC4:=aA.mk H
  clear H
  go_enter Try.func68,Try.ntmps68
  go_upto_region 3 with (first|((with_reducible refine dH (N:=1) rfl ?_);refine dB ?hg (N:=1) ?hd (cs:=#[.string jI,.int .i64 jU,.slice uJ fD.length qW]) (t:=54) ?hr ?_;(case hd=>rfl);(case hg=>rfl);(case hr=>first|(go_simp;done)|(go_simp;rfl));intro Au hg w5 hbox hb;have bT:=aA.mk (aT (dG HB.out) hb);have bW:=aA.mk (hbox);have dA:=aA.mk ((by rw [hg];exact (aN (dG HB.out)):w.heap.size≤Au));have dN:=aA.mk ((by rw [hg];exact (aN (dG HB.out)):w.heap.size≤Au));clear HB;have HB:=bT;have rD:=bW;have aVS:=dA;have JL:=dN;clear bT bW dA dN;clear hb hbox hg;have aAt:w5.cell? ⟨Au,0,none⟩=some (.string jI):=(aC rD.out 0).trans rfl;have aAu:w5.cell? ⟨Au,1,none⟩=some (.int .i64 jU):=(aC rD.out 1).trans rfl;have aDq:w5.cell? ⟨Au,2,none⟩=some (.slice uJ fD.length qW):=(aC rD.out 2).trans rfl;have aAv:=aG rD.out 0;have aAw:=aG rD.out 1;have aDr:=aG rD.out 2)|((with_reducible refine cO (f:=83) rfl ?_);refine gI (some 9) rfl rfl Try.func83 aQ rfl #[.string jI] rfl fP ?_;(with_reducible refine (lS.calls k jI true _ A2.out).mono ?_);rintro e w' ⟨rfl,⟨nd,rfl⟩⟩;refine ⟨_,rfl,?_⟩))
  (try simp only [Act.put,JF,Gf,Jh])
  go_cut [11] (fun v11 wc=>∃ (kq:Nat) (aFD:Bool),v11=.bool aFD∧aA (jZ.j0 kq aFD jI jU fD=some r)∧aA (kq≤k)∧aA (wc.heap[Au]?=some (.cells #[.string jI,.int .i64 jU,(.slice uJ fD.length qW)] 54 (0,0)))∧aA (Below w.heap.size w wc))
  case first =>
   have H:=HC4.out;clear HC4
   by_cases c7:jU<0
   ·rw [if_pos c7] at H;have EJ:decide (jU<0)=true:=fB c7;clear c7
    (first|rw [EJ]|(simp only [nX,tY];rw [EJ])|skip)
    have H':=aA.mk H;clear H;have aDt:w5.cell? ⟨Au,0,none⟩=some (.string jI):=(aC rD.out 0).trans rfl;have aDu:w5.cell? ⟨Au,1,none⟩=some (.int .i64 jU):=(aC rD.out 1).trans rfl;have aRV:w5.cell? ⟨Au,2,none⟩=some (.slice uJ fD.length qW):=(aC rD.out 2).trans rfl;have aDv:=aG rD.out 0;have aDw:=aG rD.out 1;have aRW:=aG rD.out 2
    go_wp2
    go_meet
    case rel=>exact ⟨_,(true),gV,H',⟨by first|omega|exact Nat.le_refl _⟩,⟨by refine aH ?_;exact rD.out⟩,⟨bV HB.out JL.out⟩⟩
   ·rw [if_neg c7] at H;have EJ:decide (jU<0)=false:=kT c7;clear c7
    (first|rw [EJ]|(simp only [nX,tY];rw [EJ])|skip)
    have H':=aA.mk H;clear H;have XE:w5.cell? ⟨Au,0,none⟩=some (.string jI):=(aC rD.out 0).trans rfl;have XF:w5.cell? ⟨Au,1,none⟩=some (.int .i64 jU):=(aC rD.out 1).trans rfl;have aDD:w5.cell? ⟨Au,2,none⟩=some (.slice uJ fD.length qW):=(aC rD.out 2).trans rfl;have XG:=aG rD.out 0;have XH:=aG rD.out 1;have aDE:=aG rD.out 2
    go_wp2
    go_meet
    case rel=>exact ⟨_,(decide (jU>255)),gV,H',⟨by first|omega|exact Nat.le_refl _⟩,⟨by refine aH ?_;exact rD.out⟩,⟨bV HB.out JL.out⟩⟩
  case rest =>
   clear HC4;obtain ⟨kq,aFD,rfl,HA,HJ3,rD,HB⟩:=hcut
   cases kq with
   | zero=>exact absurd HA.out (by simp [jZ.j0])
   | succ kj3 =>
    have H:=HA.out;clear HA;simp only [jZ.j0] at H
    by_cases c10:aFD=true
    ·subst c10;have H1:(some 3)=some r:=by rw [if_pos rfl] at H;exact H
     clear H;have H:=H1;clear H1;obtain rfl:=Option.some.inj H
     go_wp2
     go_ret
     exact ⟨by first|rfl|(simp [bK,bM] <;> rfl)|(simp [*,bK,bM] <;> rfl),bV HB.out JL.out⟩
    ·replace c10:=Bool.eq_false_iff.mpr c10;subst c10;have H1:(if (fD.length:Int)>4 then (some 2) else (jZ.l0 kj3 0 fD (fD.length:Int) 0))=some r:=by rw [if_neg (show ¬ (false=true) by decide)] at H;exact H
     clear H;have H:=H1;clear H1
     by_cases c11:(fD.length:Int)>4
     ·rw [if_pos c11] at H;have KD:decide (4<(fD.length:Int))=true:=fB c11;have ZU:decide (4<fD.length)=true:=fB (by omega);clear c11;obtain rfl:=Option.some.inj H;have aMi:wc.cell? ⟨Au,0,none⟩=some (.string jI):=(aC rD.out 0).trans rfl;have aMj:wc.cell? ⟨Au,1,none⟩=some (.int .i64 jU):=(aC rD.out 1).trans rfl;have bCn:wc.cell? ⟨Au,2,none⟩=some (.slice uJ fD.length qW):=(aC rD.out 2).trans rfl;have aMk:=aG rD.out 0;have aMl:=aG rD.out 1;have bCo:=aG rD.out 2
      go_wp2
      go_ret
      exact ⟨by first|rfl|(simp [bK,bM] <;> rfl)|(simp [*,bK,bM] <;> rfl),bV HB.out JL.out⟩
     ·rw [if_neg c11] at H;have KD:decide (4<(fD.length:Int))=false:=kT c11;have ZU:decide (4<fD.length)=false:=kT (by omega);clear c11;have H':=aA.mk H;clear H;have JG:wc.cell? ⟨Au,0,none⟩=some (.string jI):=(aC rD.out 0).trans rfl;have JH:wc.cell? ⟨Au,1,none⟩=some (.int .i64 jU):=(aC rD.out 1).trans rfl;have aFa:wc.cell? ⟨Au,2,none⟩=some (.slice uJ fD.length qW):=(aC rD.out 2).trans rfl;have JI:=aG rD.out 0;have JJ:=aG rD.out 1;have aFb:=aG rD.out 2
      go_wp2
      go_loopg [3,28] kj3 (fun kq v3 v28 w'=>∃ (Ya:Int) (zZ:Int),v3=.int .i64 Ya∧v28=.int .i64 zZ∧aA (jZ.l0 kq Ya fD (fD.length:Int) zZ=some r)∧aA (kq≤kj3)∧aA (w'.heap[Au]?=some (.cells #[.string jI,.int .i64 jU,(.slice uJ fD.length qW)] 54 (0,0)))∧aA (Below w.heap.size w w'))
      case atStart=>exact ⟨(0),(0),gV,gV,H',⟨Nat.le_refl _⟩,⟨by refine aH ?_;exact rD.out⟩,⟨bV HB.out JL.out⟩⟩
      case round =>
       clear H';obtain ⟨Ya,zZ,rfl,rfl,HA,Ws,rD,HB⟩:=hrel
       cases gk with
       | zero=>exact absurd HA.out (by simp [jZ.l0])
       | succ k2 =>
        have H:=HA.out;clear HA;simp only [jZ.l0] at H
        by_cases c14:zZ<(fD.length:Int)
        ·rw [if_pos c14] at H;have QN:decide (zZ<(fD.length:Int))=true:=fB c14;clear c14
         by_cases c15:0≤zZ
         ·rw [if_pos c15] at H;have aEY:decide (0≤zZ)=true:=fB c15;clear c15
          by_cases c16:zZ<(fD.length:Int)
          ·rw [if_pos c16] at H;have NM:decide (zZ<(fD.length:Int))=true:=fB c16;clear c16;have aRX:=aA.mk H;clear H;have aRY:0≤(zZ:Int):=dU dW;have aRZ:zZ<(fD.length:Int):=dU dW;obtain ⟨aVT,bFE,aA2⟩:=Kd.jJ JD.out zZ aRY aRZ
           cases bFE
           replace aA2:=(HB.out.cell (dM w _ aA2)).trans aA2;replace aRY:=eq_true aRY;replace aRZ:=eq_true aRZ;go_upto_region 11 with (fail)
           go_cut [37] (fun v37 wc=>∃ (kq:Nat) (aA3:Bool),v37=.bool aA3∧aA (jZ.j2 kq Ya (rd fD zZ) fD (fD.length:Int) zZ aA3=some r)∧aA (kq≤k2)∧aA (wc.heap[Au]?=some (.cells #[.string jI,.int .i64 jU,(.slice (some aVT) fD.length qW)] 54 (0,0)))∧aA (Below w.heap.size w wc))
           case first =>
            have H:=aRX.out;clear aRX
            by_cases c18:(rd fD zZ)<1
            ·rw [if_pos c18] at H;have QZ:decide ((rd fD zZ)<1)=true:=fB c18;clear c18
             (first|rw [QZ]|(simp only [nX,tY];rw [QZ])|skip)
             have H':=aA.mk H;clear H
             go_wp2
             go_meet
             case rel=>exact ⟨_,(true),gV,H',⟨by have:=HJ3.out;have:=Ws.out;first|omega|exact Nat.le_refl _⟩,⟨by refine aH ?_;exact rD.out⟩,⟨bV HB.out JL.out⟩⟩
            ·rw [if_neg c18] at H;have QZ:decide ((rd fD zZ)<1)=false:=kT c18;clear c18
             (first|rw [QZ]|(simp only [nX,tY];rw [QZ])|skip)
             have H':=aA.mk H;clear H
             go_wp2
             go_meet
             case rel=>exact ⟨_,(decide ((rd fD zZ)>6)),gV,H',⟨by have:=HJ3.out;have:=Ws.out;first|omega|exact Nat.le_refl _⟩,⟨by refine aH ?_;exact rD.out⟩,⟨bV HB.out JL.out⟩⟩
           case rest =>
            clear aRX;obtain ⟨kq,aA3,rfl,HA,aMt,rD,HB⟩:=hcut
            cases kq with
            | zero=>exact absurd HA.out (by simp [jZ.j2])
            | succ aMu =>
             have H:=HA.out;clear HA;simp only [jZ.j2] at H
             by_cases c19:aA3=true
             ·subst c19;have H1:(some 4)=some r:=by rw [if_pos rfl] at H;exact H
              clear H;have H:=H1;clear H1;obtain rfl:=Option.some.inj H
              go_wp2
              go_ret
              exact ⟨by first|rfl|(simp [bK,bM] <;> rfl)|(simp [*,bK,bM] <;> rfl),bV HB.out JL.out⟩
             ·replace c19:=Bool.eq_false_iff.mpr c19;subst c19;have H1:(if (rd fD zZ)≥5 then (jZ.l0 aMu (wrap64 (Ya+1)) fD (fD.length:Int) (wrap64 (zZ+1))) else (jZ.l0 aMu Ya fD (fD.length:Int) (wrap64 (zZ+1))))=some r:=by rw [if_neg (show ¬ (false=true) by decide)] at H;exact H
              clear H;have H:=H1;clear H1
              by_cases c20:(rd fD zZ)≥5
              ·rw [if_pos c20] at H;have QT:decide (5≤(rd fD zZ))=true:=fB c20;clear c20;have H':=aA.mk H;clear H
               go_wp2
               go_roundg aMu
               case measure=>have:=HJ3.out;have:=Ws.out;have:=aMt.out;omega
               case rel=>exact ⟨(wrap64 (Ya+1)),(wrap64 (zZ+1)),gV,gV,H',⟨by have:=HJ3.out;have:=Ws.out;have:=aMt.out;omega⟩,⟨by refine aH ?_;exact rD.out⟩,⟨bV HB.out JL.out⟩⟩
              ·rw [if_neg c20] at H;have QT:decide (5≤(rd fD zZ))=false:=kT c20;clear c20;have H':=aA.mk H;clear H
               go_wp2
               go_roundg aMu
               case measure=>have:=HJ3.out;have:=Ws.out;have:=aMt.out;omega
               case rel=>exact ⟨(Ya),(wrap64 (zZ+1)),gV,gV,H',⟨by have:=HJ3.out;have:=Ws.out;have:=aMt.out;omega⟩,⟨by refine aH ?_;exact rD.out⟩,⟨bV HB.out JL.out⟩⟩
          ·rw [if_neg c16] at H;exact absurd H (by simp)
         ·rw [if_neg c15] at H;exact absurd H (by simp)
        ·rw [if_neg c14] at H;have QN:decide (zZ<(fD.length:Int))=false:=kT c14;clear c14
         by_cases c21:Ya>1
         ·rw [if_pos c21] at H;have aE2:decide (1<Ya)=true:=fB c21;clear c21;obtain rfl:=Option.some.inj H
          go_wp2
          go_ret
          exact ⟨by first|rfl|(simp [bK,bM] <;> rfl)|(simp [*,bK,bM] <;> rfl),bV HB.out JL.out⟩
         ·rw [if_neg c21] at H;have aE2:decide (1<Ya)=false:=kT c21;clear c21;obtain rfl:=Option.some.inj H
          go_wp2
          go_ret
          exact ⟨by first|rfl|(simp [bK,bM] <;> rfl)|(simp [*,bK,bM] <;> rfl),bV HB.out JL.out⟩
 ·replace c3:=Bool.eq_false_iff.mpr c3
  subst c3
  have H1:(some 12)=some r:=by rw [if_neg (show ¬ (false=true) by decide)] at H;exact H
  clear H
  have H:=H1
  clear H1
  obtain rfl:=Option.some.inj H
  go_enter Try.func68,Try.ntmps68
  go_wp2_with (first|((with_reducible refine dH (N:=1) rfl ?_);refine dB ?hg (N:=1) ?hd (cs:=#[.string jI,.int .i64 jU,.slice uJ fD.length qW]) (t:=54) ?hr ?_;(case hd=>rfl);(case hg=>rfl);(case hr=>first|(go_simp;done)|(go_simp;rfl));intro Au hg Zf hbox hb;have bT:=aA.mk (aT (dG HB.out) hb);have bW:=aA.mk (hbox);have dA:=aA.mk ((by rw [hg];exact (aN (dG HB.out)):w.heap.size≤Au));have dN:=aA.mk ((by rw [hg];exact (aN (dG HB.out)):w.heap.size≤Au));clear HB;have HB:=bT;have rD:=bW;have aVS:=dA;have JL:=dN;clear bT bW dA dN;clear hb hbox hg;have aFc:Zf.cell? ⟨Au,0,none⟩=some (.string jI):=(aC rD.out 0).trans rfl;have aFd:Zf.cell? ⟨Au,1,none⟩=some (.int .i64 jU):=(aC rD.out 1).trans rfl;have aFe:Zf.cell? ⟨Au,2,none⟩=some (.slice uJ fD.length qW):=(aC rD.out 2).trans rfl;have aFf:=aG rD.out 0;have aFg:=aG rD.out 1;have aFh:=aG rD.out 2)|((with_reducible refine cO (f:=83) rfl ?_);refine gI (some 9) rfl rfl Try.func83 aQ rfl #[.string jI] rfl fP ?_;(with_reducible refine (lS.calls k jI false _ A2.out).mono ?_);rintro e w' ⟨rfl,⟨nd,rfl⟩⟩;refine ⟨_,rfl,?_⟩))
  go_ret
  exact ⟨by first|rfl|(simp [bK,bM] <;> rfl)|(simp [*,bK,bM] <;> rfl),bV HB.out JL.out⟩
end Go.Proofs.Ytipjpdiianopcaa.A
