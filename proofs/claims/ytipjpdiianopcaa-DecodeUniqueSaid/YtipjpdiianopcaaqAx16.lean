/- Words and contracts for the laws of encode. -/
import Derived.Test.YtipjpdiianopcaaqAx0
namespace Go.Proofs.Ytipjpdiianopcaa.A
open Go.RowKit Go.Proofs.YtipjpdiianopcaaW.dF Go.Proofs.YtipjpdiianopcaaW.fO Go.Proofs.YtipjpdiianopcaaW.jP
attribute [local go_sem] mV mW oO oP lC lD mX mY
set_option linter.unusedVariables false
set_option linter.unusedSimpArgs false
mutual
def aV.l0:Nat→List Int→List Int→List Int→List Int→Int→ByteArray→Int→List Int→Option (List Int)
 | 0,_,_,_,_,_,_,_,_=>none
 | k+1,x1,x5,x6,x7,x8,ET,EU,zF=>if x8<(x1.length:Int) then (if 0≤x8 then (if x8<(zF.length:Int) then (if (rd zF x8)=1 then (aV.j1 k x1 x5 x6 x7 x8 (rd zF x8) ((rd zF x8)==1) ET EU zF) else (aV.j1 k x1 x5 x6 x7 x8 (rd zF x8) ((rd zF x8)==2) ET EU zF)) else (none)) else (none)) else (if ((x6.length:Int)%2)=1 then (if x6.length<17592186044416 then (aV.j3 k x5 (x6 ++ [0]) x7) else (none)) else (aV.j3 k x5 x6 x7))
def aV.j1:Nat→List Int→List Int→List Int→List Int→Int→Int→Bool→ByteArray→Int→List Int→Option (List Int)
 | 0,_,_,_,_,_,_,_,_,_,_=>none
 | k+1,x1,x5,x6,x7,x8,x24,x25,ET,EU,zF=>if x25=true then (if 0≤x8 then (if x8<(x1.length:Int) then (if x6.length<17592186044416 then (aV.l0 k x1 x5 (x6 ++ [rd x1 x8]) x7 (wrap64 (x8+1)) ET EU zF) else (none)) else (none)) else (none)) else (if x24=3 then (aV.j2 k x1 x5 x6 x7 x8 x24 (x24==3) ET EU zF) else (aV.j2 k x1 x5 x6 x7 x8 x24 (x24==5) ET EU zF))
def aV.j2:Nat→List Int→List Int→List Int→List Int→Int→Int→Bool→ByteArray→Int→List Int→Option (List Int)
 | 0,_,_,_,_,_,_,_,_,_,_=>none
 | k+1,x1,x5,x6,x7,x8,x24,x35,ET,EU,zF=>if x35=true then (if 0≤x8 then (if x8<(x1.length:Int) then (if x7.length<140737488355328 then (aV.l0 k x1 x5 x6 (x7 ++ [(Go.bits .and .i64 (rd x1 x8) 255)%256]) (wrap64 (x8+1)) ET EU zF) else (none)) else (none)) else (none)) else (if x24=6 then (if 0≤x8 then (if x8<(x1.length:Int) then ((some (([(Go.bits .and .i64 (rd x1 x8) 255)%256,(Go.bits .and .i64 ((rd x1 x8) / 256) 255)%256]:List Int):List Int)).bind fun Ua=>(if x7.length+Ua.length<140737488355328 then (aV.l0 k x1 x5 x6 (x7 ++ Ua) (wrap64 (x8+1)) ET EU zF) else (none))) else (none)) else (none)) else (if x24=4 then (if 0≤x8 then (if x8<(x1.length:Int) then ((some (([(Go.bits .and .i64 (rd x1 x8) 255)%256,(Go.bits .and .i64 ((rd x1 x8) / 256) 255)%256,(Go.bits .and .i64 ((rd x1 x8) / 65536) 255)%256,(Go.bits .and .i64 ((rd x1 x8) / 16777216) 255)%256]:List Int):List Int)).bind fun Ub=>(if x7.length+Ub.length<140737488355328 then (aV.l0 k x1 x5 x6 (x7 ++ Ub) (wrap64 (x8+1)) ET EU zF) else (none))) else (none)) else (none)) else (aV.l0 k x1 x5 x6 x7 (wrap64 (x8+1)) ET EU zF)))
def aV.j3:Nat→List Int→List Int→List Int→Option (List Int)
 | 0,_,_,_=>none
 | k+1,x5,x6,x7=>aV.l1 k x5 x6 x7 0
def aV.l1:Nat→List Int→List Int→List Int→Int→Option (List Int)
 | 0,_,_,_,_=>none
 | k+1,x5,x6,x7,x9=>if x9<(x6.length:Int) then (if 0≤x9 then (if 0≤(wrap64 (x9+1)) then (if (wrap64 (x9+1))<(x6.length:Int) then (if x5.length<140737488355328 then (aV.l1 k (x5 ++ [(wrap64 ((rd x6 x9)+(wrap64 (16*(rd x6 (wrap64 (x9+1)))))))%256]) x6 x7 (wrap64 (x9+2))) else (none)) else (none)) else (none)) else (none)) else (if x5.length+x7.length<140737488355328 then (some (x5 ++ x7)) else (none))
end
def aV.f (k:Nat) (jI:ByteArray) (jU:Int) (fD:List Int) (l1:List Int):Option (List Int):=aV.l0 k l1 (([(jU)%256]:List Int)) ([]:List Int) ([]:List Int) 0 jI jU fD
def aV.T15:Bool × List (List Nat × List Nat):=(true,[([],[]),([],[]),([],[]),([1,2],[1,2]),([3],[3]),([4],[4]),([5],[5]),([],[]),([],[]),([7,8],[7,8]),([9],[9]),([10],[10]),([11],[11]),([12],[12]),([6,13],[6,13]),([0,14],[0,14]),([15,15,0,1,2,3,4,5,6,7,8,9,10,11,12,13,14,15],[0,15])])
def aV.B15:List Nat:=[0,0,0,6,14,30,62,0,0,384,896,1920,3968,8064,16382,32767,65535]
theorem aV.aU0:Ap .any (opsOf Try.f48 15)=aV.T15:=by kernel_rfl
theorem aV.aRn:uF aV.T15.2 aV.B15=true:=by kernel_rfl
def aV.T17:Bool × List (List Nat × List Nat):=(true,[([],[]),([],[]),([],[]),([1,2],[1,2]),([3],[3]),([4],[4]),([5],[5]),([],[]),([],[]),([7,8],[7,8]),([9],[9]),([10],[10]),([11],[11]),([12],[12]),([],[]),([],[]),([14,15],[14,15]),([16],[16]),([17],[17]),([18],[18]),([19],[19]),([],[]),([],[]),([21,22],[21,22]),([23],[23]),([24],[24]),([25],[25]),([26],[26]),([6,13,20,27],[6,13,20,27]),([0,28],[0,28]),([29,29,0,1,2,3,4,5,6,7,8,9,10,11,12,13,14,15,16,17,18,19,20,21,22,23,24,25,26,27,28,29],[0,29])])
def aV.B17:List Nat:=[0,0,0,6,14,30,62,0,0,384,896,1920,3968,8064,0,0,49152,114688,245760,507904,1032192,0,0,6291456,14680064,31457280,65011712,132120576,268435454,536870911,1073741823]
theorem aV.aI4:Ap .any (opsOf Try.f48 17)=aV.T17:=by kernel_rfl
theorem aV.aDJ:uF aV.T17.2 aV.B17=true:=by kernel_rfl
def aV.T23:Bool × List (List Nat × List Nat):=(true,[([],[]),([],[]),([],[]),([1,2],[1,2]),([3],[3]),([],[]),([],[]),([6],[6]),([5,7],[5,7]),([8],[8]),([9],[9]),([4,10],[4,10]),([11],[11]),([12],[12]),([0,13],[0,13]),([14,14,0,1,2,3,4,5,6,7,8,9,10,11,12,13,14],[0,14])])
def aV.B23:List Nat:=[0,0,0,6,14,0,0,64,224,480,992,2046,4094,8190,16383,32767]
theorem aV.aU1:Ap .any (opsOf Try.f48 23)=aV.T23:=by kernel_rfl
theorem aV.aRo:uF aV.T23.2 aV.B23=true:=by kernel_rfl
set_option maxHeartbeats 8000000 in
set_option maxRecDepth 100000 in
theorem aV.calls (k:Nat) (jI:ByteArray) (jU:Int) (uJ:Option Addr) (qW:Nat) (fD:List Int) (A1:Option Addr) (c1:Nat) (l1:List Int) (r:List Int) (w:World) (He:Kd.C (Kd.int .i64) w uJ fD.length fD) (Hf:fD.length≤qW) (hr1:Kd.C (Kd.int .i64) w A1 l1.length l1) (hc1:l1.length≤c1) (h:aV.f k jI jU fD l1=some r) :
  Calls Try.prog 48 #[.agg #[.string jI,.int .i64 jU,.slice uJ fD.length qW],.slice A1 l1.length c1] w fun e w'=>∃ ZP:Value,e=.returned (ZP)∧Kd.R (Kd.int .u8) 5 w' w.heap.size (fun _=>True) ZP r∧Below w.heap.size w w':=by
 have Jf:=Try.underlying54
 have JD:=aA.mk He
 have Xw:=aA.mk Hf
 clear He Hf
 have HR1:=aA.mk hr1
 have Gj:=aA.mk hc1
 clear hr1 hc1
 have HB:=aA.mk (Below.refl w.heap.size w)
 have H:(aV.l0 k l1 (([(jU)%256]:List Int)) ([]:List Int) ([]:List Int) 0 jI jU fD)=some r:=h
 clear h
 obtain ⟨II,aBZ⟩:∃ y_:List Int,y_=(([(jU)%256]:List Int)):=⟨_,rfl⟩
 replace H:(aV.l0 k l1 II ([]:List Int) ([]:List Int) 0 jI jU fD)=some r:=by first|(rw [aBZ];with_reducible exact H)|(have qY:=(Option.bind_some _ _).symm.trans H;rw [aBZ];with_reducible exact qY)|(have qY:=(Option.bind_some _ _).symm.trans H;with_reducible exact qY)|with_reducible exact H|(rw [aBZ];exact H)|exact H
 have aOJ:=aA.mk aBZ
 clear aBZ
 have H':=aA.mk H
 clear H
 go_enter Try.func48,Try.ntmps48
 go_wp2_with (first|((with_reducible refine dH (N:=2) rfl ?_);refine dB ?hg (N:=2) ?hd (cs:=#[.string jI,.int .i64 jU,.slice uJ fD.length qW]) (t:=54) ?hr ?_;(case hd=>rfl);(case hg=>rfl);(case hr=>first|(go_simp;done)|(go_simp;rfl));intro BR hg w3 hbox hb;have bT:=aA.mk (aT (dG HB.out) hb);have bW:=aA.mk (hbox);have dA:=aA.mk ((by rw [hg];exact (aN (dG HB.out)):w.heap.size≤BR));have dN:=aA.mk ((by rw [hg];exact (aN (dG HB.out)):w.heap.size≤BR));clear HB;have HB:=bT;have kU:=bW;have bIB:=dA;have wJ:=dN;clear bT bW dA dN;clear hb hbox hg;have aI5:w3.cell? ⟨BR,0,none⟩=some (.string jI):=(aC kU.out 0).trans rfl;have aI6:w3.cell? ⟨BR,1,none⟩=some (.int .i64 jU):=(aC kU.out 1).trans rfl;have aRp:w3.cell? ⟨BR,2,none⟩=some (.slice uJ fD.length qW):=(aC kU.out 2).trans rfl;have aI7:=aG kU.out 0;have aI8:=aG kU.out 1;have aRq:=aG kU.out 2)|((with_reducible refine dH (N:=13) rfl ?_);refine Kd.RD (Kd.int .u8) _ 5 ?hg (N:=13) ?hd (xs:=([(jU)%256]:List Int)) (inner:=[.int .u8 ((jU)%256)]) (ok:=fun _=>True) (Io:=fun _=>True) ?hr ?hp (fun _ hk=>hk) trivial (Below.refl _ _) (Nat.le_refl _) (by simp) ?_;(case hd=>rfl);(case hg=>rfl);(case hr=>first|(go_simp;done)|(go_simp;rfl));(case hp=>exact (kW.one (show Kd.M (Kd.int .u8) _ _ _ ((jU)%256) [.int .u8 ((jU)%256)] from rfl) (kW.none _ _)));intro Uc w5 ho6 hb XT BU;clear XT BU;(first|rw [← aOJ.out] at ho6|(simp only [Int.reduceToNat] at ho6;rw [← aOJ.out] at ho6));have bT:=aA.mk (Kd.jV ho6 (aN (bV HB.out wJ.out)));have bW:=aA.mk (aK (g:=BR) (o:=.cells #[.string jI,.int .i64 jU,.slice uJ fD.length qW] 54 (0,0)) (aH kU.out) hb);have dA:=aA.mk (aT (bV HB.out wJ.out) hb);clear kU HB;have aU2:=bT;have kU:=bW;have HB:=dA;clear bT bW dA;clear hb ho6))
 go_loopg [6,7,8] k (fun kq v6 v7 v8 w'=>∃ (bZ:List Int) (tJ:List Int) (iW:Int),v8=.int .i64 iW∧aA (aV.l0 kq l1 II bZ tJ iW jI jU fD=some r)∧aA (kq≤k)∧aA (Kd.R (Kd.int .u8) 5 w' w.heap.size (fun k_=>some k_≠(v7:Value).ownBlock) Uc II)∧aA (Kd.R (Kd.int .i64) 3 w' w.heap.size (fun _=>True) v6 bZ)∧aA (Kd.R (Kd.int .u8) 5 w' w.heap.size (fun k_=>some k_≠(Uc:Value).ownBlock) v7 tJ)∧aA (w'.heap[BR]?=some (.cells #[.string jI,.int .i64 jU,(.slice uJ fD.length qW)] 54 (0,0)))∧aA (Below w.heap.size w w'))
 case atStart=>exact ⟨(([]:List Int)),(([]:List Int)),(0),gV,H',⟨Nat.le_refl _⟩,⟨by refine bH ?_;exact Kd.dX aU2.out (fun _ hk=>(by simp [Value.ownBlock]))⟩,⟨by first|exact Kd.BV _ _ _ _ _|exact Kd.KE _ _ _ _ _|exact Kd.KF _ _ _ _ _|exact Kd.KG _ _ _ _ _|exact Kd.KH _ _ _ _ _⟩,⟨by first|exact Kd.BV _ _ _ _ _|exact Kd.KE _ _ _ _ _|exact Kd.KF _ _ _ _ _|exact Kd.KG _ _ _ _ _|exact Kd.KH _ _ _ _ _⟩,⟨by refine aH ?_;exact kU.out⟩,⟨bV HB.out wJ.out⟩⟩
 case round =>
  clear H'
  obtain ⟨bZ,tJ,iW,rfl,HA,wU,qJ,tK,qL,kU,HB⟩:=hrel
  cases gk with
  | zero=>exact absurd HA.out (by simp [aV.l0])
  | succ k1 =>
   have H:=HA.out;clear HA;simp only [aV.l0] at H
   by_cases c7:iW<(l1.length:Int)
   ·rw [if_pos c7] at H;have EJ:decide (iW<(l1.length:Int))=true:=fB c7;clear c7
    by_cases c8:0≤iW
    ·rw [if_pos c8] at H;have XU:decide (0≤iW)=true:=fB c8;clear c8
     by_cases c9:iW<(fD.length:Int)
     ·rw [if_pos c9] at H;have aBP:decide (iW<(fD.length:Int))=true:=fB c9;clear c9;have aRr:=aA.mk H;clear H;have WV:wr.cell? ⟨BR,0,none⟩=some (.string jI):=(aC kU.out 0).trans rfl;have WW:wr.cell? ⟨BR,1,none⟩=some (.int .i64 jU):=(aC kU.out 1).trans rfl;have bA9:wr.cell? ⟨BR,2,none⟩=some (.slice uJ fD.length qW):=(aC kU.out 2).trans rfl;have WX:=aG kU.out 0;have WY:=aG kU.out 1;have bA_:=aG kU.out 2;have aRs:0≤(iW:Int):=dU dW;have aRt:iW<(fD.length:Int):=dU dW;obtain ⟨Vh,bFa,aAS⟩:=Kd.jJ JD.out iW aRs aRt
      cases bFa
      replace aAS:=(HB.out.cell (dM w _ aAS)).trans aAS;replace aRs:=eq_true aRs;replace aRt:=eq_true aRt
      go_upto_if 25 with (fail)
      go_cut [25] (fun v25 wc=>∃ (kq:Nat) (aFk:Bool),v25=.bool aFk∧aA (aV.j1 kq l1 II bZ tJ iW (rd fD iW) aFk jI jU fD=some r)∧aA (kq≤k1)∧aA (Kd.R (Kd.int .u8) 5 wc w.heap.size (fun k_=>some k_≠(u7:Value).ownBlock) Uc II)∧aA (Kd.R (Kd.int .i64) 3 wc w.heap.size (fun _=>True) u6 bZ)∧aA (Kd.R (Kd.int .u8) 5 wc w.heap.size (fun k_=>some k_≠(Uc:Value).ownBlock) u7 tJ)∧aA (wc.heap[BR]?=some (.cells #[.string jI,.int .i64 jU,(.slice (some Vh) fD.length qW)] 54 (0,0)))∧aA (Below w.heap.size w wc))
      case first =>
       have H:=aRr.out;clear aRr
       by_cases c12:(rd fD iW)=1
       ·rw [if_pos c12] at H;have Jg:((rd fD iW)==1)=true:=beq_iff_eq.mpr c12;have Vb:((rd fD iW) != 1)=false:=bne_eq_false_iff_eq.mpr c12;clear c12
        (first|rw [Jg]|(simp only [nX,tY];rw [Jg])|skip)
        have H':=aA.mk H;clear H
        go_wp2
        go_meet
        case rel=>exact ⟨_,(((rd fD iW)==1)),gV,H',⟨by have:=wU.out;first|omega|exact Nat.le_refl _⟩,⟨by refine bH ?_;exact qJ.out⟩,⟨by refine bH ?_;exact tK.out⟩,⟨by refine bH ?_;exact qL.out⟩,⟨by refine aH ?_;exact kU.out⟩,⟨bV HB.out wJ.out⟩⟩
       ·rw [if_neg c12] at H;have Jg:((rd fD iW)==1)=false:=beq_eq_false_iff_ne.mpr c12;have Vb:((rd fD iW) != 1)=true:=bne_iff_ne.mpr c12
        (first|rw [Jg]|(simp only [nX,tY];rw [Jg])|skip)
        have H':=aA.mk H;clear H
        go_wp2
        go_meet
        case rel=>exact ⟨_,(((rd fD iW)==2)),gV,H',⟨by have:=wU.out;first|omega|exact Nat.le_refl _⟩,⟨by refine bH ?_;exact qJ.out⟩,⟨by refine bH ?_;exact tK.out⟩,⟨by refine bH ?_;exact qL.out⟩,⟨by refine aH ?_;exact kU.out⟩,⟨bV HB.out wJ.out⟩⟩
      case rest =>
       clear aRr;obtain ⟨kq,aFk,rfl,HA,HJ9,qJ,tK,qL,kU,HB⟩:=hcut
       cases kq with
       | zero=>exact absurd HA.out (by simp [aV.j1])
       | succ kj9 =>
        have H:=HA.out;clear HA;simp only [aV.j1] at H
        by_cases c13:aFk=true
        ·subst c13;have H1:(if 0≤iW then (if iW<(l1.length:Int) then (if bZ.length<17592186044416 then (aV.l0 kj9 l1 II (bZ ++ [rd l1 iW]) tJ (wrap64 (iW+1)) jI jU fD) else (none)) else (none)) else (none))=some r:=by rw [if_pos rfl] at H;exact H
         clear H;have H:=H1;clear H1
         by_cases c14:0≤iW
         ·rw [if_pos c14] at H;have QN:decide (0≤iW)=true:=fB c14;clear c14
          by_cases c15:iW<(l1.length:Int)
          ·rw [if_pos c15] at H;have aEY:decide (iW<(l1.length:Int))=true:=fB c15;clear c15
           by_cases c16:bZ.length<17592186044416
           ·rw [if_pos c16] at H;have aU3:=aA.mk c16;clear c16;obtain ⟨aU4,aB0⟩:∃ y_:List Int,y_=(bZ ++ [rd l1 iW]):=⟨_,rfl⟩
            replace H:(aV.l0 kj9 l1 II aU4 tJ (wrap64 (iW+1)) jI jU fD)=some r:=by first|(rw [aB0];with_reducible exact H)|(have qY:=(Option.bind_some _ _).symm.trans H;rw [aB0];with_reducible exact qY)|(have qY:=(Option.bind_some _ _).symm.trans H;with_reducible exact qY)|with_reducible exact H|(rw [aB0];exact H)|exact H
            have aU5:=aA.mk aB0;clear aB0;have H':=aA.mk H;clear H;have aRu:0≤(iW:Int):=dU dW;have aRv:iW<(l1.length:Int):=dU dW;obtain ⟨bIC,bFb,aAT⟩:=Kd.jJ HR1.out iW aRu aRv
            cases bFb
            replace aAT:=(HB.out.cell (dM w _ aAT)).trans aAT;replace aRu:=eq_true aRu;replace aRv:=eq_true aRv
            go_wp2_with (first|((with_reducible refine qM (b:=.append) (xs:=#[.tmp 28,.tmp 33]) rfl ?_);at_builtin;refine Kd.EW (Kd.int .i64) (w0:=w) w.heap.size rfl (.tmp 28) (.tmp 33) 22 3 (.int .i64 0) 8 rfl Try.underlying22 info3 rfl (by decide) (by omega) u6 bZ (rd l1 iW) [.int .i64 (rd l1 iW)] (fun _=>True) (fun _=>False) rfl rfl ?aP (fun _ hk=>hk.elim) ?aF ?aO ?aB ?aS ?aL ?_;(case aP=>exact rfl);(case aB=>exact (bV HB.out wJ.out));(case aF=>exact (fun _ _=>trivial));(case aO=>exact (bH tK.out));(case aS=>exact (aN (bV HB.out wJ.out)));(case aL=>have:=aU3.out;omega);intro bKZ w17 ho hb hg hat;rw [← aU5.out] at ho;have bT:=aA.mk (Kd.EX (bH qJ.out) (Kd.yP (bH tK.out)) (by decide) hg);have bW:=aA.mk (Kd.EX (bH qL.out) (Kd.yP (bH tK.out)) (by decide) hg);have dA:=aA.mk (kD (g:=BR) (o:=.cells #[.string jI,.int .i64 jU,.slice (some Vh) fD.length qW] 54 (0,0)) (aH kU.out) hg (Kd.AO tK.out kU.out (by decide)));have dN:=aA.mk (hb);have eY:=aA.mk (ho);clear qJ qL kU HB tK;have qJ:=bT;have qL:=bW;have kU:=dA;have HB:=dN;have aU6:=eY;clear bT bW dA dN eY;clear ho hb hg hat))
            go_roundg kj9
            case measure=>have:=wU.out;have:=HJ9.out;omega
            case rel=>exact ⟨(aU4),(tJ),(wrap64 (iW+1)),gV,H',⟨by have:=wU.out;have:=HJ9.out;omega⟩,⟨by refine bH ?_;exact qJ.out⟩,⟨by refine bH ?_;exact aU6.out⟩,⟨by refine bH ?_;exact qL.out⟩,⟨by refine aH ?_;exact kU.out⟩,⟨bV HB.out wJ.out⟩⟩
           ·rw [if_neg c16] at H;exact absurd H (by simp)
          ·rw [if_neg c15] at H;exact absurd H (by simp)
         ·rw [if_neg c14] at H;exact absurd H (by simp)
        ·replace c13:=Bool.eq_false_iff.mpr c13;subst c13;have H1:(if (rd fD iW)=3 then (aV.j2 kj9 l1 II bZ tJ iW (rd fD iW) ((rd fD iW)==3) jI jU fD) else (aV.j2 kj9 l1 II bZ tJ iW (rd fD iW) ((rd fD iW)==5) jI jU fD))=some r:=by rw [if_neg (show ¬ (false=true) by decide)] at H;exact H
         clear H;have H:=H1;clear H1;have aRw:=aA.mk H;clear H
         go_upto_if 35 with (fail)
         go_cut [35] (fun v35 wc=>∃ (kq:Nat) (aAU:Bool),v35=.bool aAU∧aA (aV.j2 kq l1 II bZ tJ iW (rd fD iW) aAU jI jU fD=some r)∧aA (kq≤kj9)∧aA (Kd.R (Kd.int .u8) 5 wc w.heap.size (fun k_=>some k_≠(u7:Value).ownBlock) Uc II)∧aA (Kd.R (Kd.int .i64) 3 wc w.heap.size (fun _=>True) u6 bZ)∧aA (Kd.R (Kd.int .u8) 5 wc w.heap.size (fun k_=>some k_≠(Uc:Value).ownBlock) u7 tJ)∧aA (wc.heap[BR]?=some (.cells #[.string jI,.int .i64 jU,(.slice (some Vh) fD.length qW)] 54 (0,0)))∧aA (Below w.heap.size w wc))
         case first =>
          have H:=aRw.out;clear aRw
          by_cases c19:(rd fD iW)=3
          ·rw [if_pos c19] at H;have KC:((rd fD iW)==3)=true:=beq_iff_eq.mpr c19;have aFl:((rd fD iW) != 3)=false:=bne_eq_false_iff_eq.mpr c19;clear c19
           (first|rw [KC]|(simp only [nX,tY];rw [KC])|skip)
           have H':=aA.mk H;clear H
           go_wp2
           go_meet
           case rel=>exact ⟨_,(((rd fD iW)==3)),gV,H',⟨by have:=wU.out;have:=HJ9.out;first|omega|exact Nat.le_refl _⟩,⟨by refine bH ?_;exact qJ.out⟩,⟨by refine bH ?_;exact tK.out⟩,⟨by refine bH ?_;exact qL.out⟩,⟨by refine aH ?_;exact kU.out⟩,⟨bV HB.out wJ.out⟩⟩
          ·rw [if_neg c19] at H;have KC:((rd fD iW)==3)=false:=beq_eq_false_iff_ne.mpr c19;have aFl:((rd fD iW) != 3)=true:=bne_iff_ne.mpr c19
           (first|rw [KC]|(simp only [nX,tY];rw [KC])|skip)
           have H':=aA.mk H;clear H
           go_wp2
           go_meet
           case rel=>exact ⟨_,(((rd fD iW)==5)),gV,H',⟨by have:=wU.out;have:=HJ9.out;first|omega|exact Nat.le_refl _⟩,⟨by refine bH ?_;exact qJ.out⟩,⟨by refine bH ?_;exact tK.out⟩,⟨by refine bH ?_;exact qL.out⟩,⟨by refine aH ?_;exact kU.out⟩,⟨bV HB.out wJ.out⟩⟩
         case rest =>
          clear aRw;obtain ⟨kq,aAU,rfl,HA,aB1,qJ,tK,qL,kU,HB⟩:=hcut
          cases kq with
          | zero=>exact absurd HA.out (by simp [aV.j2])
          | succ Ud =>
           have H:=HA.out;clear HA;simp only [aV.j2] at H
           by_cases c20:aAU=true
           ·subst c20;have H1:(if 0≤iW then (if iW<(l1.length:Int) then (if tJ.length<140737488355328 then (aV.l0 Ud l1 II bZ (tJ ++ [(Go.bits .and .i64 (rd l1 iW) 255)%256]) (wrap64 (iW+1)) jI jU fD) else (none)) else (none)) else (none))=some r:=by rw [if_pos rfl] at H;exact H
            clear H;have H:=H1;clear H1
            by_cases c21:0≤iW
            ·rw [if_pos c21] at H;have aE2:decide (0≤iW)=true:=fB c21;clear c21
             by_cases Ze:iW<(l1.length:Int)
             ·rw [if_pos Ze] at H;have aIO:decide (iW<(l1.length:Int))=true:=fB Ze;clear Ze
              by_cases c23:tJ.length<140737488355328
              ·rw [if_pos c23] at H;have aU7:=aA.mk c23;clear c23;obtain ⟨aU8,aB2⟩:∃ y_:List Int,y_=(tJ ++ [(Go.bits .and .i64 (rd l1 iW) 255)%256]):=⟨_,rfl⟩
               replace H:(aV.l0 Ud l1 II bZ aU8 (wrap64 (iW+1)) jI jU fD)=some r:=by first|(rw [aB2];with_reducible exact H)|(have qY:=(Option.bind_some _ _).symm.trans H;rw [aB2];with_reducible exact qY)|(have qY:=(Option.bind_some _ _).symm.trans H;with_reducible exact qY)|with_reducible exact H|(rw [aB2];exact H)|exact H
               have aU9:=aA.mk aB2;clear aB2;have H':=aA.mk H;clear H;have aRx:0≤(iW:Int):=dU dW;have aRy:iW<(l1.length:Int):=dU dW;obtain ⟨bID,bFc,aAV⟩:=Kd.jJ HR1.out iW aRx aRy
               cases bFc
               replace aAV:=(HB.out.cell (dM w _ aAV)).trans aAV;replace aRx:=eq_true aRx;replace aRy:=eq_true aRy
               go_wp2_with (first|((with_reducible refine qM (b:=.append) (xs:=#[.tmp 38,.tmp 45]) rfl ?_);at_builtin;refine Kd.EW (Kd.int .u8) (w0:=w) w.heap.size rfl (.tmp 38) (.tmp 45) 25 5 (.int .u8 0) 1 rfl Try.underlying25 info5 rfl (by decide) (by omega) u7 tJ ((Go.bits .and .i64 (rd l1 iW) 255)%256) [.int .u8 ((Go.bits .and .i64 (rd l1 iW) 255)%256)] (fun k_=>some k_≠(Uc:Value).ownBlock) (fun _=>False) rfl rfl ?aP (fun _ hk=>hk.elim) ?aF ?aO ?aB ?aS ?aL ?_;(case aP=>exact rfl);(case aB=>exact (bV HB.out wJ.out));(case aF=>exact (fun k_ hk=>Kd.fresh' (Kd.wK (bH qJ.out)) k_ hk));(case aO=>exact (bH qL.out));(case aS=>exact (aN (bV HB.out wJ.out)));(case aL=>have:=aU7.out;omega);intro bK0 w24 ho hb hg hat;rw [← aU9.out] at ho;have bT:=aA.mk (Kd.EY (ok:=(fun _=>True)) (by refine bH ?_;exact Kd.dX qJ.out (fun _ hk=>⟨trivial,hk⟩)) hg hat);have bW:=aA.mk (Kd.EX (bH tK.out) (Kd.yP (bH qL.out)) (by decide) hg);have dA:=aA.mk (kD (g:=BR) (o:=.cells #[.string jI,.int .i64 jU,.slice (some Vh) fD.length qW] 54 (0,0)) (aH kU.out) hg (Kd.AO qL.out kU.out (by decide)));have dN:=aA.mk (hb);have eY:=aA.mk (ho);clear qJ tK kU HB qL;have qJ:=bT;have tK:=bW;have kU:=dA;have HB:=dN;have aU_:=eY;clear bT bW dA dN eY;clear ho hb hg hat))
               go_roundg Ud
               case measure=>have:=wU.out;have:=HJ9.out;have:=aB1.out;omega
               case rel=>exact ⟨(bZ),(aU8),(wrap64 (iW+1)),gV,H',⟨by have:=wU.out;have:=HJ9.out;have:=aB1.out;omega⟩,⟨by refine bH ?_;exact Kd.dX qJ.out (fun _ hk=>hk.2)⟩,⟨by refine bH ?_;exact tK.out⟩,⟨by refine bH ?_;exact aU_.out⟩,⟨by refine aH ?_;exact kU.out⟩,⟨bV HB.out wJ.out⟩⟩
              ·rw [if_neg c23] at H;exact absurd H (by simp)
             ·rw [if_neg Ze] at H;exact absurd H (by simp)
            ·rw [if_neg c21] at H;exact absurd H (by simp)
           ·replace c20:=Bool.eq_false_iff.mpr c20;subst c20;have H1:(if (rd fD iW)=6 then (if 0≤iW then (if iW<(l1.length:Int) then ((some (([(Go.bits .and .i64 (rd l1 iW) 255)%256,(Go.bits .and .i64 ((rd l1 iW) / 256) 255)%256]:List Int):List Int)).bind fun Ua=>(if tJ.length+Ua.length<140737488355328 then (aV.l0 Ud l1 II bZ (tJ ++ Ua) (wrap64 (iW+1)) jI jU fD) else (none))) else (none)) else (none)) else (if (rd fD iW)=4 then (if 0≤iW then (if iW<(l1.length:Int) then ((some (([(Go.bits .and .i64 (rd l1 iW) 255)%256,(Go.bits .and .i64 ((rd l1 iW) / 256) 255)%256,(Go.bits .and .i64 ((rd l1 iW) / 65536) 255)%256,(Go.bits .and .i64 ((rd l1 iW) / 16777216) 255)%256]:List Int):List Int)).bind fun Ub=>(if tJ.length+Ub.length<140737488355328 then (aV.l0 Ud l1 II bZ (tJ ++ Ub) (wrap64 (iW+1)) jI jU fD) else (none))) else (none)) else (none)) else (aV.l0 Ud l1 II bZ tJ (wrap64 (iW+1)) jI jU fD)))=some r:=by rw [if_neg (show ¬ (false=true) by decide)] at H;exact H
            clear H;have H:=H1;clear H1
            by_cases c25:(rd fD iW)=6
            ·rw [if_pos c25] at H;have aBU:((rd fD iW)==6)=true:=beq_iff_eq.mpr c25;have aOF:((rd fD iW) != 6)=false:=bne_eq_false_iff_eq.mpr c25;clear c25
             by_cases WI:0≤iW
             ·rw [if_pos WI] at H;have Rh:decide (0≤iW)=true:=fB WI;clear WI
              by_cases TU:iW<(l1.length:Int)
              ·rw [if_pos TU] at H;have aE8:decide (iW<(l1.length:Int))=true:=fB TU;clear TU;obtain ⟨Ua,aB3⟩:∃ y_:List Int,y_=(([(Go.bits .and .i64 (rd l1 iW) 255)%256,(Go.bits .and .i64 ((rd l1 iW) / 256) 255)%256]:List Int)):=⟨_,rfl⟩
               replace H:(if tJ.length+Ua.length<140737488355328 then (aV.l0 Ud l1 II bZ (tJ ++ Ua) (wrap64 (iW+1)) jI jU fD) else (none))=some r:=by first|(rw [aB3];with_reducible exact H)|(have qY:=(Option.bind_some _ _).symm.trans H;rw [aB3];with_reducible exact qY)|(have qY:=(Option.bind_some _ _).symm.trans H;with_reducible exact qY)|with_reducible exact H|(rw [aB3];exact H)|exact H
               have aOK:=aA.mk aB3;clear aB3
               by_cases c28:tJ.length+Ua.length<140737488355328
               ·rw [if_pos c28] at H;have aVa:=aA.mk c28;clear c28;obtain ⟨aVb,aB4⟩:∃ y_:List Int,y_=(tJ ++ Ua):=⟨_,rfl⟩
                replace H:(aV.l0 Ud l1 II bZ aVb (wrap64 (iW+1)) jI jU fD)=some r:=by first|(rw [aB4];with_reducible exact H)|(have qY:=(Option.bind_some _ _).symm.trans H;rw [aB4];with_reducible exact qY)|(have qY:=(Option.bind_some _ _).symm.trans H;with_reducible exact qY)|with_reducible exact H|(rw [aB4];exact H)|exact H
                have aVc:=aA.mk aB4;clear aB4;have H':=aA.mk H;clear H
                try go_wp2
                have bT:=aA.mk (Kd.qG qJ.out);have bW:=aA.mk (Kd.qG tK.out);have dA:=aA.mk (Kd.qG qL.out);have dN:=aA.mk (dY kU.out);have eY:=aA.mk (fZ HB.out);clear qJ;clear tK;clear qL;clear kU;clear HB;have qJ:=bT;have tK:=bW;have qL:=dA;have kU:=dN;have HB:=eY;clear bT bW dA dN eY;have aRz:0≤(iW:Int):=dU dW;have aRA:iW<(l1.length:Int):=dU dW;obtain ⟨aI9,bFd,RF⟩:=Kd.jJ HR1.out iW aRz aRA;have Pg:=RF
                cases bFd
                replace RF:=(HB.out.cell (dM w _ RF)).trans RF;replace aRz:=eq_true aRz;replace aRA:=eq_true aRA;have aRB:0≤(iW:Int):=dU dW;have aRC:iW<(l1.length:Int):=dU dW;obtain ⟨aVd,bFe,RG⟩:=Kd.jJ HR1.out iW aRB aRC;have Ph:=RG;obtain rfl:aI9=aVd:=(by injection bFe);replace RG:=(HB.out.cell (dM w _ RG)).trans RG;replace aRB:=eq_true aRB;replace aRC:=eq_true aRC;refine qZ (n:=17) (S:=fun w'=>w'.cell? (aI9.add (iW).toNat)=some (.int .i64 (rd l1 iW))∧w'.cell? (aI9.add (iW).toNat)=some (.int .i64 (rd l1 iW))) (ds:=[]) #[false,false,false,false,false,false,false,false,false,false,false,false,false,false,false,false,false] aQ rfl rfl ⟨((HB.out.cell (dM w _ Pg)).trans Pg),((HB.out.cell (dM w _ Ph)).trans Ph)⟩ (fun hHeld=>?_);refine nK aV.aU0 aV.aRn (fun gG zQ=>?_);generalize wc.drew=w29 at qJ tK qL kU HB RF RG hHeld ⊢;refine bQ (i:=0) (N:=some 49) (v:=?_) (a':=?_) #[true,false,false,false,false,false,false,false,false,false,false,false,false,false,false,false,false] rfl rfl (bP gG.out aQ) (fun _ _ _ h=>h) (bG ?_) ?_ ?_;rotate_left
                ·intro w';go_simp;with_reducible rfl
                rotate_left
                ·simp only [Act.put,aX];rfl
                refine bQ (i:=1) (N:=some 50) (v:=?_) (a':=?_) #[true,true,false,false,false,false,false,false,false,false,false,false,false,false,false,false,false] rfl rfl (bP gG.out aQ) (fun _ _ _ h=>h) (bG ?_) ?_ ?_;rotate_left
                ·intro w';go_simp;with_reducible rfl
                rotate_left
                ·simp only [Act.put,aX];rfl
                refine bQ (i:=2) (N:=some 51) (v:=?_) (a':=?_) #[true,true,true,false,false,false,false,false,false,false,false,false,false,false,false,false,false] rfl rfl (bP gG.out aQ) (fun _ _ _ h=>h) (bG ?_) ?_ ?_;rotate_left
                ·intro w';go_simp;with_reducible rfl
                rotate_left
                ·simp only [Act.put,aX];rfl
                refine bQ (i:=3) (N:=some 52) (v:=?_) (a':=?_) #[true,true,true,true,false,false,false,false,false,false,false,false,false,false,false,false,false] rfl rfl (bP gG.out aQ) (fun _ _ _ h=>h) (bG ?_) ?_ ?_;rotate_left
                ·intro w';go_simp;with_reducible rfl
                rotate_left
                ·simp only [Act.put,aX];rfl
                refine bQ (i:=7) (N:=some 56) (v:=?_) (a':=?_) #[true,true,true,true,false,false,false,true,false,false,false,false,false,false,false,false,false] rfl rfl (bP gG.out aQ) (fun _ _ _ h=>h) (bG ?_) ?_ ?_;rotate_left
                ·intro w';go_simp;with_reducible rfl
                rotate_left
                ·simp only [Act.put,aX];rfl
                refine bQ (i:=8) (N:=some 57) (v:=?_) (a':=?_) #[true,true,true,true,false,false,false,true,true,false,false,false,false,false,false,false,false] rfl rfl (bP gG.out aQ) (fun _ _ _ h=>h) (bG ?_) ?_ ?_;rotate_left
                ·intro w';go_simp;with_reducible rfl
                rotate_left
                ·simp only [Act.put,aX];rfl
                refine bQ (i:=9) (N:=some 58) (v:=?_) (a':=?_) #[true,true,true,true,false,false,false,true,true,true,false,false,false,false,false,false,false] rfl rfl (bP gG.out aQ) (fun _ _ _ h=>h) (bG ?_) ?_ ?_;rotate_left
                ·intro w';go_simp;with_reducible rfl
                rotate_left
                ·simp only [Act.put,aX];rfl
                refine iQ (i:=4) (N:=some 53) (v:=?_) (a':=?_) #[true,true,true,true,true,false,false,true,true,true,false,false,false,false,false,false,false] rfl rfl (iH gG.out zQ.out aQ) (fun _ _ _ h=>h) (bG ?_) hHeld ?_ ?_;rotate_left
                ·rintro w' ⟨s0,s1⟩;go_simp;with_reducible rfl
                rotate_left
                ·simp only [Act.put,aX];rfl
                refine bQ (i:=5) (N:=some 54) (v:=?_) (a':=?_) #[true,true,true,true,true,true,false,true,true,true,false,false,false,false,false,false,false] rfl rfl (bP gG.out aQ) (fun _ _ _ h=>h) (bG ?_) ?_ ?_;rotate_left
                ·intro w';go_simp;with_reducible rfl
                rotate_left
                ·simp only [Act.put,aX];rfl
                refine bQ (i:=6) (N:=some 55) (v:=?_) (a':=?_) #[true,true,true,true,true,true,true,true,true,true,false,false,false,false,false,false,false] rfl rfl (bP gG.out aQ) (fun _ _ _ h=>h) (bG ?_) ?_ ?_;rotate_left
                ·intro w';go_simp;with_reducible rfl
                rotate_left
                ·simp only [Act.put,aX];rfl
                refine iQ (i:=10) (N:=some 59) (v:=?_) (a':=?_) #[true,true,true,true,true,true,true,true,true,true,true,false,false,false,false,false,false] rfl rfl (iH gG.out zQ.out aQ) (fun _ _ _ h=>h) (bG ?_) hHeld ?_ ?_;rotate_left
                ·rintro w' ⟨s0,s1⟩;go_simp;with_reducible rfl
                rotate_left
                ·simp only [Act.put,aX];rfl
                refine bQ (i:=11) (N:=some 60) (v:=?_) (a':=?_) #[true,true,true,true,true,true,true,true,true,true,true,true,false,false,false,false,false] rfl rfl (bP gG.out aQ) (fun _ _ _ h=>h) (bG ?_) ?_ ?_;rotate_left
                ·intro w';go_simp;with_reducible rfl
                rotate_left
                ·simp only [Act.put,aX];rfl
                refine bQ (i:=12) (N:=some 61) (v:=?_) (a':=?_) #[true,true,true,true,true,true,true,true,true,true,true,true,true,false,false,false,false] rfl rfl (bP gG.out aQ) (fun _ _ _ h=>h) (bG ?_) ?_ ?_;rotate_left
                ·intro w';go_simp;with_reducible rfl
                rotate_left
                ·simp only [Act.put,aX];rfl
                refine bQ (i:=13) (N:=some 62) (v:=?_) (a':=?_) #[true,true,true,true,true,true,true,true,true,true,true,true,true,true,false,false,false] rfl rfl (bP gG.out aQ) (fun _ _ _ h=>h) (bG ?_) ?_ ?_;rotate_left
                ·intro w';go_simp;with_reducible rfl
                rotate_left
                ·simp only [Act.put,aX];rfl
                refine wL (i:=14) (N:=some 63) #[true,true,true,true,true,true,true,true,true,true,true,true,true,true,true,false,false] rfl rfl (qH gG.out aQ) (by decide) (fun K hK=>?_);refine Kd.Qz (Kd.int .u8) _ 5 ?hg (N:=63) ?hd (xs:=([(Go.bits .and .i64 (rd l1 iW) 255)%256,(Go.bits .and .i64 ((rd l1 iW) / 256) 255)%256]:List Int)) (inner:=[.int .u8 ((Go.bits .and .i64 (rd l1 iW) 255)%256),.int .u8 ((Go.bits .and .i64 ((rd l1 iW) / 256) 255)%256)]) (ok:=fun _=>True) (Io:=fun _=>True) ?hr ?hp (fun _ hk=>hk) trivial (Below.refl _ _) (Nat.le_refl _) (by simp) ?_;(case hd=>rfl);(case hg=>rfl);(case hr=>first|(go_simp;done)|(go_simp;rfl));(case hp=>exact (kW.one (show Kd.M (Kd.int .u8) _ _ _ ((Go.bits .and .i64 (rd l1 iW) 255)%256) [.int .u8 ((Go.bits .and .i64 (rd l1 iW) 255)%256)] from rfl) (kW.one (show Kd.M (Kd.int .u8) _ _ _ ((Go.bits .and .i64 ((rd l1 iW) / 256) 255)%256) [.int .u8 ((Go.bits .and .i64 ((rd l1 iW) / 256) 255)%256)] from rfl) (kW.none _ _))));intro bK1 Ql aDK hb XT BU;clear XT BU
                (first|rw [← aOK.out] at aDK|(simp only [Int.reduceToNat] at aDK;rw [← aOK.out] at aDK))
                have bT:=aA.mk (Kd.lH (bH qJ.out) (Kd.jY aDK) hb);have bW:=aA.mk (Kd.dI (bH tK.out) hb);have dA:=aA.mk (Kd.lH (bH qL.out) (Kd.jY aDK) hb);have dN:=aA.mk (Kd.jV (Kd.qQ (Kd.qQ aDK (Kd.wK (bH qJ.out))) (Kd.wK (bH qL.out))) (aN (bV HB.out wJ.out)));have eY:=aA.mk (aK (g:=BR) (o:=.cells #[.string jI,.int .i64 jU,.slice (some Vh) fD.length qW] 54 (0,0)) (aH kU.out) hb);have fV:=aA.mk (aT (bV HB.out wJ.out) hb);clear qJ;clear tK;clear qL;clear kU;clear HB;have qJ:=bT;have tK:=bW;have qL:=dA;have ZQ:=dN;have kU:=eY;have HB:=fV;clear bT bW dA dN eY fV;clear hb aDK;obtain ⟨aVe,aVf,aVg⟩:=Kd.iK ZQ.out
                (first|subst aVg|(injection aVg with Hl NQ Ho;have NR:=Hl.symm;have NS:=Ho.symm;clear Hl NQ Ho;subst NR;subst NS))
                refine hK.out _ _ ⟨((HB.out.cell (dM w _ Pg)).trans Pg),((HB.out.cell (dM w _ Ph)).trans Ph)⟩ (fun hHeld=>?_);clear hK K;refine sJ (a':=?_) ?_ ?_;rotate_left
                ·show Act.put _ (some 63) _=_;simp only [Act.put,aX];rfl
                refine wL (i:=15) (N:=some 64) #[true,true,true,true,true,true,true,true,true,true,true,true,true,true,true,true,false] rfl rfl (qH gG.out aQ) (by decide) (fun K hK=>?_);refine Kd.Jm (Kd.int .u8) (w0:=w) w.heap.size (by rfl) (.tmp 49) (.tmp 63) 25 5 (.int .u8 0) 1 rfl Try.underlying25 info5 rfl (by decide) (by omega) u7 tJ Ua _ _ _ (fun k_=>some k_≠(Uc:Value).ownBlock∧some k_≠(.slice aVe Ua.length aVf:Value).ownBlock) (fun _=>False) rfl rfl ?aO ?aR (fun _ _ h=>h) (fun _ h=>h.elim) ?aF ?aB ?aS ?aL ?_
                (case aR=>repeat (first|exact (Kd.fM ZQ.out).2.2|(with_reducible refine Kd.fG ?_ _)|(with_reducible refine Kd.fC ?_ _)|(with_reducible refine Kd.gJ ?_)))
                (case aB=>exact (bV HB.out wJ.out))
                (case aF=>exact (fun k_ hk=>⟨Kd.fresh' (Kd.wK (bH qJ.out)) k_ hk,Kd.fresh' (Kd.wK (bH ZQ.out)) k_ hk⟩))
                (case aO=>exact (bH qL.out))
                (case aS=>exact (aN (bV HB.out wJ.out)))
                (case aL=>have:=aVa.out;omega)
                intro bK2 w32 ho hb hg hat
                rw [← aVc.out] at ho;have bT:=aA.mk (Kd.EY (ok:=(fun k_=>some k_≠(.slice aVe Ua.length aVf:Value).ownBlock)) (by refine bH ?_;exact Kd.dX qJ.out (fun _ hk=>⟨hk.2,hk.1⟩)) hg hat);have bW:=aA.mk (Kd.EX (bH tK.out) (Kd.yP (bH qL.out)) (by decide) hg);have dA:=aA.mk (kD (g:=BR) (o:=.cells #[.string jI,.int .i64 jU,.slice (some Vh) fD.length qW] 54 (0,0)) (aH kU.out) hg (Kd.AO qL.out kU.out (by decide)));have dN:=aA.mk (Kd.EY (ok:=(fun k_=>some k_≠(Uc:Value).ownBlock)) (by refine bH ?_;exact Kd.dX ZQ.out (fun _ hk=>⟨hk.1.2,hk.2⟩)) hg hat);have eY:=aA.mk (hb);have fV:=aA.mk (ho);clear qJ;clear tK;clear kU;clear ZQ;clear HB;clear qL;have qJ:=bT;have tK:=bW;have kU:=dA;have ZQ:=dN;have HB:=eY;have aVh:=fV;clear bT bW dA dN eY fV;clear ho hb hg hat
                refine hK.out _ _ ⟨((HB.out.cell (dM w _ Pg)).trans Pg),((HB.out.cell (dM w _ Ph)).trans Ph)⟩ (fun hHeld=>?_);clear hK K;refine sJ (a':=?_) ?_ ?_;rotate_left
                ·show Act.put _ (some 64) _=_;simp only [Act.put,aX];rfl
                refine bQ (i:=16) (N:=some 7) (v:=?_) (a':=?_) #[true,true,true,true,true,true,true,true,true,true,true,true,true,true,true,true,true] rfl rfl (bP gG.out aQ) (fun _ _ _ h=>h) (bG ?_) ?_ ?_;rotate_left
                ·intro w';go_simp;with_reducible rfl
                rotate_left
                ·simp only [Act.put,aX];rfl
                refine sG (sH gG.out aQ) ?_
                try go_wp2
                go_roundg Ud
                case measure=>have:=wU.out;have:=HJ9.out;have:=aB1.out;omega
                case rel=>exact ⟨(bZ),(aVb),(wrap64 (iW+1)),gV,H',⟨by have:=wU.out;have:=HJ9.out;have:=aB1.out;omega⟩,⟨by refine bH ?_;exact Kd.dX qJ.out (fun _ hk=>hk.2)⟩,⟨by refine bH ?_;exact tK.out⟩,⟨by refine bH ?_;exact Kd.dX aVh.out (fun _ hk=>hk.1)⟩,⟨by refine aH ?_;exact kU.out⟩,⟨bV HB.out wJ.out⟩⟩
               ·rw [if_neg c28] at H;exact absurd H (by simp)
              ·rw [if_neg TU] at H;exact absurd H (by simp)
             ·rw [if_neg WI] at H;exact absurd H (by simp)
            ·rw [if_neg c25] at H;have aBU:((rd fD iW)==6)=false:=beq_eq_false_iff_ne.mpr c25;have aOF:((rd fD iW) != 6)=true:=bne_iff_ne.mpr c25
             by_cases c34:(rd fD iW)=4
             ·rw [if_pos c34] at H;have aI_:((rd fD iW)==4)=true:=beq_iff_eq.mpr c34;have aJa:((rd fD iW) != 4)=false:=bne_eq_false_iff_eq.mpr c34;clear c34
              by_cases Jn:0≤iW
              ·rw [if_pos Jn] at H;have ZR:decide (0≤iW)=true:=fB Jn;clear Jn
               by_cases c36:iW<(l1.length:Int)
               ·rw [if_pos c36] at H;have aOL:decide (iW<(l1.length:Int))=true:=fB c36;clear c36;obtain ⟨Ub,aB5⟩:∃ y_:List Int,y_=(([(Go.bits .and .i64 (rd l1 iW) 255)%256,(Go.bits .and .i64 ((rd l1 iW) / 256) 255)%256,(Go.bits .and .i64 ((rd l1 iW) / 65536) 255)%256,(Go.bits .and .i64 ((rd l1 iW) / 16777216) 255)%256]:List Int)):=⟨_,rfl⟩
                replace H:(if tJ.length+Ub.length<140737488355328 then (aV.l0 Ud l1 II bZ (tJ ++ Ub) (wrap64 (iW+1)) jI jU fD) else (none))=some r:=by first|(rw [aB5];with_reducible exact H)|(have qY:=(Option.bind_some _ _).symm.trans H;rw [aB5];with_reducible exact qY)|(have qY:=(Option.bind_some _ _).symm.trans H;with_reducible exact qY)|with_reducible exact H|(rw [aB5];exact H)|exact H
                have aOM:=aA.mk aB5;clear aB5
                by_cases c37:tJ.length+Ub.length<140737488355328
                ·rw [if_pos c37] at H;have aVi:=aA.mk c37;clear c37;obtain ⟨aVj,aB6⟩:∃ y_:List Int,y_=(tJ ++ Ub):=⟨_,rfl⟩
                 replace H:(aV.l0 Ud l1 II bZ aVj (wrap64 (iW+1)) jI jU fD)=some r:=by first|(rw [aB6];with_reducible exact H)|(have qY:=(Option.bind_some _ _).symm.trans H;rw [aB6];with_reducible exact qY)|(have qY:=(Option.bind_some _ _).symm.trans H;with_reducible exact qY)|with_reducible exact H|(rw [aB6];exact H)|exact H
                 have aVk:=aA.mk aB6;clear aB6;have H':=aA.mk H;clear H
                 try go_wp2
                 have bT:=aA.mk (Kd.qG qJ.out);have bW:=aA.mk (Kd.qG tK.out);have dA:=aA.mk (Kd.qG qL.out);have dN:=aA.mk (dY kU.out);have eY:=aA.mk (fZ HB.out);clear qJ;clear tK;clear qL;clear kU;clear HB;have qJ:=bT;have tK:=bW;have qL:=dA;have kU:=dN;have HB:=eY;clear bT bW dA dN eY;have aRD:0≤(iW:Int):=dU dW;have aRE:iW<(l1.length:Int):=dU dW;obtain ⟨XV,bFf,RH⟩:=Kd.jJ HR1.out iW aRD aRE;have Pj:=RH
                 cases bFf
                 replace RH:=(HB.out.cell (dM w _ RH)).trans RH;replace aRD:=eq_true aRD;replace aRE:=eq_true aRE;have aRF:0≤(iW:Int):=dU dW;have aRG:iW<(l1.length:Int):=dU dW;obtain ⟨aVl,bFg,RI⟩:=Kd.jJ HR1.out iW aRF aRG;have Pm:=RI;obtain rfl:XV=aVl:=(by injection bFg);replace RI:=(HB.out.cell (dM w _ RI)).trans RI;replace aRF:=eq_true aRF;replace aRG:=eq_true aRG;have aRH:0≤(iW:Int):=dU dW;have aRI:iW<(l1.length:Int):=dU dW;obtain ⟨aVm,bFh,RJ⟩:=Kd.jJ HR1.out iW aRH aRI;have Pn:=RJ;obtain rfl:XV=aVm:=(by injection bFh);replace RJ:=(HB.out.cell (dM w _ RJ)).trans RJ;replace aRH:=eq_true aRH;replace aRI:=eq_true aRI;have aRJ:0≤(iW:Int):=dU dW;have aRK:iW<(l1.length:Int):=dU dW;obtain ⟨aVn,bFi,RN⟩:=Kd.jJ HR1.out iW aRJ aRK;have Po:=RN;obtain rfl:XV=aVn:=(by injection bFi);replace RN:=(HB.out.cell (dM w _ RN)).trans RN;replace aRJ:=eq_true aRJ;replace aRK:=eq_true aRK
                 refine qZ (n:=31) (S:=fun w'=>w'.cell? (XV.add (iW).toNat)=some (.int .i64 (rd l1 iW))∧w'.cell? (XV.add (iW).toNat)=some (.int .i64 (rd l1 iW))∧w'.cell? (XV.add (iW).toNat)=some (.int .i64 (rd l1 iW))∧w'.cell? (XV.add (iW).toNat)=some (.int .i64 (rd l1 iW))) (ds:=[]) #[false,false,false,false,false,false,false,false,false,false,false,false,false,false,false,false,false,false,false,false,false,false,false,false,false,false,false,false,false,false,false] aQ rfl rfl ⟨((HB.out.cell (dM w _ Pj)).trans Pj),((HB.out.cell (dM w _ Pm)).trans Pm),((HB.out.cell (dM w _ Pn)).trans Pn),((HB.out.cell (dM w _ Po)).trans Po)⟩ (fun hHeld=>?_);refine nK aV.aI4 aV.aDJ (fun gG zQ=>?_);generalize wc.drew=w38 at qJ tK qL kU HB RH RI RJ RN hHeld ⊢;refine bQ (i:=0) (N:=some 67) (v:=?_) (a':=?_) #[true,false,false,false,false,false,false,false,false,false,false,false,false,false,false,false,false,false,false,false,false,false,false,false,false,false,false,false,false,false,false] rfl rfl (bP gG.out aQ) (fun _ _ _ h=>h) (bG ?_) ?_ ?_;rotate_left
                 ·intro w';go_simp;with_reducible rfl
                 rotate_left
                 ·simp only [Act.put,aX];rfl
                 refine bQ (i:=1) (N:=some 68) (v:=?_) (a':=?_) #[true,true,false,false,false,false,false,false,false,false,false,false,false,false,false,false,false,false,false,false,false,false,false,false,false,false,false,false,false,false,false] rfl rfl (bP gG.out aQ) (fun _ _ _ h=>h) (bG ?_) ?_ ?_;rotate_left
                 ·intro w';go_simp;with_reducible rfl
                 rotate_left
                 ·simp only [Act.put,aX];rfl
                 refine bQ (i:=2) (N:=some 69) (v:=?_) (a':=?_) #[true,true,true,false,false,false,false,false,false,false,false,false,false,false,false,false,false,false,false,false,false,false,false,false,false,false,false,false,false,false,false] rfl rfl (bP gG.out aQ) (fun _ _ _ h=>h) (bG ?_) ?_ ?_;rotate_left
                 ·intro w';go_simp;with_reducible rfl
                 rotate_left
                 ·simp only [Act.put,aX];rfl
                 refine bQ (i:=3) (N:=some 70) (v:=?_) (a':=?_) #[true,true,true,true,false,false,false,false,false,false,false,false,false,false,false,false,false,false,false,false,false,false,false,false,false,false,false,false,false,false,false] rfl rfl (bP gG.out aQ) (fun _ _ _ h=>h) (bG ?_) ?_ ?_;rotate_left
                 ·intro w';go_simp;with_reducible rfl
                 rotate_left
                 ·simp only [Act.put,aX];rfl
                 refine bQ (i:=7) (N:=some 74) (v:=?_) (a':=?_) #[true,true,true,true,false,false,false,true,false,false,false,false,false,false,false,false,false,false,false,false,false,false,false,false,false,false,false,false,false,false,false] rfl rfl (bP gG.out aQ) (fun _ _ _ h=>h) (bG ?_) ?_ ?_;rotate_left
                 ·intro w';go_simp;with_reducible rfl
                 rotate_left
                 ·simp only [Act.put,aX];rfl
                 refine bQ (i:=8) (N:=some 75) (v:=?_) (a':=?_) #[true,true,true,true,false,false,false,true,true,false,false,false,false,false,false,false,false,false,false,false,false,false,false,false,false,false,false,false,false,false,false] rfl rfl (bP gG.out aQ) (fun _ _ _ h=>h) (bG ?_) ?_ ?_;rotate_left
                 ·intro w';go_simp;with_reducible rfl
                 rotate_left
                 ·simp only [Act.put,aX];rfl
                 refine bQ (i:=9) (N:=some 76) (v:=?_) (a':=?_) #[true,true,true,true,false,false,false,true,true,true,false,false,false,false,false,false,false,false,false,false,false,false,false,false,false,false,false,false,false,false,false] rfl rfl (bP gG.out aQ) (fun _ _ _ h=>h) (bG ?_) ?_ ?_;rotate_left
                 ·intro w';go_simp;with_reducible rfl
                 rotate_left
                 ·simp only [Act.put,aX];rfl
                 refine bQ (i:=14) (N:=some 81) (v:=?_) (a':=?_) #[true,true,true,true,false,false,false,true,true,true,false,false,false,false,true,false,false,false,false,false,false,false,false,false,false,false,false,false,false,false,false] rfl rfl (bP gG.out aQ) (fun _ _ _ h=>h) (bG ?_) ?_ ?_;rotate_left
                 ·intro w';go_simp;with_reducible rfl
                 rotate_left
                 ·simp only [Act.put,aX];rfl
                 refine bQ (i:=15) (N:=some 82) (v:=?_) (a':=?_) #[true,true,true,true,false,false,false,true,true,true,false,false,false,false,true,true,false,false,false,false,false,false,false,false,false,false,false,false,false,false,false] rfl rfl (bP gG.out aQ) (fun _ _ _ h=>h) (bG ?_) ?_ ?_;rotate_left
                 ·intro w';go_simp;with_reducible rfl
                 rotate_left
                 ·simp only [Act.put,aX];rfl
                 refine bQ (i:=16) (N:=some 83) (v:=?_) (a':=?_) #[true,true,true,true,false,false,false,true,true,true,false,false,false,false,true,true,true,false,false,false,false,false,false,false,false,false,false,false,false,false,false] rfl rfl (bP gG.out aQ) (fun _ _ _ h=>h) (bG ?_) ?_ ?_;rotate_left
                 ·intro w';go_simp;with_reducible rfl
                 rotate_left
                 ·simp only [Act.put,aX];rfl
                 refine bQ (i:=21) (N:=some 88) (v:=?_) (a':=?_) #[true,true,true,true,false,false,false,true,true,true,false,false,false,false,true,true,true,false,false,false,false,true,false,false,false,false,false,false,false,false,false] rfl rfl (bP gG.out aQ) (fun _ _ _ h=>h) (bG ?_) ?_ ?_;rotate_left
                 ·intro w';go_simp;with_reducible rfl
                 rotate_left
                 ·simp only [Act.put,aX];rfl
                 refine bQ (i:=22) (N:=some 89) (v:=?_) (a':=?_) #[true,true,true,true,false,false,false,true,true,true,false,false,false,false,true,true,true,false,false,false,false,true,true,false,false,false,false,false,false,false,false] rfl rfl (bP gG.out aQ) (fun _ _ _ h=>h) (bG ?_) ?_ ?_;rotate_left
                 ·intro w';go_simp;with_reducible rfl
                 rotate_left
                 ·simp only [Act.put,aX];rfl
                 refine bQ (i:=23) (N:=some 90) (v:=?_) (a':=?_) #[true,true,true,true,false,false,false,true,true,true,false,false,false,false,true,true,true,false,false,false,false,true,true,true,false,false,false,false,false,false,false] rfl rfl (bP gG.out aQ) (fun _ _ _ h=>h) (bG ?_) ?_ ?_;rotate_left
                 ·intro w';go_simp;with_reducible rfl
                 rotate_left
                 ·simp only [Act.put,aX];rfl
                 refine iQ (i:=4) (N:=some 71) (v:=?_) (a':=?_) #[true,true,true,true,true,false,false,true,true,true,false,false,false,false,true,true,true,false,false,false,false,true,true,true,false,false,false,false,false,false,false] rfl rfl (iH gG.out zQ.out aQ) (fun _ _ _ h=>h) (bG ?_) hHeld ?_ ?_;rotate_left
                 ·rintro w' ⟨s0,s1,s2,s3⟩;go_simp;with_reducible rfl
                 rotate_left
                 ·simp only [Act.put,aX];rfl
                 refine bQ (i:=5) (N:=some 72) (v:=?_) (a':=?_) #[true,true,true,true,true,true,false,true,true,true,false,false,false,false,true,true,true,false,false,false,false,true,true,true,false,false,false,false,false,false,false] rfl rfl (bP gG.out aQ) (fun _ _ _ h=>h) (bG ?_) ?_ ?_;rotate_left
                 ·intro w';go_simp;with_reducible rfl
                 rotate_left
                 ·simp only [Act.put,aX];rfl
                 refine bQ (i:=6) (N:=some 73) (v:=?_) (a':=?_) #[true,true,true,true,true,true,true,true,true,true,false,false,false,false,true,true,true,false,false,false,false,true,true,true,false,false,false,false,false,false,false] rfl rfl (bP gG.out aQ) (fun _ _ _ h=>h) (bG ?_) ?_ ?_;rotate_left
                 ·intro w';go_simp;with_reducible rfl
                 rotate_left
                 ·simp only [Act.put,aX];rfl
                 refine iQ (i:=10) (N:=some 77) (v:=?_) (a':=?_) #[true,true,true,true,true,true,true,true,true,true,true,false,false,false,true,true,true,false,false,false,false,true,true,true,false,false,false,false,false,false,false] rfl rfl (iH gG.out zQ.out aQ) (fun _ _ _ h=>h) (bG ?_) hHeld ?_ ?_;rotate_left
                 ·rintro w' ⟨s0,s1,s2,s3⟩;go_simp;with_reducible rfl
                 rotate_left
                 ·simp only [Act.put,aX];rfl
                 refine bQ (i:=11) (N:=some 78) (v:=?_) (a':=?_) #[true,true,true,true,true,true,true,true,true,true,true,true,false,false,true,true,true,false,false,false,false,true,true,true,false,false,false,false,false,false,false] rfl rfl (bP gG.out aQ) (fun _ _ _ h=>h) (bG ?_) ?_ ?_;rotate_left
                 ·intro w';go_simp;with_reducible rfl
                 rotate_left
                 ·simp only [Act.put,aX];rfl
                 refine bQ (i:=12) (N:=some 79) (v:=?_) (a':=?_) #[true,true,true,true,true,true,true,true,true,true,true,true,true,false,true,true,true,false,false,false,false,true,true,true,false,false,false,false,false,false,false] rfl rfl (bP gG.out aQ) (fun _ _ _ h=>h) (bG ?_) ?_ ?_;rotate_left
                 ·intro w';go_simp;with_reducible rfl
                 rotate_left
                 ·simp only [Act.put,aX];rfl
                 refine bQ (i:=13) (N:=some 80) (v:=?_) (a':=?_) #[true,true,true,true,true,true,true,true,true,true,true,true,true,true,true,true,true,false,false,false,false,true,true,true,false,false,false,false,false,false,false] rfl rfl (bP gG.out aQ) (fun _ _ _ h=>h) (bG ?_) ?_ ?_;rotate_left
                 ·intro w';go_simp;with_reducible rfl
                 rotate_left
                 ·simp only [Act.put,aX];rfl
                 refine iQ (i:=17) (N:=some 84) (v:=?_) (a':=?_) #[true,true,true,true,true,true,true,true,true,true,true,true,true,true,true,true,true,true,false,false,false,true,true,true,false,false,false,false,false,false,false] rfl rfl (iH gG.out zQ.out aQ) (fun _ _ _ h=>h) (bG ?_) hHeld ?_ ?_;rotate_left
                 ·rintro w' ⟨s0,s1,s2,s3⟩;go_simp;with_reducible rfl
                 rotate_left
                 ·simp only [Act.put,aX];rfl
                 refine bQ (i:=18) (N:=some 85) (v:=?_) (a':=?_) #[true,true,true,true,true,true,true,true,true,true,true,true,true,true,true,true,true,true,true,false,false,true,true,true,false,false,false,false,false,false,false] rfl rfl (bP gG.out aQ) (fun _ _ _ h=>h) (bG ?_) ?_ ?_;rotate_left
                 ·intro w';go_simp;with_reducible rfl
                 rotate_left
                 ·simp only [Act.put,aX];rfl
                 refine bQ (i:=19) (N:=some 86) (v:=?_) (a':=?_) #[true,true,true,true,true,true,true,true,true,true,true,true,true,true,true,true,true,true,true,true,false,true,true,true,false,false,false,false,false,false,false] rfl rfl (bP gG.out aQ) (fun _ _ _ h=>h) (bG ?_) ?_ ?_;rotate_left
                 ·intro w';go_simp;with_reducible rfl
                 rotate_left
                 ·simp only [Act.put,aX];rfl
                 refine bQ (i:=20) (N:=some 87) (v:=?_) (a':=?_) #[true,true,true,true,true,true,true,true,true,true,true,true,true,true,true,true,true,true,true,true,true,true,true,true,false,false,false,false,false,false,false] rfl rfl (bP gG.out aQ) (fun _ _ _ h=>h) (bG ?_) ?_ ?_;rotate_left
                 ·intro w';go_simp;with_reducible rfl
                 rotate_left
                 ·simp only [Act.put,aX];rfl
                 refine iQ (i:=24) (N:=some 91) (v:=?_) (a':=?_) #[true,true,true,true,true,true,true,true,true,true,true,true,true,true,true,true,true,true,true,true,true,true,true,true,true,false,false,false,false,false,false] rfl rfl (iH gG.out zQ.out aQ) (fun _ _ _ h=>h) (bG ?_) hHeld ?_ ?_;rotate_left
                 ·rintro w' ⟨s0,s1,s2,s3⟩;go_simp;with_reducible rfl
                 rotate_left
                 ·simp only [Act.put,aX];rfl
                 refine bQ (i:=25) (N:=some 92) (v:=?_) (a':=?_) #[true,true,true,true,true,true,true,true,true,true,true,true,true,true,true,true,true,true,true,true,true,true,true,true,true,true,false,false,false,false,false] rfl rfl (bP gG.out aQ) (fun _ _ _ h=>h) (bG ?_) ?_ ?_;rotate_left
                 ·intro w';go_simp;with_reducible rfl
                 rotate_left
                 ·simp only [Act.put,aX];rfl
                 refine bQ (i:=26) (N:=some 93) (v:=?_) (a':=?_) #[true,true,true,true,true,true,true,true,true,true,true,true,true,true,true,true,true,true,true,true,true,true,true,true,true,true,true,false,false,false,false] rfl rfl (bP gG.out aQ) (fun _ _ _ h=>h) (bG ?_) ?_ ?_;rotate_left
                 ·intro w';go_simp;with_reducible rfl
                 rotate_left
                 ·simp only [Act.put,aX];rfl
                 refine bQ (i:=27) (N:=some 94) (v:=?_) (a':=?_) #[true,true,true,true,true,true,true,true,true,true,true,true,true,true,true,true,true,true,true,true,true,true,true,true,true,true,true,true,false,false,false] rfl rfl (bP gG.out aQ) (fun _ _ _ h=>h) (bG ?_) ?_ ?_;rotate_left
                 ·intro w';go_simp;with_reducible rfl
                 rotate_left
                 ·simp only [Act.put,aX];rfl
                 refine wL (i:=28) (N:=some 95) #[true,true,true,true,true,true,true,true,true,true,true,true,true,true,true,true,true,true,true,true,true,true,true,true,true,true,true,true,true,false,false] rfl rfl (qH gG.out aQ) (by decide) (fun K hK=>?_)
                 refine Kd.Qz (Kd.int .u8) _ 5 ?hg (N:=95) ?hd (xs:=([(Go.bits .and .i64 (rd l1 iW) 255)%256,(Go.bits .and .i64 ((rd l1 iW) / 256) 255)%256,(Go.bits .and .i64 ((rd l1 iW) / 65536) 255)%256,(Go.bits .and .i64 ((rd l1 iW) / 16777216) 255)%256]:List Int)) (inner:=[.int .u8 ((Go.bits .and .i64 (rd l1 iW) 255)%256),.int .u8 ((Go.bits .and .i64 ((rd l1 iW) / 256) 255)%256),.int .u8 ((Go.bits .and .i64 ((rd l1 iW) / 65536) 255)%256),.int .u8 ((Go.bits .and .i64 ((rd l1 iW) / 16777216) 255)%256)]) (ok:=fun _=>True) (Io:=fun _=>True) ?hr ?hp (fun _ hk=>hk) trivial (Below.refl _ _) (Nat.le_refl _) (by simp) ?_;(case hd=>rfl);(case hg=>rfl);(case hr=>first|(go_simp;done)|(go_simp;rfl));(case hp=>exact (kW.one (show Kd.M (Kd.int .u8) _ _ _ ((Go.bits .and .i64 (rd l1 iW) 255)%256) [.int .u8 ((Go.bits .and .i64 (rd l1 iW) 255)%256)] from rfl) (kW.one (show Kd.M (Kd.int .u8) _ _ _ ((Go.bits .and .i64 ((rd l1 iW) / 256) 255)%256) [.int .u8 ((Go.bits .and .i64 ((rd l1 iW) / 256) 255)%256)] from rfl) (kW.one (show Kd.M (Kd.int .u8) _ _ _ ((Go.bits .and .i64 ((rd l1 iW) / 65536) 255)%256) [.int .u8 ((Go.bits .and .i64 ((rd l1 iW) / 65536) 255)%256)] from rfl) (kW.one (show Kd.M (Kd.int .u8) _ _ _ ((Go.bits .and .i64 ((rd l1 iW) / 16777216) 255)%256) [.int .u8 ((Go.bits .and .i64 ((rd l1 iW) / 16777216) 255)%256)] from rfl) (kW.none _ _))))))
                 intro bK3 w39 aDL hb XT BU;clear XT BU
                 (first|rw [← aOM.out] at aDL|(simp only [Int.reduceToNat] at aDL;rw [← aOM.out] at aDL))
                 have bT:=aA.mk (Kd.lH (bH qJ.out) (Kd.jY aDL) hb);have bW:=aA.mk (Kd.dI (bH tK.out) hb);have dA:=aA.mk (Kd.lH (bH qL.out) (Kd.jY aDL) hb);have dN:=aA.mk (Kd.jV (Kd.qQ (Kd.qQ aDL (Kd.wK (bH qJ.out))) (Kd.wK (bH qL.out))) (aN (bV HB.out wJ.out)));have eY:=aA.mk (aK (g:=BR) (o:=.cells #[.string jI,.int .i64 jU,.slice (some Vh) fD.length qW] 54 (0,0)) (aH kU.out) hb);have fV:=aA.mk (aT (bV HB.out wJ.out) hb);clear qJ;clear tK;clear qL;clear kU;clear HB;have qJ:=bT;have tK:=bW;have qL:=dA;have ZT:=dN;have kU:=eY;have HB:=fV;clear bT bW dA dN eY fV;clear hb aDL;obtain ⟨Nw,EZ,aHv⟩:=Kd.iK ZT.out
                 (first|subst aHv|(injection aHv with Hl NQ Ho;have NR:=Hl.symm;have NS:=Ho.symm;clear Hl NQ Ho;subst NR;subst NS))
                 refine hK.out _ _ ⟨((HB.out.cell (dM w _ Pj)).trans Pj),((HB.out.cell (dM w _ Pm)).trans Pm),((HB.out.cell (dM w _ Pn)).trans Pn),((HB.out.cell (dM w _ Po)).trans Po)⟩ (fun hHeld=>?_);clear hK K;refine sJ (a':=?_) ?_ ?_;rotate_left
                 ·show Act.put _ (some 95) _=_;simp only [Act.put,aX];rfl
                 refine wL (i:=29) (N:=some 96) #[true,true,true,true,true,true,true,true,true,true,true,true,true,true,true,true,true,true,true,true,true,true,true,true,true,true,true,true,true,true,false] rfl rfl (qH gG.out aQ) (by decide) (fun K hK=>?_);refine Kd.Jm (Kd.int .u8) (w0:=w) w.heap.size (by rfl) (.tmp 67) (.tmp 95) 25 5 (.int .u8 0) 1 rfl Try.underlying25 info5 rfl (by decide) (by omega) u7 tJ Ub _ _ _ (fun k_=>some k_≠(Uc:Value).ownBlock∧some k_≠(.slice Nw Ub.length EZ:Value).ownBlock) (fun _=>False) rfl rfl ?aO ?aR (fun _ _ h=>h) (fun _ h=>h.elim) ?aF ?aB ?aS ?aL ?_
                 (case aR=>repeat (first|exact (Kd.fM ZT.out).2.2|(with_reducible refine Kd.fG ?_ _)|(with_reducible refine Kd.fC ?_ _)|(with_reducible refine Kd.gJ ?_)))
                 (case aB=>exact (bV HB.out wJ.out))
                 (case aF=>exact (fun k_ hk=>⟨Kd.fresh' (Kd.wK (bH qJ.out)) k_ hk,Kd.fresh' (Kd.wK (bH ZT.out)) k_ hk⟩))
                 (case aO=>exact (bH qL.out))
                 (case aS=>exact (aN (bV HB.out wJ.out)))
                 (case aL=>have:=aVi.out;omega)
                 intro bK4 w41 ho hb hg hat
                 rw [← aVk.out] at ho;have bT:=aA.mk (Kd.EY (ok:=(fun k_=>some k_≠(.slice Nw Ub.length EZ:Value).ownBlock)) (by refine bH ?_;exact Kd.dX qJ.out (fun _ hk=>⟨hk.2,hk.1⟩)) hg hat);have bW:=aA.mk (Kd.EX (bH tK.out) (Kd.yP (bH qL.out)) (by decide) hg);have dA:=aA.mk (kD (g:=BR) (o:=.cells #[.string jI,.int .i64 jU,.slice (some Vh) fD.length qW] 54 (0,0)) (aH kU.out) hg (Kd.AO qL.out kU.out (by decide)));have dN:=aA.mk (Kd.EY (ok:=(fun k_=>some k_≠(Uc:Value).ownBlock)) (by refine bH ?_;exact Kd.dX ZT.out (fun _ hk=>⟨hk.1.2,hk.2⟩)) hg hat);have eY:=aA.mk (hb);have fV:=aA.mk (ho);clear qJ;clear tK;clear kU;clear ZT;clear HB;clear qL;have qJ:=bT;have tK:=bW;have kU:=dA;have ZT:=dN;have HB:=eY;have aVo:=fV;clear bT bW dA dN eY fV;clear ho hb hg hat
                 refine hK.out _ _ ⟨((HB.out.cell (dM w _ Pj)).trans Pj),((HB.out.cell (dM w _ Pm)).trans Pm),((HB.out.cell (dM w _ Pn)).trans Pn),((HB.out.cell (dM w _ Po)).trans Po)⟩ (fun hHeld=>?_);clear hK K;refine sJ (a':=?_) ?_ ?_;rotate_left
                 ·show Act.put _ (some 96) _=_;simp only [Act.put,aX];rfl
                 refine bQ (i:=30) (N:=some 7) (v:=?_) (a':=?_) #[true,true,true,true,true,true,true,true,true,true,true,true,true,true,true,true,true,true,true,true,true,true,true,true,true,true,true,true,true,true,true] rfl rfl (bP gG.out aQ) (fun _ _ _ h=>h) (bG ?_) ?_ ?_;rotate_left
                 ·intro w';go_simp;with_reducible rfl
                 rotate_left
                 ·simp only [Act.put,aX];rfl
                 refine sG (sH gG.out aQ) ?_
                 try go_wp2
                 go_roundg Ud
                 case measure=>have:=wU.out;have:=HJ9.out;have:=aB1.out;omega
                 case rel=>exact ⟨(bZ),(aVj),(wrap64 (iW+1)),gV,H',⟨by have:=wU.out;have:=HJ9.out;have:=aB1.out;omega⟩,⟨by refine bH ?_;exact Kd.dX qJ.out (fun _ hk=>hk.2)⟩,⟨by refine bH ?_;exact tK.out⟩,⟨by refine bH ?_;exact Kd.dX aVo.out (fun _ hk=>hk.1)⟩,⟨by refine aH ?_;exact kU.out⟩,⟨bV HB.out wJ.out⟩⟩
                ·rw [if_neg c37] at H;exact absurd H (by simp)
               ·rw [if_neg c36] at H;exact absurd H (by simp)
              ·rw [if_neg Jn] at H;exact absurd H (by simp)
             ·rw [if_neg c34] at H;have aI_:((rd fD iW)==4)=false:=beq_eq_false_iff_ne.mpr c34;have aJa:((rd fD iW) != 4)=true:=bne_iff_ne.mpr c34;have H':=aA.mk H;clear H
              go_wp2
              go_roundg Ud
              case measure=>have:=wU.out;have:=HJ9.out;have:=aB1.out;omega
              case rel=>exact ⟨(bZ),(tJ),(wrap64 (iW+1)),gV,H',⟨by have:=wU.out;have:=HJ9.out;have:=aB1.out;omega⟩,⟨by refine bH ?_;exact qJ.out⟩,⟨by refine bH ?_;exact tK.out⟩,⟨by refine bH ?_;exact qL.out⟩,⟨by refine aH ?_;exact kU.out⟩,⟨bV HB.out wJ.out⟩⟩
     ·rw [if_neg c9] at H;exact absurd H (by simp)
    ·rw [if_neg c8] at H;exact absurd H (by simp)
   ·rw [if_neg c7] at H;have EJ:decide (iW<(l1.length:Int))=false:=kT c7;clear c7;have aRL:=aA.mk H;clear H;obtain ⟨bFj,bFk,bFl⟩:=Kd.iK tK.out;subst bFl
    go_upto_if 100 with (fail)
    go_cut [6] (fun v6 wc=>∃ (kq:Nat) (Ba:List Int),aA (aV.j3 kq II Ba tJ=some r)∧aA (kq≤k1)∧aA (Kd.R (Kd.int .u8) 5 wc w.heap.size (fun k_=>some k_≠(u7:Value).ownBlock) Uc II)∧aA (Kd.R (Kd.int .i64) 3 wc w.heap.size (fun _=>True) v6 Ba)∧aA (Kd.R (Kd.int .u8) 5 wc w.heap.size (fun k_=>some k_≠(Uc:Value).ownBlock) u7 tJ)∧aA (wc.heap[BR]?=some (.cells #[.string jI,.int .i64 jU,(.slice uJ fD.length qW)] 54 (0,0)))∧aA (Below w.heap.size w wc))
    case first =>
     have H:=aRL.out;clear aRL
     by_cases c45:((bZ.length:Int)%2)=1
     ·rw [if_pos c45] at H;have aB7:(((bZ.length:Int)%2)==1)=true:=beq_iff_eq.mpr c45;have aVp:(((bZ.length:Int)%2) != 1)=false:=bne_eq_false_iff_eq.mpr c45;clear c45
      (first|rw [aB7]|(simp only [nX,tY];rw [aB7])|skip)
      by_cases c46:bZ.length<17592186044416
      ·rw [if_pos c46] at H;have aVq:=aA.mk c46;clear c46;obtain ⟨aVr,aB8⟩:∃ y_:List Int,y_=(bZ ++ [0]):=⟨_,rfl⟩
       replace H:(aV.j3 k1 II aVr tJ)=some r:=by first|(rw [aB8];with_reducible exact H)|(have qY:=(Option.bind_some _ _).symm.trans H;rw [aB8];with_reducible exact qY)|(have qY:=(Option.bind_some _ _).symm.trans H;with_reducible exact qY)|with_reducible exact H|(rw [aB8];exact H)|exact H
       have aVs:=aA.mk aB8;clear aB8;have H':=aA.mk H;clear H
       go_wp2_with (first|((with_reducible refine qM (b:=.append) (xs:=#[.tmp 101,.tmp 102]) rfl ?_);at_builtin;refine Kd.EW (Kd.int .i64) (w0:=w) w.heap.size rfl (.tmp 101) (.tmp 102) 22 3 (.int .i64 0) 8 rfl Try.underlying22 info3 rfl (by decide) (by omega) (.slice bFj bZ.length bFk) bZ 0 [.int .i64 0] (fun _=>True) (fun _=>False) rfl rfl ?aP (fun _ hk=>hk.elim) ?aF ?aO ?aB ?aS ?aL ?_;(case aP=>exact rfl);(case aB=>exact (bV HB.out wJ.out));(case aF=>exact (fun _ _=>trivial));(case aO=>exact (bH tK.out));(case aS=>exact (aN (bV HB.out wJ.out)));(case aL=>have:=aVq.out;omega);intro bK5 w47 ho hb hg hat;rw [← aVs.out] at ho;have bT:=aA.mk (Kd.EX (bH qJ.out) (Kd.yP (bH tK.out)) (by decide) hg);have bW:=aA.mk (Kd.EX (bH qL.out) (Kd.yP (bH tK.out)) (by decide) hg);have dA:=aA.mk (kD (g:=BR) (o:=.cells #[.string jI,.int .i64 jU,.slice uJ fD.length qW] 54 (0,0)) (aH kU.out) hg (Kd.AO tK.out kU.out (by decide)));have dN:=aA.mk (hb);have eY:=aA.mk (ho);clear qJ qL kU HB tK;have qJ:=bT;have qL:=bW;have kU:=dA;have HB:=dN;have aVt:=eY;clear bT bW dA dN eY;clear ho hb hg hat))
       go_meet
       case rel=>exact ⟨_,(aVr),H',⟨by have:=wU.out;first|omega|exact Nat.le_refl _⟩,⟨by refine bH ?_;exact qJ.out⟩,⟨by refine bH ?_;exact aVt.out⟩,⟨by refine bH ?_;exact qL.out⟩,⟨by refine aH ?_;exact kU.out⟩,⟨bV HB.out wJ.out⟩⟩
      ·rw [if_neg c46] at H;exact absurd H (by simp)
     ·rw [if_neg c45] at H;have aB7:(((bZ.length:Int)%2)==1)=false:=beq_eq_false_iff_ne.mpr c45;have aVp:(((bZ.length:Int)%2) != 1)=true:=bne_iff_ne.mpr c45
      (first|rw [aB7]|(simp only [nX,tY];rw [aB7])|skip)
      have H':=aA.mk H;clear H
      go_wp2
      go_meet
      case rel=>exact ⟨_,(bZ),H',⟨by have:=wU.out;first|omega|exact Nat.le_refl _⟩,⟨by refine bH ?_;exact qJ.out⟩,⟨by refine bH ?_;exact tK.out⟩,⟨by refine bH ?_;exact qL.out⟩,⟨by refine aH ?_;exact kU.out⟩,⟨bV HB.out wJ.out⟩⟩
    case rest =>
     clear aRL;obtain ⟨kq,Ba,HA,aVu,qJ,tK,qL,kU,HB⟩:=hcut
     cases kq with
     | zero=>exact absurd HA.out (by simp [aV.j3])
     | succ aVv =>
      have H:=HA.out;clear HA;simp only [aV.j3] at H;have H':=aA.mk H;clear H
      go_wp2
      go_loopg [5,9] aVv (fun kq v5 v9 w'=>∃ (XW:List Int) (EK:Int),v9=.int .i64 EK∧aA (aV.l1 kq XW Ba tJ EK=some r)∧aA (kq≤aVv)∧aA (Kd.R (Kd.int .u8) 5 w' w.heap.size (fun k_=>some k_≠(u7:Value).ownBlock) v5 XW)∧aA (Kd.R (Kd.int .i64) 3 w' w.heap.size (fun _=>True) u6 Ba)∧aA (Kd.R (Kd.int .u8) 5 w' w.heap.size (fun k_=>some k_≠(v5:Value).ownBlock) u7 tJ)∧aA (w'.heap[BR]?=some (.cells #[.string jI,.int .i64 jU,(.slice uJ fD.length qW)] 54 (0,0)))∧aA (Below w.heap.size w w'))
      case atStart=>exact ⟨(II),(0),gV,H',⟨Nat.le_refl _⟩,⟨by refine bH ?_;exact qJ.out⟩,⟨by refine bH ?_;exact tK.out⟩,⟨by refine bH ?_;exact qL.out⟩,⟨by refine aH ?_;exact kU.out⟩,⟨bV HB.out wJ.out⟩⟩
      case round =>
       clear H';obtain ⟨XW,EK,rfl,HA,MZ,qJ,tK,qL,kU,HB⟩:=hrel
       cases gk with
       | zero=>exact absurd HA.out (by simp [aV.l1])
       | succ k3 =>
        have H:=HA.out;clear HA;simp only [aV.l1] at H
        by_cases c48:EK<(Ba.length:Int)
        ·rw [if_pos c48] at H;have aJb:decide (EK<(Ba.length:Int))=true:=fB c48;clear c48
         by_cases c49:0≤EK
         ·rw [if_pos c49] at H;have aB9:decide (0≤EK)=true:=fB c49;clear c49;obtain ⟨PT,aJc⟩:∃ j_:Int,(wrap64 (EK+1))=j_:=⟨_,rfl⟩
          replace H:(if 0≤(PT) then (if (PT)<(Ba.length:Int) then (if XW.length<140737488355328 then (aV.l1 k3 (XW ++ [(wrap64 ((rd Ba EK)+(wrap64 (16*(rd Ba (PT))))))%256]) Ba tJ (wrap64 (EK+2))) else (none)) else (none)) else (none))=some r:=by first|(rw [aJc] at H;exact H)|(simp only [aJc] at H ⊢;exact H)
          have bFm:(IntKind.i64.wrap (EK+1))=PT:=(nX _).trans aJc
          by_cases c51:0≤(PT)
          ·rw [if_pos c51] at H;have aVw:decide (0≤(PT))=true:=fB c51;clear c51
           by_cases c52:(PT)<(Ba.length:Int)
           ·rw [if_pos c52] at H;have bIE:decide ((PT)<(Ba.length:Int))=true:=fB c52;clear c52
            by_cases c53:XW.length<140737488355328
            ·rw [if_pos c53] at H;have aVx:=aA.mk c53;clear c53;obtain ⟨aVy,aB_⟩:∃ y_:List Int,y_=(XW ++ [(wrap64 ((rd Ba EK)+(wrap64 (16*(rd Ba (PT))))))%256]):=⟨_,rfl⟩
             replace H:(aV.l1 k3 aVy Ba tJ (wrap64 (EK+2)))=some r:=by first|(rw [aB_];with_reducible exact H)|(have qY:=(Option.bind_some _ _).symm.trans H;rw [aB_];with_reducible exact qY)|(have qY:=(Option.bind_some _ _).symm.trans H;with_reducible exact qY)|with_reducible exact H|(rw [aB_];exact H)|exact H
             have aVz:=aA.mk aB_;clear aB_;have H':=aA.mk H;clear H;obtain ⟨bFn,bFo,aRM⟩:=Kd.iK tK.out;subst aRM
             try go_wp2
             have bT:=aA.mk (Kd.qG qJ.out);have bW:=aA.mk (Kd.qG tK.out);have dA:=aA.mk (Kd.qG qL.out);have dN:=aA.mk (dY kU.out);have eY:=aA.mk (fZ HB.out);clear qJ;clear tK;clear qL;clear kU;clear HB;have qJ:=bT;have tK:=bW;have qL:=dA;have kU:=dN;have HB:=eY;clear bT bW dA dN eY;have aRN:0≤(EK:Int):=dU dW;have aRO:EK<(Ba.length:Int):=dU dW;obtain ⟨aJd,bFp,aFm⟩:=Kd.jJ (Kd.fM tK.out).2.2 EK aRN aRO
             cases bFp
             replace aRN:=eq_true aRN;replace aRO:=eq_true aRO;have aRP:0≤((PT):Int):=dU dW;have aRQ:(PT)<(Ba.length:Int):=dU dW;obtain ⟨aVA,bFq,aFn⟩:=Kd.jJ (Kd.fM tK.out).2.2 (PT) aRP aRQ;obtain rfl:aJd=aVA:=(by injection bFq);replace aRP:=eq_true aRP;replace aRQ:=eq_true aRQ;refine qZ (n:=16) (S:=fun w'=>w'.cell? (aJd.add (EK).toNat)=some (.int .i64 (rd Ba EK))∧w'.cell? (aJd.add ((PT)).toNat)=some (.int .i64 (rd Ba (PT)))) (ds:=[13,14]) #[false,false,false,false,false,false,false,false,false,false,false,false,false,false,false,false] aQ rfl rfl ⟨aFm,aFn⟩ (fun hHeld=>?_);refine nK aV.aU1 aV.aRo (fun gG zQ=>?_);generalize wr.drew=w55 at qJ tK qL kU HB aFm aFn hHeld ⊢;refine bQ (i:=0) (N:=some 110) (v:=?_) (a':=?_) #[true,false,false,false,false,false,false,false,false,false,false,false,false,false,false,false] rfl rfl (bP gG.out aQ) (fun _ _ _ h=>h) (bG ?_) ?_ ?_;rotate_left
             ·intro w';go_simp;with_reducible rfl
             rotate_left
             ·simp only [Act.put,aX];rfl
             refine bQ (i:=1) (N:=some 111) (v:=?_) (a':=?_) #[true,true,false,false,false,false,false,false,false,false,false,false,false,false,false,false] rfl rfl (bP gG.out aQ) (fun _ _ _ h=>h) (bG ?_) ?_ ?_;rotate_left
             ·intro w';go_simp;with_reducible rfl
             rotate_left
             ·simp only [Act.put,aX];rfl
             refine bQ (i:=2) (N:=some 112) (v:=?_) (a':=?_) #[true,true,true,false,false,false,false,false,false,false,false,false,false,false,false,false] rfl rfl (bP gG.out aQ) (fun _ _ _ h=>h) (bG ?_) ?_ ?_;rotate_left
             ·intro w';go_simp;with_reducible rfl
             rotate_left
             ·simp only [Act.put,aX];rfl
             refine bQ (i:=3) (N:=some 113) (v:=?_) (a':=?_) #[true,true,true,true,false,false,false,false,false,false,false,false,false,false,false,false] rfl rfl (bP gG.out aQ) (fun _ _ _ h=>h) (bG ?_) ?_ ?_;rotate_left
             ·intro w';go_simp;with_reducible rfl
             rotate_left
             ·simp only [Act.put,aX];rfl
             refine bQ (i:=5) (N:=some 115) (v:=?_) (a':=?_) #[true,true,true,true,false,true,false,false,false,false,false,false,false,false,false,false] rfl rfl (bP gG.out aQ) (fun _ _ _ h=>h) (bG ?_) ?_ ?_;rotate_left
             ·intro w';go_simp;with_reducible rfl
             rotate_left
             ·simp only [Act.put,aX];rfl
             refine bQ (i:=6) (N:=some 116) (v:=?_) (a':=?_) #[true,true,true,true,false,true,true,false,false,false,false,false,false,false,false,false] rfl rfl (bP gG.out aQ) (fun _ _ _ h=>h) (bG ?_) ?_ ?_;rotate_left
             ·intro w';go_simp;with_reducible rfl
             rotate_left
             ·simp only [Act.put,aX];rfl
             refine bQ (i:=7) (N:=some 117) (v:=?_) (a':=?_) #[true,true,true,true,false,true,true,true,false,false,false,false,false,false,false,false] rfl rfl (bP gG.out aQ) (fun _ _ _ h=>h) (bG ?_) ?_ ?_;rotate_left
             ·intro w';go_simp;with_reducible rfl
             rotate_left
             ·simp only [Act.put,aX];rfl
             refine bQ (i:=8) (N:=some 118) (v:=?_) (a':=?_) #[true,true,true,true,false,true,true,true,true,false,false,false,false,false,false,false] rfl rfl (bP gG.out aQ) (fun _ _ _ h=>h) (bG ?_) ?_ ?_;rotate_left
             ·intro w';go_simp;with_reducible rfl
             rotate_left
             ·simp only [Act.put,aX];rfl
             refine iQ (i:=4) (N:=some 114) (v:=?_) (a':=?_) #[true,true,true,true,true,true,true,true,true,false,false,false,false,false,false,false] rfl rfl (iH gG.out zQ.out aQ) (fun _ _ _ h=>h) (bG ?_) hHeld ?_ ?_;rotate_left
             ·rintro w' ⟨s0,s1⟩;go_simp;with_reducible rfl
             rotate_left
             ·simp only [Act.put,aX];rfl
             refine iQ (i:=9) (N:=some 119) (v:=?_) (a':=?_) #[true,true,true,true,true,true,true,true,true,true,false,false,false,false,false,false] rfl rfl (iH gG.out zQ.out aQ) (fun _ _ _ h=>h) (bG ?_) hHeld ?_ ?_;rotate_left
             ·rintro w' ⟨s0,s1⟩;go_simp;with_reducible rfl
             rotate_left
             ·simp only [Act.put,aX];rfl
             refine bQ (i:=10) (N:=some 120) (v:=?_) (a':=?_) #[true,true,true,true,true,true,true,true,true,true,true,false,false,false,false,false] rfl rfl (bP gG.out aQ) (fun _ _ _ h=>h) (bG ?_) ?_ ?_;rotate_left
             ·intro w';go_simp;with_reducible rfl
             rotate_left
             ·simp only [Act.put,aX];rfl
             refine bQ (i:=11) (N:=some 121) (v:=?_) (a':=?_) #[true,true,true,true,true,true,true,true,true,true,true,true,false,false,false,false] rfl rfl (bP gG.out aQ) (fun _ _ _ h=>h) (bG ?_) ?_ ?_;rotate_left
             ·intro w';go_simp;with_reducible rfl
             rotate_left
             ·simp only [Act.put,aX];rfl
             refine bQ (i:=12) (N:=some 122) (v:=?_) (a':=?_) #[true,true,true,true,true,true,true,true,true,true,true,true,true,false,false,false] rfl rfl (bP gG.out aQ) (fun _ _ _ h=>h) (bG ?_) ?_ ?_;rotate_left
             ·intro w';go_simp;with_reducible rfl
             rotate_left
             ·simp only [Act.put,aX];rfl
             refine NP (i:=13) (N:=some 123) #[true,true,true,true,true,true,true,true,true,true,true,true,true,true,false,false] rfl rfl (qH gG.out aQ) (by decide) (fun K hK=>?_);refine aDM (w1:=?_) (v:=?_) (by rfl) rfl ?_ ?_;rotate_left 2
             ·go_simp
              constructor
              ·rfl
              ·rfl
             refine hK.out _ _ ?_;clear hK K;refine sJ (a':=?_) ?_ ?_;rotate_left
             ·show Act.put _ (some 123) _=_;simp only [Act.put,aX];rfl
             refine NP (i:=14) (N:=some 124) #[true,true,true,true,true,true,true,true,true,true,true,true,true,true,true,false] rfl rfl (qH gG.out aQ) (by decide) (fun K hK=>?_);refine Kd.Zk (Kd.int .u8) (w0:=w) w.heap.size (by rfl) (.tmp 110) (.tmp 123) 25 5 (.int .u8 0) 1 rfl Try.underlying25 info5 rfl (by decide) (by omega) u5 XW ((wrap64 ((rd Ba EK)+(wrap64 (16*(rd Ba (PT))))))%256) [.int .u8 ((wrap64 ((rd Ba EK)+(wrap64 (16*(rd Ba (PT))))))%256)] (fun k_=>some k_≠(u7:Value).ownBlock) (fun _=>False) rfl rfl ?aP (fun _ hk=>hk.elim) ?aF ?aO ?aB ?aS ?aL ?_
             (case aP=>exact rfl)
             (case aB=>exact (bV HB.out wJ.out))
             (case aF=>exact (fun k_ hk=>Kd.fresh' (Kd.wK (bH qL.out)) k_ hk))
             (case aO=>exact (bH qJ.out))
             (case aS=>exact (aN (bV HB.out wJ.out)))
             (case aL=>have:=aVx.out;omega)
             intro bK6 w56 ho hb hg hat
             rw [← aVz.out] at ho;have bT:=aA.mk (Kd.EX (bH tK.out) (Kd.yP (bH qJ.out)) (by decide) hg);have bW:=aA.mk (Kd.EY (ok:=(fun _=>True)) (by refine bH ?_;exact Kd.dX qL.out (fun _ hk=>⟨trivial,hk⟩)) hg hat);have dA:=aA.mk (kD (g:=BR) (o:=.cells #[.string jI,.int .i64 jU,.slice uJ fD.length qW] 54 (0,0)) (aH kU.out) hg (Kd.AO qJ.out kU.out (by decide)));have dN:=aA.mk (hb);have eY:=aA.mk (ho);clear tK;clear qL;clear kU;clear HB;clear qJ;have tK:=bT;have qL:=bW;have kU:=dA;have HB:=dN;have aVB:=eY;clear bT bW dA dN eY;clear ho hb hg hat
             refine hK.out _ _ ?_;clear hK K;refine sJ (a':=?_) ?_ ?_;rotate_left
             ·show Act.put _ (some 124) _=_;simp only [Act.put,aX];rfl
             refine bQ (i:=15) (N:=some 5) (v:=?_) (a':=?_) #[true,true,true,true,true,true,true,true,true,true,true,true,true,true,true,true] rfl rfl (bP gG.out aQ) (fun _ _ _ h=>h) (bG ?_) ?_ ?_;rotate_left
             ·intro w';go_simp;with_reducible rfl
             rotate_left
             ·simp only [Act.put,aX];rfl
             refine sG (sH gG.out aQ) ?_
             try go_wp2
             go_roundg k3
             case measure=>have:=wU.out;have:=aVu.out;have:=MZ.out;omega
             case rel=>exact ⟨(aVy),(wrap64 (EK+2)),gV,H',⟨by have:=wU.out;have:=aVu.out;have:=MZ.out;omega⟩,⟨by refine bH ?_;exact aVB.out⟩,⟨by refine bH ?_;exact tK.out⟩,⟨by refine bH ?_;exact Kd.dX qL.out (fun _ hk=>hk.2)⟩,⟨by refine aH ?_;exact kU.out⟩,⟨bV HB.out wJ.out⟩⟩
            ·rw [if_neg c53] at H;exact absurd H (by simp)
           ·rw [if_neg c52] at H;exact absurd H (by simp)
          ·rw [if_neg c51] at H;exact absurd H (by simp)
         ·rw [if_neg c49] at H;exact absurd H (by simp)
        ·rw [if_neg c48] at H;have aJb:decide (EK<(Ba.length:Int))=false:=kT c48;clear c48
         by_cases c57:XW.length+tJ.length<140737488355328
         ·rw [if_pos c57] at H;have aJe:=aA.mk c57;clear c57;obtain ⟨bFr,aCa⟩:∃ y_:List Int,y_=(XW ++ tJ):=⟨_,rfl⟩
          replace H:(some bFr)=some r:=by first|(rw [aCa];with_reducible exact H)|(have qY:=(Option.bind_some _ _).symm.trans H;rw [aCa];with_reducible exact qY)|(have qY:=(Option.bind_some _ _).symm.trans H;with_reducible exact qY)|with_reducible exact H|(rw [aCa];exact H)|exact H
          have aVC:=aA.mk aCa;clear aCa;obtain rfl:=Option.some.inj H;obtain ⟨bK7,bK8,bFs⟩:=Kd.iK tK.out;subst bFs;obtain ⟨bFt,bFu,bFv⟩:=Kd.iK qL.out;subst bFv
          go_wp2_with (first|((with_reducible refine qM (b:=.append) (xs:=#[.tmp 125,.tmp 126]) rfl ?_);at_builtin;refine Kd.DI (Kd.int .u8) (w0:=w) w.heap.size rfl (.tmp 125) (.tmp 126) 25 5 (.int .u8 0) 1 rfl Try.underlying25 info5 rfl (by decide) (by omega) u5 XW tJ _ _ _ (fun k_=>some k_≠(.slice bFt tJ.length bFu:Value).ownBlock) (fun _=>False) rfl rfl ?aO ?aR (fun _ _ h=>h) (fun _ h=>h.elim) ?aF ?aB ?aS ?aL ?_;(case aR=>repeat (first|exact (Kd.fM qL.out).2.2|(with_reducible refine Kd.fG ?_ _)|(with_reducible refine Kd.fC ?_ _)|(with_reducible refine Kd.gJ ?_)));(case aB=>exact (bV HB.out wJ.out));(case aF=>exact (fun k_ hk=>Kd.fresh' (Kd.wK (bH qL.out)) k_ hk));(case aO=>exact (bH qJ.out));(case aS=>exact (aN (bV HB.out wJ.out)));(case aL=>have:=aJe.out;omega);intro bK9 w59 ho hb hg hat;rw [← aVC.out] at ho;have bT:=aA.mk (Kd.EX (bH tK.out) (Kd.yP (bH qJ.out)) (by decide) hg);have bW:=aA.mk (Kd.EY (ok:=(fun _=>True)) (by refine bH ?_;exact Kd.dX qL.out (fun _ hk=>⟨trivial,hk⟩)) hg hat);have dA:=aA.mk (kD (g:=BR) (o:=.cells #[.string jI,.int .i64 jU,.slice uJ fD.length qW] 54 (0,0)) (aH kU.out) hg (Kd.AO qJ.out kU.out (by decide)));have dN:=aA.mk (hb);have eY:=aA.mk (ho);clear tK qL kU HB qJ;have tK:=bT;have qL:=bW;have kU:=dA;have HB:=dN;have aVD:=eY;clear bT bW dA dN eY;clear ho hb hg hat))
          go_ret
          exact ⟨_,by first|rfl|(simp [bK,bM] <;> rfl)|(simp [*,bK,bM] <;> rfl),by refine bH ?_;exact Kd.dX aVD.out (fun _ hk=>trivial),bV HB.out wJ.out⟩
         ·rw [if_neg c57] at H;exact absurd H (by simp)
end Go.Proofs.Ytipjpdiianopcaa.A
