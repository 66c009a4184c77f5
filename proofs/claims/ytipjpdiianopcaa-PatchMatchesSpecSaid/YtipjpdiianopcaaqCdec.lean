/- Words and contracts for the laws of encode. -/
import Derived.Test.YtipjpdiianopcaaqAx0
import Derived.Test.YtipjpdiianopcaaqCfl
import Derived.Test.YtipjpdiianopcaaqAx1
import Derived.Test.YtipjpdiianopcaaqAx10
import Derived.Test.YtipjpdiianopcaaqAx15
import Derived.Test.YtipjpdiianopcaaqAx16
namespace Go.Proofs.Ytipjpdiianopcaa.A
open Go.RowKit Go.Proofs.YtipjpdiianopcaaW.dF Go.Proofs.YtipjpdiianopcaaW.fO Go.Proofs.YtipjpdiianopcaaW.jP
attribute [local go_sem] mV mW oO oP lC lD mX mY
set_option linter.unusedVariables false
set_option linter.unusedSimpArgs false
attribute [local go_sem high] Go.Proofs.Ytipjpdiianopcaa.Cfl.Eb Go.Proofs.Ytipjpdiianopcaa.Cfl.Ec
mutual
def aJ.l0:Nat→List (nJ)→List Int→Int→Option (Int × List Int × Bool)
 | 0,_,_,_=>none
 | k+1,x0,x1,x6=>if x6<(x0.length:Int) then (if 0≤x6 then (if (x1.length:Int)=0 then (aJ.j1 k x0 x1 x6 true ((aI x0 x6).f0) ((aI x0 x6).f1) ((aI x0 x6).f2)) else (if 0<(x1.length:Int) then (if ((aI x0 x6).f1)=(wrap64 (rd x1 0)) then ((bJ.f k ((aI x0 x6).f0) ((aI x0 x6).f1) ((aI x0 x6).f2)).bind fun wV=>(aJ.j1 k x0 x1 x6 (decide ((x1.length:Int)<wV)) ((aI x0 x6).f0) ((aI x0 x6).f1) ((aI x0 x6).f2))) else (aJ.j1 k x0 x1 x6 true ((aI x0 x6).f0) ((aI x0 x6).f1) ((aI x0 x6).f2))) else (none))) else (none)) else (some (0,([]:List Int),false))
def aJ.j1:Nat→List (nJ)→List Int→Int→Bool→ByteArray→Int→List Int→Option (Int × List Int × Bool)
 | 0,_,_,_,_,_,_,_=>none
 | k+1,x0,x1,x6,x43,xK,xM,qV=>if x43=true then (aJ.l0 k x0 x1 (wrap64 (x6+1))) else (aJ.l1 k x0 x1 x6 0 0 xK xM qV x6)
def aJ.l1:Nat→List (nJ)→List Int→Int→Int→Int→ByteArray→Int→List Int→Int→Option (Int × List Int × Bool)
 | 0,_,_,_,_,_,_,_,_,_=>none
 | k+1,x0,x1,x6,x9,x10,xK,xM,qV,yQ=>if x10<(qV.length:Int) then (if 0≤x10 then (if (rd qV x10)≤2 then (aJ.l1 k x0 x1 x6 (wrap64 (x9+1)) (wrap64 (x10+1)) xK xM qV yQ) else (aJ.l1 k x0 x1 x6 x9 (wrap64 (x10+1)) xK xM qV yQ)) else (none)) else (aJ.l2 k x0 x1 x6 0 (wrap64 ((wrap64 (1+(wrap64 (Int.tdiv x9 2))))+(Int.tmod x9 2))) 0 xK xM qV yQ ([]:List Int))
def aJ.l2:Nat→List (nJ)→List Int→Int→Int→Int→Int→ByteArray→Int→List Int→Int→List Int→Option (Int × List Int × Bool)
 | 0,_,_,_,_,_,_,_,_,_,_,_=>none
 | k+1,x0,x1,x6,x11,x12,Vj,xK,xM,qV,yQ,wI=>if Vj<(qV.length:Int) then (if 0≤Vj then (if (rd qV Vj)=1 then (aJ.j4 k x0 x1 x6 x11 x12 Vj 0 (rd qV Vj) ((rd qV Vj)==1) xK xM qV yQ wI) else (aJ.j4 k x0 x1 x6 x11 x12 Vj 0 (rd qV Vj) ((rd qV Vj)==2) xK xM qV yQ wI)) else (none)) else ((eU.f k x0 yQ wI).bind fun aKO=>(if aKO.1=0 then ((aV.f k xK xM qV wI).bind fun Tj=>((bJ.f k xK xM qV).bind fun BD=>(if 0≤BD then (if BD≤(x1.length:Int) then ((bF.f Tj (x1.take (BD:Int).toNat)).bind fun VR=>(if VR=true then (some (yQ,wI,true)) else (aJ.l0 k x0 x1 (wrap64 (x6+1))))) else (none)) else (none)))) else (aJ.l0 k x0 x1 (wrap64 (x6+1)))))
def aJ.j4:Nat→List (nJ)→List Int→Int→Int→Int→Int→Int→Int→Bool→ByteArray→Int→List Int→Int→List Int→Option (Int × List Int × Bool)
 | 0,_,_,_,_,_,_,_,_,_,_,_,_,_,_=>none
 | k+1,x0,x1,x6,x11,x12,Vj,x14,x78,x79,xK,xM,qV,yQ,wI=>if x79=true then (if 0≤(wrap64 (1+(wrap64 (Int.tdiv x11 2)))) then (if (wrap64 (1+(wrap64 (Int.tdiv x11 2))))<(x1.length:Int) then (if (Int.tmod x11 2)=0 then (if wI.length<17592186044416 then (aJ.l2 k x0 x1 x6 (wrap64 (x11+1)) x12 (wrap64 (Vj+1)) xK xM qV yQ (wI ++ [Int.tmod (wrap64 (rd x1 (wrap64 (1+(wrap64 (Int.tdiv x11 2)))))) 16])) else (none)) else (if wI.length<17592186044416 then (aJ.l2 k x0 x1 x6 (wrap64 (x11+1)) x12 (wrap64 (Vj+1)) xK xM qV yQ (wI ++ [wrap64 (Int.tdiv (wrap64 (rd x1 (wrap64 (1+(wrap64 (Int.tdiv x11 2)))))) 16)])) else (none))) else (none)) else (none)) else (if x78=3 then (aJ.j5 k x0 x1 x6 x11 x12 Vj x14 x78 (x78==3) xK xM qV yQ wI) else (aJ.j5 k x0 x1 x6 x11 x12 Vj x14 x78 (x78==5) xK xM qV yQ wI))
def aJ.j5:Nat→List (nJ)→List Int→Int→Int→Int→Int→Int→Int→Bool→ByteArray→Int→List Int→Int→List Int→Option (Int × List Int × Bool)
 | 0,_,_,_,_,_,_,_,_,_,_,_,_,_,_=>none
 | k+1,x0,x1,x6,x11,x12,Vj,x14,x78,x98,xK,xM,qV,yQ,wI=>if x98=true then (if 0≤x12 then (if x12<(x1.length:Int) then (if wI.length<17592186044416 then (aJ.l2 k x0 x1 x6 x11 (wrap64 (x12+1)) (wrap64 (Vj+1)) xK xM qV yQ (wI ++ [wrap64 (IntKind.i8.wrap (rd x1 x12))])) else (none)) else (none)) else (none)) else (if x78=6 then (if 0≤x12 then (if x12<(x1.length:Int) then (if 0≤(wrap64 (x12+1)) then (if (wrap64 (x12+1))<(x1.length:Int) then (if wI.length<17592186044416 then (aJ.l2 k x0 x1 x6 x11 (wrap64 (x12+2)) (wrap64 (Vj+1)) xK xM qV yQ (wI ++ [wrap64 (IntKind.i16.wrap (IntKind.u16.wrap ((IntKind.u16.wrap (rd x1 x12))+(IntKind.u16.wrap (256*(IntKind.u16.wrap (rd x1 (wrap64 (x12+1)))))))))])) else (none)) else (none)) else (none)) else (none)) else (none)) else (if x78=4 then (if 0≤x12 then (if x12<(x1.length:Int) then (if 0≤(wrap64 (x12+1)) then (if (wrap64 (x12+1))<(x1.length:Int) then (if 0≤(wrap64 (x12+2)) then (if (wrap64 (x12+2))<(x1.length:Int) then (if 0≤(wrap64 (x12+3)) then (if (wrap64 (x12+3))<(x1.length:Int) then (if wI.length<17592186044416 then (aJ.l2 k x0 x1 x6 x11 (wrap64 (x12+4)) (wrap64 (Vj+1)) xK xM qV yQ (wI ++ [wrap64 ((wrap64 ((wrap64 ((wrap64 (rd x1 x12))+(wrap64 (256*(wrap64 (rd x1 (wrap64 (x12+1))))))))+(wrap64 (65536*(wrap64 (rd x1 (wrap64 (x12+2))))))))+(wrap64 (16777216*(wrap64 (rd x1 (wrap64 (x12+3)))))))])) else (none)) else (none)) else (none)) else (none)) else (none)) else (none)) else (none)) else (none)) else (none)) else (if wI.length<17592186044416 then (aJ.l2 k x0 x1 x6 x11 x12 (wrap64 (Vj+1)) xK xM qV yQ (wI ++ [x14])) else (none))))
end
def aJ.f (k:Nat) (l0:List (nJ)) (l1:List Int):Option (Int × List Int × Bool):=aJ.l0 k l0 l1 0
def aJ.T5:Bool × List (List Nat × List Nat):=(true,[([],[]),([0],[0]),([1],[1]),([2],[2]),([3],[3]),([4,3],[3,4]),([3],[3]),([6,3],[3,6]),([7,3],[3,7]),([8,3],[3,8]),([5,9,3],[3,5,9]),([3,10],[3,10]),([11,3],[11]),([12],[12]),([13,12],[12,13]),([12],[12]),([15,12,12],[12,15]),([14,16,12],[12,14,16]),([12,17],[12,17])])
def aJ.B5:List Nat:=[0,1,3,7,15,31,15,79,207,463,1023,2047,4095,8191,16383,8191,40959,131071,262143]
theorem aJ.aTs:Ap .any (opsOf Try.f52 5)=aJ.T5:=by kernel_rfl
theorem aJ.aKP:uF aJ.T5.2 aJ.B5=true:=by kernel_rfl
def aJ.T32:Bool × List (List Nat × List Nat):=(true,[([],[]),([],[]),([0,1],[0,1]),([2],[2]),([3],[3]),([],[]),([],[]),([6],[6]),([5,7],[5,7]),([8],[8]),([9],[9]),([10],[10]),([4,11],[4,11]),([12],[12]),([13],[13]),([14,0,1,2,3,4,5,6,7,8,9,10,11,12,13,14],[14])])
def aJ.B32:List Nat:=[0,0,3,7,15,0,0,64,224,480,992,2016,4095,8191,16383,32767]
theorem aJ.aZd:Ap .any (opsOf Try.f52 32)=aJ.T32:=by kernel_rfl
theorem aJ.aTt:uF aJ.T32.2 aJ.B32=true:=by kernel_rfl
def aJ.T35:Bool × List (List Nat × List Nat):=(true,[([],[]),([],[]),([0,1],[0,1]),([2],[2]),([3],[3]),([],[]),([],[]),([6],[6]),([5,7],[5,7]),([8],[8]),([9],[9]),([10],[10]),([4,11],[4,11]),([],[]),([],[]),([14],[14]),([13,15],[13,15]),([16],[16]),([17],[17]),([18],[18]),([12,19],[12,19]),([],[]),([],[]),([22],[22]),([21,23],[21,23]),([24],[24]),([25],[25]),([26],[26]),([20,27],[20,27]),([28,0,1,2,3,4,5,6,7,8,9,10,11,12,13,14,15,16,17,18,19,20,21,22,23,24,25,26,27,28],[28])])
def aJ.B35:List Nat:=[0,0,3,7,15,0,0,64,224,480,992,2016,4095,0,0,16384,57344,122880,253952,516096,1048575,0,0,4194304,14680064,31457280,65011712,132120576,268435455,536870911]
theorem aJ.aZe:Ap .any (opsOf Try.f52 35)=aJ.T35:=by kernel_rfl
theorem aJ.aTu:uF aJ.T35.2 aJ.B35=true:=by kernel_rfl
def aJ.T38:Bool × List (List Nat × List Nat):=(true,[([],[]),([],[]),([0,1],[0,1]),([2],[2]),([3],[3]),([4,2],[4]),([5],[5]),([5],[5]),([7,5],[5,7]),([6,8,5,5],[5,6,8]),([5],[5]),([5],[5]),([11,9,5],[5,11]),([10,12,5],[5,10,12]),([9,13,12,5],[5,9,13]),([5,14],[5,14])])
def aJ.B38:List Nat:=[0,0,3,7,15,31,63,63,191,511,63,63,3071,8191,16383,32767]
theorem aJ.aKQ:Ap .any (opsOf Try.f52 38)=aJ.T38:=by kernel_rfl
theorem aJ.aEj:uF aJ.T38.2 aJ.B38=true:=by kernel_rfl
set_option maxHeartbeats 8000000 in
set_option maxRecDepth 100000 in
theorem aJ.calls (k:Nat) (A0:Option Addr) (c0:Nat) (l0:List (nJ)) (A1:Option Addr) (c1:Nat) (l1:List Int) (r1:Int) (r2:List Int) (r3:Bool) (w:World) (hr0:Kd.C Nv w A0 l0.length l0) (hc0:l0.length≤c0) (hr1:Kd.C (Kd.int .u8) w A1 l1.length l1) (hc1:l1.length≤c1) (h:aJ.f k l0 l1=some (r1,r2,r3)) :
  Calls Try.prog 52 #[.slice A0 l0.length c0,.slice A1 l1.length c1] w fun e w'=>∃ v1_:Value,e=.returned (.tuple #[.agg #[.int .i64 r1,v1_],.bool r3])∧Kd.R (Kd.int .i64) 3 w' w.heap.size (fun _=>True) v1_ r2∧Below w.heap.size w w':=by
 have Kz:=Try.underlying65
 have Jf:=Try.underlying54
 have HR0:=aA.mk hr0
 have Am:=aA.mk hc0
 clear hr0 hc0
 have HR1:=aA.mk hr1
 have Gj:=aA.mk hc1
 clear hr1 hc1
 have HB:=aA.mk (Below.refl w.heap.size w)
 have H:(aJ.l0 k l0 l1 0)=some (r1,r2,r3):=h
 clear h
 have H':=aA.mk H
 clear H
 go_enter Try.func52,Try.ntmps52
 go_wp2_with (first|((with_reducible refine dH (N:=4) rfl ?_);(try (refine dZ (by rfl) ?_;dsimp only));refine dB ?hg (N:=4) ?hd (cs:=#[.int .i64 0,.slice none 0 0]) (t:=65) ?hr ?_;(case hd=>rfl);(case hg=>rfl);(case hr=>first|(go_simp;done)|(go_simp;rfl));intro sV hg w3 hbox hb;have bT:=aA.mk (aT (dG HB.out) hb);have bW:=aA.mk (hbox);have dA:=aA.mk ((by rw [hg];exact (aN (dG HB.out)):w.heap.size≤sV));have dN:=aA.mk ((by rw [hg];exact (aN (dG HB.out)):w.heap.size≤sV));clear HB;have HB:=bT;have gY:=bW;have bKd:=dA;have oU:=dN;clear bT bW dA dN;clear hb hbox hg))
 go_loopg [6] k (fun kq v6 w'=>∃ (bZ:Int) (kE:Int),v6=.int .i64 bZ∧aA (aJ.l0 kq l0 l1 bZ=some (r1,r2,r3))∧aA (kq≤k)∧aA (w'.heap[sV]?=some (.cells #[.int .i64 kE,(.slice none 0 0)] 65 (0,0)))∧aA (Below w.heap.size w w'))
 case atStart=>exact ⟨(0),(0),gV,H',⟨Nat.le_refl _⟩,⟨by refine aH ?_;exact gY.out⟩,⟨bV HB.out oU.out⟩⟩
 case round =>
  clear H'
  obtain ⟨bZ,kE,rfl,HA,wU,gY,HB⟩:=hrel
  cases gk with
  | zero=>exact absurd HA.out (by simp [aJ.l0])
  | succ k1 =>
   have H:=HA.out;clear HA;simp only [aJ.l0] at H
   by_cases c4:bZ<(l0.length:Int)
   ·as_aux_lemma =>
    rw [if_pos c4] at H;have Jz:decide (bZ<(l0.length:Int))=true:=fB c4;clear c4
    by_cases c5:0≤bZ
    ·as_aux_lemma =>
     rw [if_pos c5] at H;have Xz:decide (0≤bZ)=true:=fB c5;clear c5;have HC6:=aA.mk H;clear H;have aTv:0≤(bZ:Int):=dU dW;have aTw:bZ<(l0.length:Int):=dU dW;obtain ⟨aKR,nO,lV,bHk,aBl,aBm,aBn,aGU,aGV⟩:=rJ HR0.out bZ aTv aTw
     cases bHk
     replace aBl:=(HB.out.cell (dM w _ aBl)).trans aBl;replace aBm:=(HB.out.cell (dM w _ aBm)).trans aBm;replace aBn:=(HB.out.cell (dM w _ aBn)).trans aBn;have JY:=aA.mk aGV;have Tm:=aA.mk aGU;clear aGV aGU;replace aTv:=eq_true aTv;replace aTw:=eq_true aTw
     go_upto_region 5 with (first|((with_reducible refine dH (N:=7) rfl ?_);(try (refine dZ (by rfl) ?_;dsimp only));refine dB ?hg (N:=7) ?hd (cs:=#[.string (⟨#[]⟩:ByteArray),.int .i64 0,.slice none 0 0]) (t:=54) ?hr ?_;(case hd=>rfl);(case hg=>rfl);(case hr=>first|(go_simp;done)|(go_simp;rfl));intro jH hg w7 hbox hb;have bT:=aA.mk (aK (g:=sV) (o:=.cells #[.int .i64 kE,.slice none 0 0] 65 (0,0)) (aH gY.out) hb);have bW:=aA.mk (aT (bV HB.out oU.out) hb);have dA:=aA.mk (hbox);have dN:=aA.mk ((by rw [hg];exact (aN (bV HB.out oU.out)):w.heap.size≤jH));have eY:=aA.mk ((by rw [hg];exact (aN (bV HB.out oU.out)):w.heap.size≤jH));have fV:=aA.mk ((by rw [hg];exact Nat.ne_of_lt (bU (g:=sV) (o:=.cells #[.int .i64 kE,.slice none 0 0] 65 (0,0)) (aH gY.out)):sV≠jH));have jA:=aA.mk ((by rw [hg];exact Nat.ne_of_gt (bU (g:=sV) (o:=.cells #[.int .i64 kE,.slice none 0 0] 65 (0,0)) (aH gY.out)):jH≠sV));clear gY HB;have gY:=bT;have HB:=bW;have eX:=dA;have bKe:=dN;have qP:=eY;have uD:=fV;have EG:=jA;clear bT bW dA dN eY fV jA;clear hb hbox hg;have bHl:=EG.out;have bHm:=uD.out;have XE:w7.cell? ⟨jH,0,none⟩=some (.string (⟨#[]⟩:ByteArray)):=(aC eX.out 0).trans rfl;have XF:w7.cell? ⟨jH,1,none⟩=some (.int .i64 0):=(aC eX.out 1).trans rfl;have aDD:w7.cell? ⟨jH,2,none⟩=some (.slice none 0 0):=(aC eX.out 2).trans rfl;have XG:=aG eX.out 0;have XH:=aG eX.out 1;have aDE:=aG eX.out 2))
     (try simp only [Act.put,JF,Gf,Jh])
     go_cut [43] (fun v43 wc=>∃ (kq:Nat) (aGW:Bool),v43=.bool aGW∧aA (aJ.j1 kq l0 l1 bZ aGW ((aI l0 bZ).f0) ((aI l0 bZ).f1) ((aI l0 bZ).f2)=some (r1,r2,r3))∧aA (kq≤k1)∧aA (wc.heap[sV]?=some (.cells #[.int .i64 kE,(.slice none 0 0)] 65 (0,0)))∧aA (wc.heap[jH]?=some (.cells #[.string ((aI l0 bZ).f0),.int .i64 ((aI l0 bZ).f1),(.slice nO ((aI l0 bZ).f2).length lV)] 54 (0,0)))∧aA (Below w.heap.size w wc))
     case first =>
      have H:=HC6.out;clear HC6
      by_cases c10:(l1.length:Int)=0
      ·rw [if_pos c10] at H;have BO:((l1.length:Int)==0)=true:=beq_iff_eq.mpr c10;have Qi:((l1.length:Int) != 0)=false:=bne_eq_false_iff_eq.mpr c10;clear c10
       (first|rw [BO]|(simp only [nX,tY];rw [BO])|skip)
       have H':=aA.mk H;clear H
       try go_wp2
       have bT:aA ((((w7.setCell ⟨jH,0,none⟩ (.string ((aI l0 bZ).f0))).setCell ⟨jH,1,none⟩ (.int .i64 ((aI l0 bZ).f1))).setCell ⟨jH,2,none⟩ (.slice nO ((aI l0 bZ).f2).length lV)).heap[sV]?=some (.cells #[.int .i64 kE,.slice none 0 0] 65 (0,0))):=⟨by refine aH ?_;refine aU ?_ uD.out _;refine aH ?_;refine aU ?_ uD.out _;refine aH ?_;refine aU ?_ uD.out _;refine aH ?_;exact gY.out⟩;have bW:aA ((((w7.setCell ⟨jH,0,none⟩ (.string ((aI l0 bZ).f0))).setCell ⟨jH,1,none⟩ (.int .i64 ((aI l0 bZ).f1))).setCell ⟨jH,2,none⟩ (.slice nO ((aI l0 bZ).f2).length lV)).heap[jH]?=some (.cells #[.string ((aI l0 bZ).f0),.int .i64 ((aI l0 bZ).f1),.slice nO ((aI l0 bZ).f2).length lV] 54 (0,0))):=⟨by refine aH ?_;refine aY (cs:=#[.string ((aI l0 bZ).f0),.int .i64 ((aI l0 bZ).f1),.slice none 0 0]) ?_ 2 _ rfl;refine aH ?_;refine aY (cs:=#[.string ((aI l0 bZ).f0),.int .i64 0,.slice none 0 0]) ?_ 1 _ rfl;refine aH ?_;refine aY (cs:=#[.string (⟨#[]⟩:ByteArray),.int .i64 0,.slice none 0 0]) ?_ 0 _ rfl;refine aH ?_;exact eX.out⟩
       have dA:aA (Below w.heap.size w (((w7.setCell ⟨jH,0,none⟩ (.string ((aI l0 bZ).f0))).setCell ⟨jH,1,none⟩ (.int .i64 ((aI l0 bZ).f1))).setCell ⟨jH,2,none⟩ (.slice nO ((aI l0 bZ).f2).length lV))):=⟨dK HB.out oU.out qP.out⟩
       (try clear gY)
       (try clear eX)
       (try clear HB)
       generalize (((w7.setCell ⟨jH,0,none⟩ (.string ((aI l0 bZ).f0))).setCell ⟨jH,1,none⟩ (.int .i64 ((aI l0 bZ).f1))).setCell ⟨jH,2,none⟩ (.slice nO ((aI l0 bZ).f2).length lV))=RY at bT bW dA ⊢;have gY:=bT;have eX:=bW;have HB:=dA;clear bT bW dA;have bT:=aA.mk (dY gY.out);have bW:=aA.mk (dY eX.out);have dA:=aA.mk (fZ HB.out);clear gY;clear eX;clear HB;have gY:=bT;have eX:=bW;have HB:=dA;clear bT bW dA;refine qZ (n:=19) (S:=fun w'=>True) (ds:=[]) #[false,false,false,false,false,false,false,false,false,false,false,false,false,false,false,false,false,false,false] aQ rfl rfl trivial (fun hHeld=>?_);refine nK aJ.aTs aJ.aKP (fun gG zQ=>?_);generalize RY.drew=w12 at gY eX HB hHeld ⊢;refine bQ (i:=0) (N:=some 25) (v:=?_) (a':=?_) #[true,false,false,false,false,false,false,false,false,false,false,false,false,false,false,false,false,false,false] rfl rfl (bP gG.out aQ) (fun _ _ _ h=>h) (bG ?_) ?_ ?_;rotate_left
       ·intro w';go_simp;with_reducible rfl
       rotate_left
       ·simp only [Act.put,aX];rfl
       refine bQ (i:=1) (N:=some 26) (v:=?_) (a':=?_) #[true,true,false,false,false,false,false,false,false,false,false,false,false,false,false,false,false,false,false] rfl rfl (bP gG.out aQ) (fun _ _ _ h=>h) (bG ?_) ?_ ?_;rotate_left
       ·intro w';go_simp;with_reducible rfl
       rotate_left
       ·simp only [Act.put,aX];rfl
       refine bQ (i:=2) (N:=some 27) (v:=?_) (a':=?_) #[true,true,true,false,false,false,false,false,false,false,false,false,false,false,false,false,false,false,false] rfl rfl (bP gG.out aQ) (fun _ _ _ h=>h) (bG ?_) ?_ ?_;rotate_left
       ·intro w';go_simp;with_reducible rfl
       rotate_left
       ·simp only [Act.put,aX];rfl
       refine bQ (i:=3) (N:=some 28) (v:=?_) (a':=?_) #[true,true,true,true,false,false,false,false,false,false,false,false,false,false,false,false,false,false,false] rfl rfl (bP gG.out aQ) (fun _ _ _ h=>h) (bG ?_) ?_ ?_;rotate_left
       ·intro w';go_simp;with_reducible rfl
       rotate_left
       ·simp only [Act.put,aX];rfl
       refine bQ (i:=4) (N:=some 29) (v:=undef) (a':=?_) #[true,true,true,true,true,false,false,false,false,false,false,false,false,false,false,false,false,false,false] rfl rfl (bP gG.out aQ) (fun _ _ _ h=>h) (Or.inr ⟨by rfl,rfl⟩) ?_ ?_;rotate_left
       ·simp only [Act.put,aX];rfl
       refine bQ (i:=5) (N:=some 30) (v:=undef) (a':=?_) #[true,true,true,true,true,true,false,false,false,false,false,false,false,false,false,false,false,false,false] rfl rfl (bP gG.out aQ) (fun _ _ _ h=>h) (Or.inr ⟨by rfl,rfl⟩) ?_ ?_;rotate_left
       ·simp only [Act.put,aX];rfl
       refine bQ (i:=6) (N:=some 31) (v:=undef) (a':=?_) #[true,true,true,true,true,true,true,false,false,false,false,false,false,false,false,false,false,false,false] rfl rfl (bP gG.out aQ) (fun _ _ _ h=>h) (Or.inr ⟨by rfl,rfl⟩) ?_ ?_;rotate_left
       ·simp only [Act.put,aX];rfl
       refine bQ (i:=7) (N:=some 32) (v:=undef) (a':=?_) #[true,true,true,true,true,true,true,true,false,false,false,false,false,false,false,false,false,false,false] rfl rfl (bP gG.out aQ) (fun _ _ _ h=>h) (Or.inr ⟨by rfl,rfl⟩) ?_ ?_;rotate_left
       ·simp only [Act.put,aX];rfl
       refine bQ (i:=8) (N:=some 33) (v:=undef) (a':=?_) #[true,true,true,true,true,true,true,true,true,false,false,false,false,false,false,false,false,false,false] rfl rfl (bP gG.out aQ) (fun _ _ _ h=>h) (Or.inr ⟨by rfl,rfl⟩) ?_ ?_;rotate_left
       ·simp only [Act.put,aX];rfl
       refine bQ (i:=9) (N:=some 34) (v:=undef) (a':=?_) #[true,true,true,true,true,true,true,true,true,true,false,false,false,false,false,false,false,false,false] rfl rfl (bP gG.out aQ) (fun _ _ _ h=>h) (Or.inr ⟨by rfl,rfl⟩) ?_ ?_;rotate_left
       ·simp only [Act.put,aX];rfl
       refine bQ (i:=10) (N:=some 35) (v:=undef) (a':=?_) #[true,true,true,true,true,true,true,true,true,true,true,false,false,false,false,false,false,false,false] rfl rfl (bP gG.out aQ) (fun _ _ _ h=>h) (Or.inr ⟨by rfl,rfl⟩) ?_ ?_;rotate_left
       ·simp only [Act.put,aX];rfl
       refine bQ (i:=11) (N:=some 36) (v:=?_) (a':=?_) #[true,true,true,true,true,true,true,true,true,true,true,true,false,false,false,false,false,false,false] rfl rfl (bP gG.out aQ) (fun _ _ _ h=>h) (bG ?_) ?_ ?_;rotate_left
       ·intro w';go_simp;with_reducible rfl
       rotate_left
       ·simp only [Act.put,aX];rfl
       refine bQ (i:=12) (N:=some 37) (v:=?_) (a':=?_) #[true,true,true,true,true,true,true,true,true,true,true,true,true,false,false,false,false,false,false] rfl rfl (bP gG.out aQ) (fun _ _ _ h=>h) (bG ?_) ?_ ?_;rotate_left
       ·intro w';go_simp;with_reducible rfl
       rotate_left
       ·simp only [Act.put,aX];rfl
       refine bQ (i:=13) (N:=some 38) (v:=undef) (a':=?_) #[true,true,true,true,true,true,true,true,true,true,true,true,true,true,false,false,false,false,false] rfl rfl (bP gG.out aQ) (fun _ _ _ h=>h) (Or.inr ⟨by rfl,rfl⟩) ?_ ?_;rotate_left
       ·simp only [Act.put,aX];rfl
       refine bQ (i:=14) (N:=some 39) (v:=undef) (a':=?_) #[true,true,true,true,true,true,true,true,true,true,true,true,true,true,true,false,false,false,false] rfl rfl (bP gG.out aQ) (fun _ _ _ h=>h) (Or.inr ⟨by rfl,rfl⟩) ?_ ?_;rotate_left
       ·simp only [Act.put,aX];rfl
       refine bQ (i:=15) (N:=some 40) (v:=undef) (a':=?_) #[true,true,true,true,true,true,true,true,true,true,true,true,true,true,true,true,false,false,false] rfl rfl (bP gG.out aQ) (fun _ _ _ h=>h) (Or.inr ⟨by rfl,rfl⟩) ?_ ?_;rotate_left
       ·simp only [Act.put,aX];rfl
       refine bQ (i:=16) (N:=some 41) (v:=undef) (a':=?_) #[true,true,true,true,true,true,true,true,true,true,true,true,true,true,true,true,true,false,false] rfl rfl (bP gG.out aQ) (fun _ _ _ h=>h) (Or.inr ⟨by rfl,rfl⟩) ?_ ?_;rotate_left
       ·simp only [Act.put,aX];rfl
       refine bQ (i:=17) (N:=some 42) (v:=undef) (a':=?_) #[true,true,true,true,true,true,true,true,true,true,true,true,true,true,true,true,true,true,false] rfl rfl (bP gG.out aQ) (fun _ _ _ h=>h) (Or.inr ⟨by rfl,rfl⟩) ?_ ?_;rotate_left
       ·simp only [Act.put,aX];rfl
       refine bQ (i:=18) (N:=some 43) (v:=?_) (a':=?_) #[true,true,true,true,true,true,true,true,true,true,true,true,true,true,true,true,true,true,true] rfl rfl (bP gG.out aQ) (fun _ _ _ h=>h) (bG ?_) ?_ ?_;rotate_left
       ·intro w';go_simp;with_reducible rfl
       rotate_left
       ·simp only [Act.put,aX];rfl
       refine sG (sH gG.out aQ) ?_
       try go_wp2
       go_meet
       case rel=>exact ⟨_,(true),gV,H',⟨by have:=wU.out;first|omega|exact Nat.le_refl _⟩,⟨by refine aH ?_;exact gY.out⟩,⟨by refine aH ?_;exact eX.out⟩,⟨dK HB.out oU.out qP.out⟩⟩
      ·as_aux_lemma =>
       rw [if_neg c10] at H;have BO:((l1.length:Int)==0)=false:=beq_eq_false_iff_ne.mpr c10;have Qi:((l1.length:Int) != 0)=true:=bne_iff_ne.mpr c10;have aQc:¬ (l1=[]):=fun h_=>c10 (by rw [h_];rfl)
       (first|rw [BO]|(simp only [nX,tY];rw [BO])|skip)
       by_cases c13:0<(l1.length:Int)
       ·as_aux_lemma =>
        rw [if_pos c13] at H;have Vd:decide (0<(l1.length:Int))=true:=fB c13;have ZM:decide (0<l1.length)=true:=fB (by omega);clear c13
        by_cases c14:((aI l0 bZ).f1)=(wrap64 (rd l1 0))
        ·rw [if_pos c14] at H;have QN:(((aI l0 bZ).f1)==(wrap64 (rd l1 0)))=true:=beq_iff_eq.mpr c14;have aJx:(((aI l0 bZ).f1) != (wrap64 (rd l1 0)))=false:=bne_eq_false_iff_eq.mpr c14;clear c14;replace H:=Option.bind_eq_some_iff.mp H;obtain ⟨wV,Yf,H⟩:=H;replace H:(aJ.j1 k1 l0 l1 bZ (decide ((l1.length:Int)<wV)) ((aI l0 bZ).f0) ((aI l0 bZ).f1) ((aI l0 bZ).f2))=some (r1,r2,r3):=H;have A15:=aA.mk Yf;clear Yf;have H':=aA.mk H;clear H
         try go_wp2
         have bT:aA ((((w7.setCell ⟨jH,0,none⟩ (.string ((aI l0 bZ).f0))).setCell ⟨jH,1,none⟩ (.int .i64 ((aI l0 bZ).f1))).setCell ⟨jH,2,none⟩ (.slice nO ((aI l0 bZ).f2).length lV)).heap[sV]?=some (.cells #[.int .i64 kE,.slice none 0 0] 65 (0,0))):=⟨by refine aH ?_;refine aU ?_ uD.out _;refine aH ?_;refine aU ?_ uD.out _;refine aH ?_;refine aU ?_ uD.out _;refine aH ?_;exact gY.out⟩;have bW:aA ((((w7.setCell ⟨jH,0,none⟩ (.string ((aI l0 bZ).f0))).setCell ⟨jH,1,none⟩ (.int .i64 ((aI l0 bZ).f1))).setCell ⟨jH,2,none⟩ (.slice nO ((aI l0 bZ).f2).length lV)).heap[jH]?=some (.cells #[.string ((aI l0 bZ).f0),.int .i64 ((aI l0 bZ).f1),.slice nO ((aI l0 bZ).f2).length lV] 54 (0,0))):=⟨by refine aH ?_;refine aY (cs:=#[.string ((aI l0 bZ).f0),.int .i64 ((aI l0 bZ).f1),.slice none 0 0]) ?_ 2 _ rfl;refine aH ?_;refine aY (cs:=#[.string ((aI l0 bZ).f0),.int .i64 0,.slice none 0 0]) ?_ 1 _ rfl;refine aH ?_;refine aY (cs:=#[.string (⟨#[]⟩:ByteArray),.int .i64 0,.slice none 0 0]) ?_ 0 _ rfl;refine aH ?_;exact eX.out⟩
         have dA:aA (Below w.heap.size w (((w7.setCell ⟨jH,0,none⟩ (.string ((aI l0 bZ).f0))).setCell ⟨jH,1,none⟩ (.int .i64 ((aI l0 bZ).f1))).setCell ⟨jH,2,none⟩ (.slice nO ((aI l0 bZ).f2).length lV))):=⟨dK HB.out oU.out qP.out⟩
         (try clear gY)
         (try clear eX)
         (try clear HB)
         generalize (((w7.setCell ⟨jH,0,none⟩ (.string ((aI l0 bZ).f0))).setCell ⟨jH,1,none⟩ (.int .i64 ((aI l0 bZ).f1))).setCell ⟨jH,2,none⟩ (.slice nO ((aI l0 bZ).f2).length lV))=w16 at bT bW dA ⊢;have gY:=bT;have eX:=bW;have HB:=dA;clear bT bW dA;have bT:=aA.mk (dY gY.out);have bW:=aA.mk (dY eX.out);have dA:=aA.mk (fZ HB.out);clear gY;clear eX;clear HB;have gY:=bT;have eX:=bW;have HB:=dA;clear bT bW dA;have aEk:0≤(0:Int):=(by omega);have aEl:0<(l1.length:Int):=dU dW;obtain ⟨aKS,aTx,AV⟩:=Kd.jJ HR1.out 0 aEk aEl;have Dp:=AV
         (try rw [show ((0:Int)).toNat=0 from rfl] at Dp)
         (try rw [show 0*1=0 from rfl] at Dp)
         (try rw [Addr.add_zero'] at Dp)
         cases aTx
         have aZf:(0<l1.length)=True:=eq_true (by omega)
         (try rw [show ((0:Int)).toNat=0 from rfl] at AV)
         (try rw [Addr.add_zero'] at AV)
         replace AV:=(HB.out.cell (dM w _ AV)).trans AV;replace aEk:=eq_true aEk;replace aEl:=eq_true aEl;refine qZ (n:=19) (S:=fun w'=>w'.cell? ⟨jH,0,none⟩=some (.string ((aI l0 bZ).f0))∧w'.cell? ⟨jH,1,none⟩=some (.int .i64 ((aI l0 bZ).f1))∧w'.cell? ⟨jH,2,none⟩=some (.slice nO ((aI l0 bZ).f2).length lV)∧w'.cell? aKS=some (.int .u8 (rd l1 0))) (ds:=[]) #[false,false,false,false,false,false,false,false,false,false,false,false,false,false,false,false,false,false,false] aQ rfl rfl ⟨(aC eX.out 0).trans rfl,(aC eX.out 1).trans rfl,(aC eX.out 2).trans rfl,((HB.out.cell (dM w _ Dp)).trans Dp)⟩ (fun hHeld=>?_);refine nK aJ.aTs aJ.aKP (fun gG zQ=>?_);generalize w16.drew=w17 at gY eX HB AV hHeld ⊢;refine bQ (i:=0) (N:=some 25) (v:=?_) (a':=?_) #[true,false,false,false,false,false,false,false,false,false,false,false,false,false,false,false,false,false,false] rfl rfl (bP gG.out aQ) (fun _ _ _ h=>h) (bG ?_) ?_ ?_;rotate_left
         ·intro w';go_simp;with_reducible rfl
         rotate_left
         ·simp only [Act.put,aX];rfl
         refine bQ (i:=1) (N:=some 26) (v:=?_) (a':=?_) #[true,true,false,false,false,false,false,false,false,false,false,false,false,false,false,false,false,false,false] rfl rfl (bP gG.out aQ) (fun _ _ _ h=>h) (bG ?_) ?_ ?_;rotate_left
         ·intro w';go_simp;with_reducible rfl
         rotate_left
         ·simp only [Act.put,aX];rfl
         refine bQ (i:=2) (N:=some 27) (v:=?_) (a':=?_) #[true,true,true,false,false,false,false,false,false,false,false,false,false,false,false,false,false,false,false] rfl rfl (bP gG.out aQ) (fun _ _ _ h=>h) (bG ?_) ?_ ?_;rotate_left
         ·intro w';go_simp;with_reducible rfl
         rotate_left
         ·simp only [Act.put,aX];rfl
         refine bQ (i:=3) (N:=some 28) (v:=?_) (a':=?_) #[true,true,true,true,false,false,false,false,false,false,false,false,false,false,false,false,false,false,false] rfl rfl (bP gG.out aQ) (fun _ _ _ h=>h) (bG ?_) ?_ ?_;rotate_left
         ·intro w';go_simp;with_reducible rfl
         rotate_left
         ·simp only [Act.put,aX];rfl
         refine bQ (i:=4) (N:=some 29) (v:=?_) (a':=?_) #[true,true,true,true,true,false,false,false,false,false,false,false,false,false,false,false,false,false,false] rfl rfl (bP gG.out aQ) (fun _ _ _ h=>h) (bG ?_) ?_ ?_;rotate_left
         ·intro w';go_simp;with_reducible rfl
         rotate_left
         ·simp only [Act.put,aX];rfl
         refine bQ (i:=6) (N:=some 31) (v:=?_) (a':=?_) #[true,true,true,true,true,false,true,false,false,false,false,false,false,false,false,false,false,false,false] rfl rfl (bP gG.out aQ) (fun _ _ _ h=>h) (bG ?_) ?_ ?_;rotate_left
         ·intro w';go_simp;with_reducible rfl
         rotate_left
         ·simp only [Act.put,aX];rfl
         refine bQ (i:=7) (N:=some 32) (v:=?_) (a':=?_) #[true,true,true,true,true,false,true,true,false,false,false,false,false,false,false,false,false,false,false] rfl rfl (bP gG.out aQ) (fun _ _ _ h=>h) (bG ?_) ?_ ?_;rotate_left
         ·intro w';go_simp;with_reducible rfl
         rotate_left
         ·simp only [Act.put,aX];rfl
         refine iQ (i:=5) (N:=some 30) (v:=?_) (a':=?_) #[true,true,true,true,true,true,true,true,false,false,false,false,false,false,false,false,false,false,false] rfl rfl (iH gG.out zQ.out aQ) (fun _ _ _ h=>h) (bG ?_) hHeld ?_ ?_;rotate_left
         ·rintro w' ⟨s0,s1,s2,s3⟩;go_simp;with_reducible rfl
         rotate_left
         ·simp only [Act.put,aX];rfl
         refine iQ (i:=8) (N:=some 33) (v:=?_) (a':=?_) #[true,true,true,true,true,true,true,true,true,false,false,false,false,false,false,false,false,false,false] rfl rfl (iH gG.out zQ.out aQ) (fun _ _ _ h=>h) (bG ?_) hHeld ?_ ?_;rotate_left
         ·rintro w' ⟨s0,s1,s2,s3⟩;go_simp;with_reducible rfl
         rotate_left
         ·simp only [Act.put,aX];rfl
         refine bQ (i:=9) (N:=some 34) (v:=?_) (a':=?_) #[true,true,true,true,true,true,true,true,true,true,false,false,false,false,false,false,false,false,false] rfl rfl (bP gG.out aQ) (fun _ _ _ h=>h) (bG ?_) ?_ ?_;rotate_left
         ·intro w';go_simp;with_reducible rfl
         rotate_left
         ·simp only [Act.put,aX];rfl
         refine bQ (i:=10) (N:=some 35) (v:=?_) (a':=?_) #[true,true,true,true,true,true,true,true,true,true,true,false,false,false,false,false,false,false,false] rfl rfl (bP gG.out aQ) (fun _ _ _ h=>h) (bG ?_) ?_ ?_;rotate_left
         ·intro w';go_simp;with_reducible rfl
         rotate_left
         ·simp only [Act.put,aX];rfl
         refine bQ (i:=11) (N:=some 36) (v:=?_) (a':=?_) #[true,true,true,true,true,true,true,true,true,true,true,true,false,false,false,false,false,false,false] rfl rfl (bP gG.out aQ) (fun _ _ _ h=>h) (bG ?_) ?_ ?_;rotate_left
         ·intro w';go_simp;with_reducible rfl
         rotate_left
         ·simp only [Act.put,aX];rfl
         refine bQ (i:=12) (N:=some 37) (v:=?_) (a':=?_) #[true,true,true,true,true,true,true,true,true,true,true,true,true,false,false,false,false,false,false] rfl rfl (bP gG.out aQ) (fun _ _ _ h=>h) (bG ?_) ?_ ?_;rotate_left
         ·intro w';go_simp;with_reducible rfl
         rotate_left
         ·simp only [Act.put,aX];rfl
         refine bQ (i:=13) (N:=some 38) (v:=?_) (a':=?_) #[true,true,true,true,true,true,true,true,true,true,true,true,true,true,false,false,false,false,false] rfl rfl (bP gG.out aQ) (fun _ _ _ h=>h) (bG ?_) ?_ ?_;rotate_left
         ·intro w';go_simp;with_reducible rfl
         rotate_left
         ·simp only [Act.put,aX];rfl
         refine bQ (i:=14) (N:=some 39) (v:=?_) (a':=?_) #[true,true,true,true,true,true,true,true,true,true,true,true,true,true,true,false,false,false,false] rfl rfl (bP gG.out aQ) (fun _ _ _ h=>h) (bG ?_) ?_ ?_;rotate_left
         ·intro w';go_simp;with_reducible rfl
         rotate_left
         ·simp only [Act.put,aX];rfl
         refine iQ (i:=15) (N:=some 40) (v:=?_) (a':=?_) #[true,true,true,true,true,true,true,true,true,true,true,true,true,true,true,true,false,false,false] rfl rfl (iH gG.out zQ.out aQ) (fun _ _ _ h=>h) (bG ?_) hHeld ?_ ?_;rotate_left
         ·rintro w' ⟨s0,s1,s2,s3⟩;go_simp;with_reducible rfl
         rotate_left
         ·simp only [Act.put,aX];rfl
         refine wL (i:=16) (N:=some 41) #[true,true,true,true,true,true,true,true,true,true,true,true,true,true,true,true,true,false,false] rfl rfl (qH gG.out aQ) (by decide) (fun K hK=>?_);refine xR Try.func38 aQ rfl #[.agg #[.string ((aI l0 bZ).f0),.int .i64 ((aI l0 bZ).f1),.slice nO ((aI l0 bZ).f2).length lV]] (by rfl) rfl rfl fP ?_
         with_reducible refine (bJ.calls k1 ((aI l0 bZ).f0) ((aI l0 bZ).f1) _ _ ((aI l0 bZ).f2) wV _ ?fJ ?fK A15.out).mono ?_
         (case fJ=>repeat (first|exact (Kd.dP JY.out HB.out)|(with_reducible refine Kd.fG ?_ _)|(with_reducible refine Kd.fC ?_ _)|(with_reducible refine Kd.gJ ?_)))
         (case fK=>exact Tm.out)
         rintro e w18 ⟨rfl,hb⟩;refine ⟨_,rfl,?_⟩;have bT:=aA.mk (aK (g:=sV) (o:=.cells #[.int .i64 kE,.slice none 0 0] 65 (0,0)) (aH gY.out) hb);have bW:=aA.mk (aK (g:=jH) (o:=.cells #[.string ((aI l0 bZ).f0),.int .i64 ((aI l0 bZ).f1),.slice nO ((aI l0 bZ).f2).length lV] 54 (0,0)) (aH eX.out) hb);have dA:=aA.mk (aT (dK HB.out oU.out qP.out) hb);clear gY;clear eX;clear HB;have gY:=bT;have eX:=bW;have HB:=dA;clear bT bW dA
         (try clear hb)
         (try clear hb2)
         (try clear hk)
         (try clear hi)
         refine hK.out _ _ ⟨(aC eX.out 0).trans rfl,(aC eX.out 1).trans rfl,(aC eX.out 2).trans rfl,((HB.out.cell (dM w _ Dp)).trans Dp)⟩ (fun hHeld=>?_);clear hK K;refine sJ (a':=?_) ?_ ?_;rotate_left
         ·show Act.put _ (some 41) _=_;simp only [Act.put,aX];rfl
         refine bQ (i:=17) (N:=some 42) (v:=?_) (a':=?_) #[true,true,true,true,true,true,true,true,true,true,true,true,true,true,true,true,true,true,false] rfl rfl (bP gG.out aQ) (fun _ _ _ h=>h) (bG ?_) ?_ ?_;rotate_left
         ·intro w';go_simp;with_reducible rfl
         rotate_left
         ·simp only [Act.put,aX];rfl
         refine bQ (i:=18) (N:=some 43) (v:=?_) (a':=?_) #[true,true,true,true,true,true,true,true,true,true,true,true,true,true,true,true,true,true,true] rfl rfl (bP gG.out aQ) (fun _ _ _ h=>h) (bG ?_) ?_ ?_;rotate_left
         ·intro w';go_simp;with_reducible rfl
         rotate_left
         ·simp only [Act.put,aX];rfl
         refine sG (sH gG.out aQ) ?_
         try go_wp2
         go_meet
         case rel=>exact ⟨_,(decide ((l1.length:Int)<wV)),gV,H',⟨by have:=wU.out;first|omega|exact Nat.le_refl _⟩,⟨by refine aH ?_;exact gY.out⟩,⟨by refine aH ?_;exact eX.out⟩,⟨dK HB.out oU.out qP.out⟩⟩
        ·rw [if_neg c14] at H;have QN:(((aI l0 bZ).f1)==(wrap64 (rd l1 0)))=false:=beq_eq_false_iff_ne.mpr c14;have aJx:(((aI l0 bZ).f1) != (wrap64 (rd l1 0)))=true:=bne_iff_ne.mpr c14;have H':=aA.mk H;clear H
         try go_wp2
         have bT:aA ((((w7.setCell ⟨jH,0,none⟩ (.string ((aI l0 bZ).f0))).setCell ⟨jH,1,none⟩ (.int .i64 ((aI l0 bZ).f1))).setCell ⟨jH,2,none⟩ (.slice nO ((aI l0 bZ).f2).length lV)).heap[sV]?=some (.cells #[.int .i64 kE,.slice none 0 0] 65 (0,0))):=⟨by refine aH ?_;refine aU ?_ uD.out _;refine aH ?_;refine aU ?_ uD.out _;refine aH ?_;refine aU ?_ uD.out _;refine aH ?_;exact gY.out⟩;have bW:aA ((((w7.setCell ⟨jH,0,none⟩ (.string ((aI l0 bZ).f0))).setCell ⟨jH,1,none⟩ (.int .i64 ((aI l0 bZ).f1))).setCell ⟨jH,2,none⟩ (.slice nO ((aI l0 bZ).f2).length lV)).heap[jH]?=some (.cells #[.string ((aI l0 bZ).f0),.int .i64 ((aI l0 bZ).f1),.slice nO ((aI l0 bZ).f2).length lV] 54 (0,0))):=⟨by refine aH ?_;refine aY (cs:=#[.string ((aI l0 bZ).f0),.int .i64 ((aI l0 bZ).f1),.slice none 0 0]) ?_ 2 _ rfl;refine aH ?_;refine aY (cs:=#[.string ((aI l0 bZ).f0),.int .i64 0,.slice none 0 0]) ?_ 1 _ rfl;refine aH ?_;refine aY (cs:=#[.string (⟨#[]⟩:ByteArray),.int .i64 0,.slice none 0 0]) ?_ 0 _ rfl;refine aH ?_;exact eX.out⟩
         have dA:aA (Below w.heap.size w (((w7.setCell ⟨jH,0,none⟩ (.string ((aI l0 bZ).f0))).setCell ⟨jH,1,none⟩ (.int .i64 ((aI l0 bZ).f1))).setCell ⟨jH,2,none⟩ (.slice nO ((aI l0 bZ).f2).length lV))):=⟨dK HB.out oU.out qP.out⟩
         (try clear gY)
         (try clear eX)
         (try clear HB)
         generalize (((w7.setCell ⟨jH,0,none⟩ (.string ((aI l0 bZ).f0))).setCell ⟨jH,1,none⟩ (.int .i64 ((aI l0 bZ).f1))).setCell ⟨jH,2,none⟩ (.slice nO ((aI l0 bZ).f2).length lV))=XX at bT bW dA ⊢;have gY:=bT;have eX:=bW;have HB:=dA;clear bT bW dA;have bT:=aA.mk (dY gY.out);have bW:=aA.mk (dY eX.out);have dA:=aA.mk (fZ HB.out);clear gY;clear eX;clear HB;have gY:=bT;have eX:=bW;have HB:=dA;clear bT bW dA;have aEk:0≤(0:Int):=(by omega);have aEl:0<(l1.length:Int):=dU dW;obtain ⟨aKS,aTx,AV⟩:=Kd.jJ HR1.out 0 aEk aEl;have Dp:=AV
         (try rw [show ((0:Int)).toNat=0 from rfl] at Dp)
         (try rw [show 0*1=0 from rfl] at Dp)
         (try rw [Addr.add_zero'] at Dp)
         cases aTx
         have aZf:(0<l1.length)=True:=eq_true (by omega)
         (try rw [show ((0:Int)).toNat=0 from rfl] at AV)
         (try rw [Addr.add_zero'] at AV)
         replace AV:=(HB.out.cell (dM w _ AV)).trans AV;replace aEk:=eq_true aEk;replace aEl:=eq_true aEl;refine qZ (n:=19) (S:=fun w'=>w'.cell? ⟨jH,0,none⟩=some (.string ((aI l0 bZ).f0))∧w'.cell? ⟨jH,1,none⟩=some (.int .i64 ((aI l0 bZ).f1))∧w'.cell? ⟨jH,2,none⟩=some (.slice nO ((aI l0 bZ).f2).length lV)∧w'.cell? aKS=some (.int .u8 (rd l1 0))) (ds:=[]) #[false,false,false,false,false,false,false,false,false,false,false,false,false,false,false,false,false,false,false] aQ rfl rfl ⟨(aC eX.out 0).trans rfl,(aC eX.out 1).trans rfl,(aC eX.out 2).trans rfl,((HB.out.cell (dM w _ Dp)).trans Dp)⟩ (fun hHeld=>?_);refine nK aJ.aTs aJ.aKP (fun gG zQ=>?_);generalize XX.drew=w20 at gY eX HB AV hHeld ⊢;refine bQ (i:=0) (N:=some 25) (v:=?_) (a':=?_) #[true,false,false,false,false,false,false,false,false,false,false,false,false,false,false,false,false,false,false] rfl rfl (bP gG.out aQ) (fun _ _ _ h=>h) (bG ?_) ?_ ?_;rotate_left
         ·intro w';go_simp;with_reducible rfl
         rotate_left
         ·simp only [Act.put,aX];rfl
         refine bQ (i:=1) (N:=some 26) (v:=?_) (a':=?_) #[true,true,false,false,false,false,false,false,false,false,false,false,false,false,false,false,false,false,false] rfl rfl (bP gG.out aQ) (fun _ _ _ h=>h) (bG ?_) ?_ ?_;rotate_left
         ·intro w';go_simp;with_reducible rfl
         rotate_left
         ·simp only [Act.put,aX];rfl
         refine bQ (i:=2) (N:=some 27) (v:=?_) (a':=?_) #[true,true,true,false,false,false,false,false,false,false,false,false,false,false,false,false,false,false,false] rfl rfl (bP gG.out aQ) (fun _ _ _ h=>h) (bG ?_) ?_ ?_;rotate_left
         ·intro w';go_simp;with_reducible rfl
         rotate_left
         ·simp only [Act.put,aX];rfl
         refine bQ (i:=3) (N:=some 28) (v:=?_) (a':=?_) #[true,true,true,true,false,false,false,false,false,false,false,false,false,false,false,false,false,false,false] rfl rfl (bP gG.out aQ) (fun _ _ _ h=>h) (bG ?_) ?_ ?_;rotate_left
         ·intro w';go_simp;with_reducible rfl
         rotate_left
         ·simp only [Act.put,aX];rfl
         refine bQ (i:=4) (N:=some 29) (v:=?_) (a':=?_) #[true,true,true,true,true,false,false,false,false,false,false,false,false,false,false,false,false,false,false] rfl rfl (bP gG.out aQ) (fun _ _ _ h=>h) (bG ?_) ?_ ?_;rotate_left
         ·intro w';go_simp;with_reducible rfl
         rotate_left
         ·simp only [Act.put,aX];rfl
         refine bQ (i:=6) (N:=some 31) (v:=?_) (a':=?_) #[true,true,true,true,true,false,true,false,false,false,false,false,false,false,false,false,false,false,false] rfl rfl (bP gG.out aQ) (fun _ _ _ h=>h) (bG ?_) ?_ ?_;rotate_left
         ·intro w';go_simp;with_reducible rfl
         rotate_left
         ·simp only [Act.put,aX];rfl
         refine bQ (i:=7) (N:=some 32) (v:=?_) (a':=?_) #[true,true,true,true,true,false,true,true,false,false,false,false,false,false,false,false,false,false,false] rfl rfl (bP gG.out aQ) (fun _ _ _ h=>h) (bG ?_) ?_ ?_;rotate_left
         ·intro w';go_simp;with_reducible rfl
         rotate_left
         ·simp only [Act.put,aX];rfl
         refine iQ (i:=5) (N:=some 30) (v:=?_) (a':=?_) #[true,true,true,true,true,true,true,true,false,false,false,false,false,false,false,false,false,false,false] rfl rfl (iH gG.out zQ.out aQ) (fun _ _ _ h=>h) (bG ?_) hHeld ?_ ?_;rotate_left
         ·rintro w' ⟨s0,s1,s2,s3⟩;go_simp;with_reducible rfl
         rotate_left
         ·simp only [Act.put,aX];rfl
         refine iQ (i:=8) (N:=some 33) (v:=?_) (a':=?_) #[true,true,true,true,true,true,true,true,true,false,false,false,false,false,false,false,false,false,false] rfl rfl (iH gG.out zQ.out aQ) (fun _ _ _ h=>h) (bG ?_) hHeld ?_ ?_;rotate_left
         ·rintro w' ⟨s0,s1,s2,s3⟩;go_simp;with_reducible rfl
         rotate_left
         ·simp only [Act.put,aX];rfl
         refine bQ (i:=9) (N:=some 34) (v:=?_) (a':=?_) #[true,true,true,true,true,true,true,true,true,true,false,false,false,false,false,false,false,false,false] rfl rfl (bP gG.out aQ) (fun _ _ _ h=>h) (bG ?_) ?_ ?_;rotate_left
         ·intro w';go_simp;with_reducible rfl
         rotate_left
         ·simp only [Act.put,aX];rfl
         refine bQ (i:=10) (N:=some 35) (v:=?_) (a':=?_) #[true,true,true,true,true,true,true,true,true,true,true,false,false,false,false,false,false,false,false] rfl rfl (bP gG.out aQ) (fun _ _ _ h=>h) (bG ?_) ?_ ?_;rotate_left
         ·intro w';go_simp;with_reducible rfl
         rotate_left
         ·simp only [Act.put,aX];rfl
         refine bQ (i:=11) (N:=some 36) (v:=?_) (a':=?_) #[true,true,true,true,true,true,true,true,true,true,true,true,false,false,false,false,false,false,false] rfl rfl (bP gG.out aQ) (fun _ _ _ h=>h) (bG ?_) ?_ ?_;rotate_left
         ·intro w';go_simp;with_reducible rfl
         rotate_left
         ·simp only [Act.put,aX];rfl
         refine bQ (i:=12) (N:=some 37) (v:=?_) (a':=?_) #[true,true,true,true,true,true,true,true,true,true,true,true,true,false,false,false,false,false,false] rfl rfl (bP gG.out aQ) (fun _ _ _ h=>h) (bG ?_) ?_ ?_;rotate_left
         ·intro w';go_simp;with_reducible rfl
         rotate_left
         ·simp only [Act.put,aX];rfl
         refine bQ (i:=13) (N:=some 38) (v:=undef) (a':=?_) #[true,true,true,true,true,true,true,true,true,true,true,true,true,true,false,false,false,false,false] rfl rfl (bP gG.out aQ) (fun _ _ _ h=>h) (Or.inr ⟨by rfl,rfl⟩) ?_ ?_;rotate_left
         ·simp only [Act.put,aX];rfl
         refine bQ (i:=14) (N:=some 39) (v:=undef) (a':=?_) #[true,true,true,true,true,true,true,true,true,true,true,true,true,true,true,false,false,false,false] rfl rfl (bP gG.out aQ) (fun _ _ _ h=>h) (Or.inr ⟨by rfl,rfl⟩) ?_ ?_;rotate_left
         ·simp only [Act.put,aX];rfl
         refine bQ (i:=15) (N:=some 40) (v:=undef) (a':=?_) #[true,true,true,true,true,true,true,true,true,true,true,true,true,true,true,true,false,false,false] rfl rfl (bP gG.out aQ) (fun _ _ _ h=>h) (Or.inr ⟨by rfl,rfl⟩) ?_ ?_;rotate_left
         ·simp only [Act.put,aX];rfl
         refine bQ (i:=16) (N:=some 41) (v:=undef) (a':=?_) #[true,true,true,true,true,true,true,true,true,true,true,true,true,true,true,true,true,false,false] rfl rfl (bP gG.out aQ) (fun _ _ _ h=>h) (Or.inr ⟨by rfl,rfl⟩) ?_ ?_;rotate_left
         ·simp only [Act.put,aX];rfl
         refine bQ (i:=17) (N:=some 42) (v:=undef) (a':=?_) #[true,true,true,true,true,true,true,true,true,true,true,true,true,true,true,true,true,true,false] rfl rfl (bP gG.out aQ) (fun _ _ _ h=>h) (Or.inr ⟨by rfl,rfl⟩) ?_ ?_;rotate_left
         ·simp only [Act.put,aX];rfl
         refine bQ (i:=18) (N:=some 43) (v:=?_) (a':=?_) #[true,true,true,true,true,true,true,true,true,true,true,true,true,true,true,true,true,true,true] rfl rfl (bP gG.out aQ) (fun _ _ _ h=>h) (bG ?_) ?_ ?_;rotate_left
         ·intro w';go_simp;with_reducible rfl
         rotate_left
         ·simp only [Act.put,aX];rfl
         refine sG (sH gG.out aQ) ?_
         try go_wp2
         go_meet
         case rel=>exact ⟨_,(true),gV,H',⟨by have:=wU.out;first|omega|exact Nat.le_refl _⟩,⟨by refine aH ?_;exact gY.out⟩,⟨by refine aH ?_;exact eX.out⟩,⟨dK HB.out oU.out qP.out⟩⟩
       ·rw [if_neg c13] at H;exact absurd H (by simp)
     case rest =>
      clear HC6;obtain ⟨kq,aGW,rfl,HA,Vu,gY,eX,HB⟩:=hcut
      cases kq with
      | zero=>exact absurd HA.out (by simp [aJ.j1])
      | succ kj5 =>
       have H:=HA.out;clear HA;simp only [aJ.j1] at H
       by_cases c21:aGW=true
       ·subst c21;have H1:(aJ.l0 kj5 l0 l1 (wrap64 (bZ+1)))=some (r1,r2,r3):=by rw [if_pos rfl] at H;exact H
        clear H;have H:=H1;clear H1;have H':=aA.mk H;clear H
        go_wp2
        go_roundg kj5
        case measure=>have:=wU.out;have:=Vu.out;omega
        case rel=>exact ⟨(wrap64 (bZ+1)),(kE),gV,H',⟨by have:=wU.out;have:=Vu.out;omega⟩,⟨by refine aH ?_;exact gY.out⟩,⟨dK HB.out oU.out qP.out⟩⟩
       ·as_aux_lemma =>
        replace c21:=Bool.eq_false_iff.mpr c21;subst c21;have H1:(aJ.l1 kj5 l0 l1 bZ 0 0 ((aI l0 bZ).f0) ((aI l0 bZ).f1) ((aI l0 bZ).f2) bZ)=some (r1,r2,r3):=by rw [if_neg (show ¬ (false=true) by decide)] at H;exact H
        clear H;have H:=H1;clear H1;have H':=aA.mk H;clear H
        go_wp2_with (first|((with_reducible refine dH (N:=8) rfl ?_);(try (refine dZ (by rfl) ?_;dsimp only));refine dB ?hg (N:=8) ?hd (cs:=#[.int .i64 0,.slice none 0 0]) (t:=65) ?hr ?_;(case hd=>rfl);(case hg=>rfl);(case hr=>first|(go_simp;done)|(go_simp;rfl));intro nH hg Zf hbox hb;have bT:=aA.mk (aK (g:=sV) (o:=.cells #[.int .i64 kE,.slice none 0 0] 65 (0,0)) (aH gY.out) hb);have bW:=aA.mk (aK (g:=jH) (o:=.cells #[.string ((aI l0 bZ).f0),.int .i64 ((aI l0 bZ).f1),.slice nO ((aI l0 bZ).f2).length lV] 54 (0,0)) (aH eX.out) hb);have dA:=aA.mk (aT (dK HB.out oU.out qP.out) hb);have dN:=aA.mk (hbox);have eY:=aA.mk ((by rw [hg];exact (aN (dK HB.out oU.out qP.out)):w.heap.size≤nH));have fV:=aA.mk ((by rw [hg];exact (aN (dK HB.out oU.out qP.out)):w.heap.size≤nH));have jA:=aA.mk ((by rw [hg];exact Nat.ne_of_lt (bU (g:=sV) (o:=.cells #[.int .i64 kE,.slice none 0 0] 65 (0,0)) (aH gY.out)):sV≠nH));have nC:=aA.mk ((by rw [hg];exact Nat.ne_of_gt (bU (g:=sV) (o:=.cells #[.int .i64 kE,.slice none 0 0] 65 (0,0)) (aH gY.out)):nH≠sV));have rC:=aA.mk ((by rw [hg];exact Nat.ne_of_lt (bU (g:=jH) (o:=.cells #[.string ((aI l0 bZ).f0),.int .i64 ((aI l0 bZ).f1),.slice nO ((aI l0 bZ).f2).length lV] 54 (0,0)) (aH eX.out)):jH≠nH));have tC:=aA.mk ((by rw [hg];exact Nat.ne_of_gt (bU (g:=jH) (o:=.cells #[.string ((aI l0 bZ).f0),.int .i64 ((aI l0 bZ).f1),.slice nO ((aI l0 bZ).f2).length lV] 54 (0,0)) (aH eX.out)):nH≠jH));clear gY eX HB;have gY:=bT;have eX:=bW;have HB:=dA;have fQ:=dN;have bKf:=eY;have vC:=fV;have uS:=jA;have EH:=nC;have pK:=rC;have xN:=tC;clear bT bW dA dN eY fV jA nC rC tC;clear hb hbox hg;have aFi:=EH.out;have aFj:=uS.out;have aJk:=xN.out;have aJl:=pK.out;have aF3:Zf.cell? ⟨nH,0,none⟩=some (.int .i64 0):=(aC fQ.out 0).trans rfl;have aF4:Zf.cell? ⟨nH,1,none⟩=some (.slice none 0 0):=(aC fQ.out 1).trans rfl;have aF5:=aG fQ.out 0;have aF6:=aG fQ.out 1))
        go_loopg [9,10] kj5 (fun kq v9 v10 w'=>∃ (EK:Int) (FQ:Int),v9=.int .i64 EK∧v10=.int .i64 FQ∧aA (aJ.l1 kq l0 l1 bZ EK FQ ((aI l0 bZ).f0) ((aI l0 bZ).f1) ((aI l0 bZ).f2) bZ=some (r1,r2,r3))∧aA (kq≤kj5)∧aA (w'.heap[sV]?=some (.cells #[.int .i64 kE,(.slice none 0 0)] 65 (0,0)))∧aA (w'.heap[jH]?=some (.cells #[.string ((aI l0 bZ).f0),.int .i64 ((aI l0 bZ).f1),(.slice nO ((aI l0 bZ).f2).length lV)] 54 (0,0)))∧aA (w'.heap[nH]?=some (.cells #[.int .i64 bZ,(.slice none 0 0)] 65 (0,0)))∧aA (Below w.heap.size w w'))
        case atStart=>exact ⟨(0),(0),gV,gV,H',⟨Nat.le_refl _⟩,⟨by refine aH ?_;refine aU ?_ uS.out _;refine aH ?_;refine aU ?_ uS.out _;refine aH ?_;exact gY.out⟩,⟨by refine aH ?_;refine aU ?_ pK.out _;refine aH ?_;refine aU ?_ pK.out _;refine aH ?_;exact eX.out⟩,⟨by refine aH ?_;refine aY (cs:=#[.int .i64 bZ,.slice none 0 0]) ?_ 1 _ rfl;refine aH ?_;refine aY (cs:=#[.int .i64 0,.slice none 0 0]) ?_ 0 _ rfl;refine aH ?_;exact fQ.out⟩,⟨eG HB.out oU.out qP.out vC.out⟩⟩
        case round =>
         clear H';obtain ⟨EK,FQ,rfl,rfl,HA,MZ,gY,eX,fQ,HB⟩:=hrel
         cases gk with
         | zero=>exact absurd HA.out (by simp [aJ.l1])
         | succ k3 =>
          have H:=HA.out;clear HA;simp only [aJ.l1] at H
          by_cases WI:FQ<(((aI l0 bZ).f2).length:Int)
          ·rw [if_pos WI] at H;have Rh:decide (FQ<(((aI l0 bZ).f2).length:Int))=true:=fB WI;clear WI
           by_cases TU:0≤FQ
           ·rw [if_pos TU] at H;have aE8:decide (0≤FQ)=true:=fB TU;clear TU
            by_cases c28:(rd ((aI l0 bZ).f2) FQ)≤2
            ·rw [if_pos c28] at H;have aCk:decide ((rd ((aI l0 bZ).f2) FQ)≤2)=true:=fB c28;clear c28;have H':=aA.mk H;clear H;have aFG:=EG.out;have aFH:=uD.out;have aIQ:=pK.out;have aIR:=xN.out;have QU:wr.cell? ⟨jH,0,none⟩=some (.string ((aI l0 bZ).f0)):=(aC eX.out 0).trans rfl;have QV:wr.cell? ⟨jH,1,none⟩=some (.int .i64 ((aI l0 bZ).f1)):=(aC eX.out 1).trans rfl;have aL6:wr.cell? ⟨jH,2,none⟩=some (.slice nO ((aI l0 bZ).f2).length lV):=(aC eX.out 2).trans rfl;have QW:=aG eX.out 0;have QX:=aG eX.out 1;have aL7:=aG eX.out 2;have aEm:0≤(FQ:Int):=dU dW;have aEn:FQ<(((aI l0 bZ).f2).length:Int):=dU dW;obtain ⟨aZg,aTy,MN⟩:=Kd.jJ JY.out FQ aEm aEn
             cases aTy
             replace MN:=(HB.out.cell (dM w _ MN)).trans MN;replace aEm:=eq_true aEm;replace aEn:=eq_true aEn
             go_wp2
             go_roundg k3
             case measure=>have:=wU.out;have:=Vu.out;have:=MZ.out;omega
             case rel=>exact ⟨(wrap64 (EK+1)),(wrap64 (FQ+1)),gV,gV,H',⟨by have:=wU.out;have:=Vu.out;have:=MZ.out;omega⟩,⟨by refine aH ?_;exact gY.out⟩,⟨by refine aH ?_;exact eX.out⟩,⟨by refine aH ?_;exact fQ.out⟩,⟨eG HB.out oU.out qP.out vC.out⟩⟩
            ·rw [if_neg c28] at H;have aCk:decide ((rd ((aI l0 bZ).f2) FQ)≤2)=false:=kT c28;clear c28;have H':=aA.mk H;clear H;have aE5:=EG.out;have aE6:=uD.out;have aBX:=pK.out;have aBY:=xN.out;have OO:wr.cell? ⟨jH,0,none⟩=some (.string ((aI l0 bZ).f0)):=(aC eX.out 0).trans rfl;have OQ:wr.cell? ⟨jH,1,none⟩=some (.int .i64 ((aI l0 bZ).f1)):=(aC eX.out 1).trans rfl;have bDT:wr.cell? ⟨jH,2,none⟩=some (.slice nO ((aI l0 bZ).f2).length lV):=(aC eX.out 2).trans rfl;have OT:=aG eX.out 0;have OU:=aG eX.out 1;have bDU:=aG eX.out 2;have aEm:0≤(FQ:Int):=dU dW;have aEn:FQ<(((aI l0 bZ).f2).length:Int):=dU dW;obtain ⟨aZg,aTy,MN⟩:=Kd.jJ JY.out FQ aEm aEn
             cases aTy
             replace MN:=(HB.out.cell (dM w _ MN)).trans MN;replace aEm:=eq_true aEm;replace aEn:=eq_true aEn
             go_wp2
             go_roundg k3
             case measure=>have:=wU.out;have:=Vu.out;have:=MZ.out;omega
             case rel=>exact ⟨(EK),(wrap64 (FQ+1)),gV,gV,H',⟨by have:=wU.out;have:=Vu.out;have:=MZ.out;omega⟩,⟨by refine aH ?_;exact gY.out⟩,⟨by refine aH ?_;exact eX.out⟩,⟨by refine aH ?_;exact fQ.out⟩,⟨eG HB.out oU.out qP.out vC.out⟩⟩
           ·rw [if_neg TU] at H;exact absurd H (by simp)
          ·as_aux_lemma =>
           rw [if_neg WI] at H;have Rh:decide (FQ<(((aI l0 bZ).f2).length:Int))=false:=kT WI;clear WI;have H':=aA.mk H;clear H;have aCb:=EG.out;have aCc:=uD.out;have aJm:=pK.out;have aJn:=xN.out;have aAW:wr.cell? ⟨jH,0,none⟩=some (.string ((aI l0 bZ).f0)):=(aC eX.out 0).trans rfl;have aAX:wr.cell? ⟨jH,1,none⟩=some (.int .i64 ((aI l0 bZ).f1)):=(aC eX.out 1).trans rfl;have bDV:wr.cell? ⟨jH,2,none⟩=some (.slice nO ((aI l0 bZ).f2).length lV):=(aC eX.out 2).trans rfl;have aAY:=aG eX.out 0;have aAZ:=aG eX.out 1;have bDW:=aG eX.out 2
           go_wp2
           go_loopg [11,12,13] k3 (fun kq v11 v12 v13 w'=>∃ (sO:Int) (jD:Int) (lN:Int) (fH:List Int) (nI:Value),v11=.int .i64 sO∧v12=.int .i64 jD∧v13=.int .i64 lN∧aA (aJ.l2 kq l0 l1 bZ sO jD lN ((aI l0 bZ).f0) ((aI l0 bZ).f1) ((aI l0 bZ).f2) bZ fH=some (r1,r2,r3))∧aA (kq≤k3)∧aA (Kd.R (Kd.int .i64) 3 w' w.heap.size (fun _=>True) nI fH)∧aA (w'.heap[sV]?=some (.cells #[.int .i64 kE,(.slice none 0 0)] 65 (0,0)))∧aA (w'.heap[jH]?=some (.cells #[.string ((aI l0 bZ).f0),.int .i64 ((aI l0 bZ).f1),(.slice nO ((aI l0 bZ).f2).length lV)] 54 (0,0)))∧aA (w'.heap[nH]?=some (.cells #[.int .i64 bZ,nI] 65 (0,0)))∧aA (Below w.heap.size w w'))
           case atStart=>exact ⟨(0),(wrap64 ((wrap64 (1+(wrap64 (Int.tdiv EK 2))))+(Int.tmod EK 2))),(0),(([]:List Int)),(.slice none 0 0),gV,gV,gV,H',⟨Nat.le_refl _⟩,⟨by first|exact Kd.BV _ _ _ _ _|exact Kd.KE _ _ _ _ _|exact Kd.KF _ _ _ _ _|exact Kd.KG _ _ _ _ _|exact Kd.KH _ _ _ _ _⟩,⟨by refine aH ?_;exact gY.out⟩,⟨by refine aH ?_;exact eX.out⟩,⟨by refine aH ?_;exact fQ.out⟩,⟨eG HB.out oU.out qP.out vC.out⟩⟩
           case round =>
            clear H';obtain ⟨sO,jD,lN,fH,nI,rfl,rfl,rfl,HA,HK4,eP,gY,eX,fQ,HB⟩:=hrel
            cases gk with
            | zero=>exact absurd HA.out (by simp [aJ.l2])
            | succ k4 =>
             have H:=HA.out;clear HA;simp only [aJ.l2] at H
             by_cases VD:lN<(((aI l0 bZ).f2).length:Int)
             ·as_aux_lemma =>
              rw [if_pos VD] at H;have RS:decide (lN<(((aI l0 bZ).f2).length:Int))=true:=fB VD;clear VD
              by_cases XY:0≤lN
              ·as_aux_lemma =>
               rw [if_pos XY] at H;have aJh:decide (0≤lN)=true:=fB XY;clear XY;have aTz:=aA.mk H;clear H;have aJo:=EG.out;have aJp:=uD.out;have aPr:=pK.out;have aPs:=xN.out;have OW:wr.cell? ⟨jH,0,none⟩=some (.string ((aI l0 bZ).f0)):=(aC eX.out 0).trans rfl;have OX:wr.cell? ⟨jH,1,none⟩=some (.int .i64 ((aI l0 bZ).f1)):=(aC eX.out 1).trans rfl;have bDX:wr.cell? ⟨jH,2,none⟩=some (.slice nO ((aI l0 bZ).f2).length lV):=(aC eX.out 2).trans rfl;have OY:=aG eX.out 0;have OZ:=aG eX.out 1;have bDY:=aG eX.out 2;have aTA:0≤(lN:Int):=dU dW;have aTB:lN<(((aI l0 bZ).f2).length:Int):=dU dW;obtain ⟨Vw,bHn,aBo⟩:=Kd.jJ JY.out lN aTA aTB
               cases bHn
               replace aBo:=(HB.out.cell (dM w _ aBo)).trans aBo;replace aTA:=eq_true aTA;replace aTB:=eq_true aTB
               go_upto_if 79 with (fail)
               go_cut [79] (fun v79 wc=>∃ (kq:Nat) (aBp:Bool),v79=.bool aBp∧aA (aJ.j4 kq l0 l1 bZ sO jD lN 0 (rd ((aI l0 bZ).f2) lN) aBp ((aI l0 bZ).f0) ((aI l0 bZ).f1) ((aI l0 bZ).f2) bZ fH=some (r1,r2,r3))∧aA (kq≤k4)∧aA (Kd.R (Kd.int .i64) 3 wc w.heap.size (fun _=>True) nI fH)∧aA (wc.heap[sV]?=some (.cells #[.int .i64 kE,(.slice none 0 0)] 65 (0,0)))∧aA (wc.heap[jH]?=some (.cells #[.string ((aI l0 bZ).f0),.int .i64 ((aI l0 bZ).f1),(.slice (some Vw) ((aI l0 bZ).f2).length lV)] 54 (0,0)))∧aA (wc.heap[nH]?=some (.cells #[.int .i64 bZ,nI] 65 (0,0)))∧aA (Below w.heap.size w wc))
               case first =>
                have H:=aTz.out;clear aTz
                by_cases c44:(rd ((aI l0 bZ).f2) lN)=1
                ·rw [if_pos c44] at H;have ZZ:((rd ((aI l0 bZ).f2) lN)==1)=true:=beq_iff_eq.mpr c44;have aZh:((rd ((aI l0 bZ).f2) lN) != 1)=false:=bne_eq_false_iff_eq.mpr c44;clear c44
                 (first|rw [ZZ]|(simp only [nX,tY];rw [ZZ])|skip)
                 have H':=aA.mk H;clear H
                 go_wp2
                 go_meet
                 case rel=>exact ⟨_,(((rd ((aI l0 bZ).f2) lN)==1)),gV,H',⟨by have:=wU.out;have:=Vu.out;have:=MZ.out;have:=HK4.out;first|omega|exact Nat.le_refl _⟩,⟨by refine bH ?_;exact eP.out⟩,⟨by refine aH ?_;exact gY.out⟩,⟨by refine aH ?_;exact eX.out⟩,⟨by refine aH ?_;exact fQ.out⟩,⟨eG HB.out oU.out qP.out vC.out⟩⟩
                ·rw [if_neg c44] at H;have ZZ:((rd ((aI l0 bZ).f2) lN)==1)=false:=beq_eq_false_iff_ne.mpr c44;have aZh:((rd ((aI l0 bZ).f2) lN) != 1)=true:=bne_iff_ne.mpr c44
                 (first|rw [ZZ]|(simp only [nX,tY];rw [ZZ])|skip)
                 have H':=aA.mk H;clear H
                 go_wp2
                 go_meet
                 case rel=>exact ⟨_,(((rd ((aI l0 bZ).f2) lN)==2)),gV,H',⟨by have:=wU.out;have:=Vu.out;have:=MZ.out;have:=HK4.out;first|omega|exact Nat.le_refl _⟩,⟨by refine bH ?_;exact eP.out⟩,⟨by refine aH ?_;exact gY.out⟩,⟨by refine aH ?_;exact eX.out⟩,⟨by refine aH ?_;exact fQ.out⟩,⟨eG HB.out oU.out qP.out vC.out⟩⟩
               case rest =>
                clear aTz;obtain ⟨kq,aBp,rfl,HA,Tn,eP,gY,eX,fQ,HB⟩:=hcut
                cases kq with
                | zero=>exact absurd HA.out (by simp [aJ.j4])
                | succ YG =>
                 have H:=HA.out;clear HA;simp only [aJ.j4] at H
                 by_cases c45:aBp=true
                 ·subst c45;have H1:(if 0≤(wrap64 (1+(wrap64 (Int.tdiv sO 2)))) then (if (wrap64 (1+(wrap64 (Int.tdiv sO 2))))<(l1.length:Int) then (if (Int.tmod sO 2)=0 then (if fH.length<17592186044416 then (aJ.l2 YG l0 l1 bZ (wrap64 (sO+1)) jD (wrap64 (lN+1)) ((aI l0 bZ).f0) ((aI l0 bZ).f1) ((aI l0 bZ).f2) bZ (fH ++ [Int.tmod (wrap64 (rd l1 (wrap64 (1+(wrap64 (Int.tdiv sO 2)))))) 16])) else (none)) else (if fH.length<17592186044416 then (aJ.l2 YG l0 l1 bZ (wrap64 (sO+1)) jD (wrap64 (lN+1)) ((aI l0 bZ).f0) ((aI l0 bZ).f1) ((aI l0 bZ).f2) bZ (fH ++ [wrap64 (Int.tdiv (wrap64 (rd l1 (wrap64 (1+(wrap64 (Int.tdiv sO 2)))))) 16)])) else (none))) else (none)) else (none))=some (r1,r2,r3):=by rw [if_pos rfl] at H;exact H
                  clear H;have H:=H1;clear H1;obtain ⟨Kw,aKT⟩:∃ j_:Int,(wrap64 (1+(wrap64 (Int.tdiv sO 2))))=j_:=⟨_,rfl⟩
                  replace H:(if 0≤(Kw) then (if (Kw)<(l1.length:Int) then (if (Int.tmod sO 2)=0 then (if fH.length<17592186044416 then (aJ.l2 YG l0 l1 bZ (wrap64 (sO+1)) jD (wrap64 (lN+1)) ((aI l0 bZ).f0) ((aI l0 bZ).f1) ((aI l0 bZ).f2) bZ (fH ++ [Int.tmod (wrap64 (rd l1 (Kw))) 16])) else (none)) else (if fH.length<17592186044416 then (aJ.l2 YG l0 l1 bZ (wrap64 (sO+1)) jD (wrap64 (lN+1)) ((aI l0 bZ).f0) ((aI l0 bZ).f1) ((aI l0 bZ).f2) bZ (fH ++ [wrap64 (Int.tdiv (wrap64 (rd l1 (Kw))) 16)])) else (none))) else (none)) else (none))=some (r1,r2,r3):=by first|(rw [aKT] at H;exact H)|(simp only [aKT] at H ⊢;exact H)
                  have bHo:(IntKind.i64.wrap (1+(wrap64 (Int.tdiv sO 2))))=Kw:=(nX _).trans aKT
                  by_cases Zg:0≤(Kw)
                  ·rw [if_pos Zg] at H;have aFO:decide (0≤(Kw))=true:=fB Zg;clear Zg
                   by_cases c48:(Kw)<(l1.length:Int)
                   ·rw [if_pos c48] at H;have aJb:decide ((Kw)<(l1.length:Int))=true:=fB c48;clear c48
                    by_cases c49:(Int.tmod sO 2)=0
                    ·rw [if_pos c49] at H;have aB9:((Int.tmod sO 2)==0)=true:=beq_iff_eq.mpr c49;have aFP:((Int.tmod sO 2) != 0)=false:=bne_eq_false_iff_eq.mpr c49;clear c49
                     by_cases c50:fH.length<17592186044416
                     ·rw [if_pos c50] at H;have aZi:=aA.mk c50;clear c50;obtain ⟨aNV,aCW⟩:∃ y_:List Int,y_=(fH ++ [Int.tmod (wrap64 (rd l1 (Kw))) 16]):=⟨_,rfl⟩
                      replace H:(aJ.l2 YG l0 l1 bZ (wrap64 (sO+1)) jD (wrap64 (lN+1)) ((aI l0 bZ).f0) ((aI l0 bZ).f1) ((aI l0 bZ).f2) bZ aNV)=some (r1,r2,r3):=by first|(rw [aCW];with_reducible exact H)|(have qY:=(Option.bind_some _ _).symm.trans H;rw [aCW];with_reducible exact qY)|(have qY:=(Option.bind_some _ _).symm.trans H;with_reducible exact qY)|with_reducible exact H|(rw [aCW];exact H)|exact H
                      have aZj:=aA.mk aCW;clear aCW;have H':=aA.mk H;clear H;have aEo:0≤((Kw):Int):=dU dW;have aEp:(Kw)<(l1.length:Int):=dU dW;obtain ⟨aZk,aTC,MO⟩:=Kd.jJ HR1.out (Kw) aEo aEp
                      cases aTC
                      replace MO:=(HB.out.cell (dM w _ MO)).trans MO;replace aEo:=eq_true aEo;replace aEp:=eq_true aEp;have aO1:=EH.out;have aO2:=uS.out;have aYs:=xN.out;have aYt:=pK.out;have aNK:wc.cell? ⟨nH,0,none⟩=some (.int .i64 bZ):=(aC fQ.out 0).trans rfl;have aNL:wc.cell? ⟨nH,1,none⟩=some (nI):=(aC fQ.out 1).trans rfl;have aNM:=aG fQ.out 0;have aNN:=aG fQ.out 1
                      go_wp2_with (first|((with_reducible refine qM (b:=.append) (xs:=#[.tmp 162,.tmp 164]) rfl ?_);(try (refine dZ (by rfl) ?_;dsimp only));at_builtin;refine Kd.EW (Kd.int .i64) (w0:=w) w.heap.size rfl (.tmp 162) (.tmp 164) 22 3 (.int .i64 0) 8 rfl Try.underlying22 info3 rfl (by decide) (by omega) nI fH (Int.tmod (wrap64 (rd l1 (Kw))) 16) [.int .i64 (Int.tmod (wrap64 (rd l1 (Kw))) 16)] (fun _=>True) (fun _=>False) rfl rfl ?aP (fun _ hk=>hk.elim) ?aF ?aO ?aB ?aS ?aL ?_;(case aP=>exact rfl);(case aB=>exact (eG HB.out oU.out qP.out vC.out));(case aF=>exact (fun _ _=>trivial));(case aO=>exact (bH eP.out));(case aS=>exact (aN (eG HB.out oU.out qP.out vC.out)));(case aL=>have:=aZi.out;omega);intro bFT w54 ho hb hg hat;rw [← aZj.out] at ho;have bT:=aA.mk (kD (g:=sV) (o:=.cells #[.int .i64 kE,.slice none 0 0] 65 (0,0)) (aH gY.out) hg (Kd.AO eP.out gY.out (by decide)));have bW:=aA.mk (kD (g:=jH) (o:=.cells #[.string ((aI l0 bZ).f0),.int .i64 ((aI l0 bZ).f1),.slice (some Vw) ((aI l0 bZ).f2).length lV] 54 (0,0)) (aH eX.out) hg (Kd.AO eP.out eX.out (by decide)));have dA:=aA.mk (kD (g:=nH) (o:=.cells #[.int .i64 bZ,nI] 65 (0,0)) (aH fQ.out) hg (Kd.AO eP.out fQ.out (by decide)));have dN:=aA.mk (hb);have eY:=aA.mk (ho);clear gY eX fQ HB eP;have gY:=bT;have eX:=bW;have fQ:=dA;have HB:=dN;have Jq:=eY;clear bT bW dA dN eY;clear ho hb hg hat;obtain ⟨Lc,Gp,aCI⟩:=Kd.iK Jq.out;subst aCI;have aGn:w54.cell? ⟨nH,0,none⟩=some (.int .i64 bZ):=(aC fQ.out 0).trans rfl;have aGo:w54.cell? ⟨nH,1,none⟩=some (nI):=(aC fQ.out 1).trans rfl;have aGp:=aG fQ.out 0;have aGq:=aG fQ.out 1))
                      go_roundg YG
                      case measure=>have:=wU.out;have:=Vu.out;have:=MZ.out;have:=HK4.out;have:=Tn.out;omega
                      case rel=>exact ⟨(wrap64 (sO+1)),(jD),(wrap64 (lN+1)),(aNV),(.slice Lc aNV.length Gp),gV,gV,gV,H',⟨by have:=wU.out;have:=Vu.out;have:=MZ.out;have:=HK4.out;have:=Tn.out;omega⟩,⟨by refine bH ?_;exact Kd.dX (Kd.dO (p:=⟨nH,1,none⟩) (Kd.dV Jq.out fQ.out (by decide)) (fun _ hk=>hk.2) (.slice Lc aNV.length Gp)) (fun _ hk=>trivial)⟩,⟨by refine aH ?_;refine aU ?_ uS.out _;refine aH ?_;exact gY.out⟩,⟨by refine aH ?_;refine aU ?_ pK.out _;refine aH ?_;exact eX.out⟩,⟨by refine aH ?_;refine aY (cs:=#[.int .i64 bZ,nI]) ?_ 1 _ rfl;refine aH ?_;exact fQ.out⟩,⟨eG HB.out oU.out qP.out vC.out⟩⟩
                     ·rw [if_neg c50] at H;exact absurd H (by simp)
                    ·rw [if_neg c49] at H;have aB9:((Int.tmod sO 2)==0)=false:=beq_eq_false_iff_ne.mpr c49;have aFP:((Int.tmod sO 2) != 0)=true:=bne_iff_ne.mpr c49
                     by_cases c57:fH.length<17592186044416
                     ·rw [if_pos c57] at H;have aJe:=aA.mk c57;clear c57;obtain ⟨aNW,aCX⟩:∃ y_:List Int,y_=(fH ++ [wrap64 (Int.tdiv (wrap64 (rd l1 (Kw))) 16)]):=⟨_,rfl⟩
                      replace H:(aJ.l2 YG l0 l1 bZ (wrap64 (sO+1)) jD (wrap64 (lN+1)) ((aI l0 bZ).f0) ((aI l0 bZ).f1) ((aI l0 bZ).f2) bZ aNW)=some (r1,r2,r3):=by first|(rw [aCX];with_reducible exact H)|(have qY:=(Option.bind_some _ _).symm.trans H;rw [aCX];with_reducible exact qY)|(have qY:=(Option.bind_some _ _).symm.trans H;with_reducible exact qY)|with_reducible exact H|(rw [aCX];exact H)|exact H
                      have aZl:=aA.mk aCX;clear aCX;have H':=aA.mk H;clear H;have aEo:0≤((Kw):Int):=dU dW;have aEp:(Kw)<(l1.length:Int):=dU dW;obtain ⟨aZk,aTC,MO⟩:=Kd.jJ HR1.out (Kw) aEo aEp
                      cases aTC
                      replace MO:=(HB.out.cell (dM w _ MO)).trans MO;replace aEo:=eq_true aEo;replace aEp:=eq_true aEp;have aYz:=EH.out;have aYA:=uS.out;have aP5:=xN.out;have aP6:=pK.out;have bDZ:wc.cell? ⟨nH,0,none⟩=some (.int .i64 bZ):=(aC fQ.out 0).trans rfl;have bD0:wc.cell? ⟨nH,1,none⟩=some (nI):=(aC fQ.out 1).trans rfl;have bD1:=aG fQ.out 0;have bD2:=aG fQ.out 1
                      go_wp2_with (first|((with_reducible refine qM (b:=.append) (xs:=#[.tmp 162,.tmp 164]) rfl ?_);(try (refine dZ (by rfl) ?_;dsimp only));at_builtin;refine Kd.EW (Kd.int .i64) (w0:=w) w.heap.size rfl (.tmp 162) (.tmp 164) 22 3 (.int .i64 0) 8 rfl Try.underlying22 info3 rfl (by decide) (by omega) nI fH (wrap64 (Int.tdiv (wrap64 (rd l1 (Kw))) 16)) [.int .i64 (wrap64 (Int.tdiv (wrap64 (rd l1 (Kw))) 16))] (fun _=>True) (fun _=>False) rfl rfl ?aP (fun _ hk=>hk.elim) ?aF ?aO ?aB ?aS ?aL ?_;(case aP=>exact rfl);(case aB=>exact (eG HB.out oU.out qP.out vC.out));(case aF=>exact (fun _ _=>trivial));(case aO=>exact (bH eP.out));(case aS=>exact (aN (eG HB.out oU.out qP.out vC.out)));(case aL=>have:=aJe.out;omega);intro bMl w61 ho hb hg hat;rw [← aZl.out] at ho;have bT:=aA.mk (kD (g:=sV) (o:=.cells #[.int .i64 kE,.slice none 0 0] 65 (0,0)) (aH gY.out) hg (Kd.AO eP.out gY.out (by decide)));have bW:=aA.mk (kD (g:=jH) (o:=.cells #[.string ((aI l0 bZ).f0),.int .i64 ((aI l0 bZ).f1),.slice (some Vw) ((aI l0 bZ).f2).length lV] 54 (0,0)) (aH eX.out) hg (Kd.AO eP.out eX.out (by decide)));have dA:=aA.mk (kD (g:=nH) (o:=.cells #[.int .i64 bZ,nI] 65 (0,0)) (aH fQ.out) hg (Kd.AO eP.out fQ.out (by decide)));have dN:=aA.mk (hb);have eY:=aA.mk (ho);clear gY eX fQ HB eP;have gY:=bT;have eX:=bW;have fQ:=dA;have HB:=dN;have aQd:=eY;clear bT bW dA dN eY;clear ho hb hg hat;obtain ⟨aSs,aSt,aSu⟩:=Kd.iK aQd.out;subst aSu;have bD3:w61.cell? ⟨nH,0,none⟩=some (.int .i64 bZ):=(aC fQ.out 0).trans rfl;have bD4:w61.cell? ⟨nH,1,none⟩=some (nI):=(aC fQ.out 1).trans rfl;have bD5:=aG fQ.out 0;have bD6:=aG fQ.out 1))
                      go_roundg YG
                      case measure=>have:=wU.out;have:=Vu.out;have:=MZ.out;have:=HK4.out;have:=Tn.out;omega
                      case rel=>exact ⟨(wrap64 (sO+1)),(jD),(wrap64 (lN+1)),(aNW),(.slice aSs aNW.length aSt),gV,gV,gV,H',⟨by have:=wU.out;have:=Vu.out;have:=MZ.out;have:=HK4.out;have:=Tn.out;omega⟩,⟨by refine bH ?_;exact Kd.dX (Kd.dO (p:=⟨nH,1,none⟩) (Kd.dV aQd.out fQ.out (by decide)) (fun _ hk=>hk.2) (.slice aSs aNW.length aSt)) (fun _ hk=>trivial)⟩,⟨by refine aH ?_;refine aU ?_ uS.out _;refine aH ?_;exact gY.out⟩,⟨by refine aH ?_;refine aU ?_ pK.out _;refine aH ?_;exact eX.out⟩,⟨by refine aH ?_;refine aY (cs:=#[.int .i64 bZ,nI]) ?_ 1 _ rfl;refine aH ?_;exact fQ.out⟩,⟨eG HB.out oU.out qP.out vC.out⟩⟩
                     ·rw [if_neg c57] at H;exact absurd H (by simp)
                   ·rw [if_neg c48] at H;exact absurd H (by simp)
                  ·rw [if_neg Zg] at H;exact absurd H (by simp)
                 ·as_aux_lemma =>
                  replace c45:=Bool.eq_false_iff.mpr c45;subst c45;have H1:(if (rd ((aI l0 bZ).f2) lN)=3 then (aJ.j5 YG l0 l1 bZ sO jD lN 0 (rd ((aI l0 bZ).f2) lN) ((rd ((aI l0 bZ).f2) lN)==3) ((aI l0 bZ).f0) ((aI l0 bZ).f1) ((aI l0 bZ).f2) bZ fH) else (aJ.j5 YG l0 l1 bZ sO jD lN 0 (rd ((aI l0 bZ).f2) lN) ((rd ((aI l0 bZ).f2) lN)==5) ((aI l0 bZ).f0) ((aI l0 bZ).f1) ((aI l0 bZ).f2) bZ fH))=some (r1,r2,r3):=by rw [if_neg (show ¬ (false=true) by decide)] at H;exact H
                  clear H;have H:=H1;clear H1;have aTD:=aA.mk H;clear H
                  go_upto_if 98 with (fail)
                  go_cut [98] (fun v98 wc=>∃ (kq:Nat) (aBq:Bool),v98=.bool aBq∧aA (aJ.j5 kq l0 l1 bZ sO jD lN 0 (rd ((aI l0 bZ).f2) lN) aBq ((aI l0 bZ).f0) ((aI l0 bZ).f1) ((aI l0 bZ).f2) bZ fH=some (r1,r2,r3))∧aA (kq≤YG)∧aA (Kd.R (Kd.int .i64) 3 wc w.heap.size (fun _=>True) nI fH)∧aA (wc.heap[sV]?=some (.cells #[.int .i64 kE,(.slice none 0 0)] 65 (0,0)))∧aA (wc.heap[jH]?=some (.cells #[.string ((aI l0 bZ).f0),.int .i64 ((aI l0 bZ).f1),(.slice (some Vw) ((aI l0 bZ).f2).length lV)] 54 (0,0)))∧aA (wc.heap[nH]?=some (.cells #[.int .i64 bZ,nI] 65 (0,0)))∧aA (Below w.heap.size w wc))
                  case first =>
                   have H:=aTD.out;clear aTD
                   by_cases c65:(rd ((aI l0 bZ).f2) lN)=3
                   ·rw [if_pos c65] at H;have aCY:((rd ((aI l0 bZ).f2) lN)==3)=true:=beq_iff_eq.mpr c65;have aZm:((rd ((aI l0 bZ).f2) lN) != 3)=false:=bne_eq_false_iff_eq.mpr c65;clear c65
                    (first|rw [aCY]|(simp only [nX,tY];rw [aCY])|skip)
                    have H':=aA.mk H;clear H
                    go_wp2
                    go_meet
                    case rel=>exact ⟨_,(((rd ((aI l0 bZ).f2) lN)==3)),gV,H',⟨by have:=wU.out;have:=Vu.out;have:=MZ.out;have:=HK4.out;have:=Tn.out;first|omega|exact Nat.le_refl _⟩,⟨by refine bH ?_;exact eP.out⟩,⟨by refine aH ?_;exact gY.out⟩,⟨by refine aH ?_;exact eX.out⟩,⟨by refine aH ?_;exact fQ.out⟩,⟨eG HB.out oU.out qP.out vC.out⟩⟩
                   ·rw [if_neg c65] at H;have aCY:((rd ((aI l0 bZ).f2) lN)==3)=false:=beq_eq_false_iff_ne.mpr c65;have aZm:((rd ((aI l0 bZ).f2) lN) != 3)=true:=bne_iff_ne.mpr c65
                    (first|rw [aCY]|(simp only [nX,tY];rw [aCY])|skip)
                    have H':=aA.mk H;clear H
                    go_wp2
                    go_meet
                    case rel=>exact ⟨_,(((rd ((aI l0 bZ).f2) lN)==5)),gV,H',⟨by have:=wU.out;have:=Vu.out;have:=MZ.out;have:=HK4.out;have:=Tn.out;first|omega|exact Nat.le_refl _⟩,⟨by refine bH ?_;exact eP.out⟩,⟨by refine aH ?_;exact gY.out⟩,⟨by refine aH ?_;exact eX.out⟩,⟨by refine aH ?_;exact fQ.out⟩,⟨eG HB.out oU.out qP.out vC.out⟩⟩
                  case rest =>
                   clear aTD;obtain ⟨kq,aBq,rfl,HA,aCZ,eP,gY,eX,fQ,HB⟩:=hcut
                   cases kq with
                   | zero=>exact absurd HA.out (by simp [aJ.j5])
                   | succ Qb =>
                    have H:=HA.out;clear HA;simp only [aJ.j5] at H
                    by_cases c66:aBq=true
                    ·subst c66;have H1:(if 0≤jD then (if jD<(l1.length:Int) then (if fH.length<17592186044416 then (aJ.l2 Qb l0 l1 bZ sO (wrap64 (jD+1)) (wrap64 (lN+1)) ((aI l0 bZ).f0) ((aI l0 bZ).f1) ((aI l0 bZ).f2) bZ (fH ++ [wrap64 (IntKind.i8.wrap (rd l1 jD))])) else (none)) else (none)) else (none))=some (r1,r2,r3):=by rw [if_pos rfl] at H;exact H
                     clear H;have H:=H1;clear H1
                     by_cases c67:0≤jD
                     ·rw [if_pos c67] at H;have bKg:decide (0≤jD)=true:=fB c67;clear c67
                      by_cases c68:jD<(l1.length:Int)
                      ·rw [if_pos c68] at H;have aPS:decide (jD<(l1.length:Int))=true:=fB c68;clear c68
                       by_cases c69:fH.length<17592186044416
                       ·rw [if_pos c69] at H;have aZn:=aA.mk c69;clear c69;obtain ⟨aNX,aC0⟩:∃ y_:List Int,y_=(fH ++ [wrap64 (IntKind.i8.wrap (rd l1 jD))]):=⟨_,rfl⟩
                        replace H:(aJ.l2 Qb l0 l1 bZ sO (wrap64 (jD+1)) (wrap64 (lN+1)) ((aI l0 bZ).f0) ((aI l0 bZ).f1) ((aI l0 bZ).f2) bZ aNX)=some (r1,r2,r3):=by first|(rw [aC0];with_reducible exact H)|(have qY:=(Option.bind_some _ _).symm.trans H;rw [aC0];with_reducible exact qY)|(have qY:=(Option.bind_some _ _).symm.trans H;with_reducible exact qY)|with_reducible exact H|(rw [aC0];exact H)|exact H
                        have aZo:=aA.mk aC0;clear aC0;have H':=aA.mk H;clear H;have aTE:0≤(jD:Int):=dU dW;have aTF:jD<(l1.length:Int):=dU dW;obtain ⟨bKh,bHp,aBr⟩:=Kd.jJ HR1.out jD aTE aTF
                        cases bHp
                        replace aBr:=(HB.out.cell (dM w _ aBr)).trans aBr;replace aTE:=eq_true aTE;replace aTF:=eq_true aTF;have aVL:=EH.out;have aVM:=uS.out;have aYD:=xN.out;have aYE:=pK.out;have aNi:wc.cell? ⟨nH,0,none⟩=some (.int .i64 bZ):=(aC fQ.out 0).trans rfl;have aNj:wc.cell? ⟨nH,1,none⟩=some (nI):=(aC fQ.out 1).trans rfl;have aNk:=aG fQ.out 0;have aNl:=aG fQ.out 1
                        go_wp2_with (first|((with_reducible refine qM (b:=.append) (xs:=#[.tmp 162,.tmp 164]) rfl ?_);(try (refine dZ (by rfl) ?_;dsimp only));at_builtin;refine Kd.EW (Kd.int .i64) (w0:=w) w.heap.size rfl (.tmp 162) (.tmp 164) 22 3 (.int .i64 0) 8 rfl Try.underlying22 info3 rfl (by decide) (by omega) nI fH (wrap64 (IntKind.i8.wrap (rd l1 jD))) [.int .i64 (wrap64 (IntKind.i8.wrap (rd l1 jD)))] (fun _=>True) (fun _=>False) rfl rfl ?aP (fun _ hk=>hk.elim) ?aF ?aO ?aB ?aS ?aL ?_;(case aP=>exact rfl);(case aB=>exact (eG HB.out oU.out qP.out vC.out));(case aF=>exact (fun _ _=>trivial));(case aO=>exact (bH eP.out));(case aS=>exact (aN (eG HB.out oU.out qP.out vC.out)));(case aL=>have:=aZn.out;omega);intro bMm w73 ho hb hg hat;rw [← aZo.out] at ho;have bT:=aA.mk (kD (g:=sV) (o:=.cells #[.int .i64 kE,.slice none 0 0] 65 (0,0)) (aH gY.out) hg (Kd.AO eP.out gY.out (by decide)));have bW:=aA.mk (kD (g:=jH) (o:=.cells #[.string ((aI l0 bZ).f0),.int .i64 ((aI l0 bZ).f1),.slice (some Vw) ((aI l0 bZ).f2).length lV] 54 (0,0)) (aH eX.out) hg (Kd.AO eP.out eX.out (by decide)));have dA:=aA.mk (kD (g:=nH) (o:=.cells #[.int .i64 bZ,nI] 65 (0,0)) (aH fQ.out) hg (Kd.AO eP.out fQ.out (by decide)));have dN:=aA.mk (hb);have eY:=aA.mk (ho);clear gY eX fQ HB eP;have gY:=bT;have eX:=bW;have fQ:=dA;have HB:=dN;have aQe:=eY;clear bT bW dA dN eY;clear ho hb hg hat;obtain ⟨aZp,aZq,bHq⟩:=Kd.iK aQe.out;subst bHq;have bD7:w73.cell? ⟨nH,0,none⟩=some (.int .i64 bZ):=(aC fQ.out 0).trans rfl;have bD8:w73.cell? ⟨nH,1,none⟩=some (nI):=(aC fQ.out 1).trans rfl;have bD9:=aG fQ.out 0;have bD_:=aG fQ.out 1))
                        go_roundg Qb
                        case measure=>have:=wU.out;have:=Vu.out;have:=MZ.out;have:=HK4.out;have:=Tn.out;have:=aCZ.out;omega
                        case rel=>exact ⟨(sO),(wrap64 (jD+1)),(wrap64 (lN+1)),(aNX),(.slice aZp aNX.length aZq),gV,gV,gV,H',⟨by have:=wU.out;have:=Vu.out;have:=MZ.out;have:=HK4.out;have:=Tn.out;have:=aCZ.out;omega⟩,⟨by refine bH ?_;exact Kd.dX (Kd.dO (p:=⟨nH,1,none⟩) (Kd.dV aQe.out fQ.out (by decide)) (fun _ hk=>hk.2) (.slice aZp aNX.length aZq)) (fun _ hk=>trivial)⟩,⟨by refine aH ?_;refine aU ?_ uS.out _;refine aH ?_;exact gY.out⟩,⟨by refine aH ?_;refine aU ?_ pK.out _;refine aH ?_;exact eX.out⟩,⟨by refine aH ?_;refine aY (cs:=#[.int .i64 bZ,nI]) ?_ 1 _ rfl;refine aH ?_;exact fQ.out⟩,⟨eG HB.out oU.out qP.out vC.out⟩⟩
                       ·rw [if_neg c69] at H;exact absurd H (by simp)
                      ·rw [if_neg c68] at H;exact absurd H (by simp)
                     ·rw [if_neg c67] at H;exact absurd H (by simp)
                    ·as_aux_lemma =>
                     replace c66:=Bool.eq_false_iff.mpr c66;subst c66
                     have H1:(if (rd ((aI l0 bZ).f2) lN)=6 then (if 0≤jD then (if jD<(l1.length:Int) then (if 0≤(wrap64 (jD+1)) then (if (wrap64 (jD+1))<(l1.length:Int) then (if fH.length<17592186044416 then (aJ.l2 Qb l0 l1 bZ sO (wrap64 (jD+2)) (wrap64 (lN+1)) ((aI l0 bZ).f0) ((aI l0 bZ).f1) ((aI l0 bZ).f2) bZ (fH ++ [wrap64 (IntKind.i16.wrap (IntKind.u16.wrap ((IntKind.u16.wrap (rd l1 jD))+(IntKind.u16.wrap (256*(IntKind.u16.wrap (rd l1 (wrap64 (jD+1)))))))))])) else (none)) else (none)) else (none)) else (none)) else (none)) else (if (rd ((aI l0 bZ).f2) lN)=4 then (if 0≤jD then (if jD<(l1.length:Int) then (if 0≤(wrap64 (jD+1)) then (if (wrap64 (jD+1))<(l1.length:Int) then (if 0≤(wrap64 (jD+2)) then (if (wrap64 (jD+2))<(l1.length:Int) then (if 0≤(wrap64 (jD+3)) then (if (wrap64 (jD+3))<(l1.length:Int) then (if fH.length<17592186044416 then (aJ.l2 Qb l0 l1 bZ sO (wrap64 (jD+4)) (wrap64 (lN+1)) ((aI l0 bZ).f0) ((aI l0 bZ).f1) ((aI l0 bZ).f2) bZ (fH ++ [wrap64 ((wrap64 ((wrap64 ((wrap64 (rd l1 jD))+(wrap64 (256*(wrap64 (rd l1 (wrap64 (jD+1))))))))+(wrap64 (65536*(wrap64 (rd l1 (wrap64 (jD+2))))))))+(wrap64 (16777216*(wrap64 (rd l1 (wrap64 (jD+3)))))))])) else (none)) else (none)) else (none)) else (none)) else (none)) else (none)) else (none)) else (none)) else (none)) else (if fH.length<17592186044416 then (aJ.l2 Qb l0 l1 bZ sO jD (wrap64 (lN+1)) ((aI l0 bZ).f0) ((aI l0 bZ).f1) ((aI l0 bZ).f2) bZ (fH ++ [0])) else (none))))=some (r1,r2,r3):=by rw [if_neg (show ¬ (false=true) by decide)] at H;exact H
                     clear H;have H:=H1;clear H1
                     by_cases c76:(rd ((aI l0 bZ).f2) lN)=6
                     ·as_aux_lemma =>
                      rw [if_pos c76] at H;have aZr:((rd ((aI l0 bZ).f2) lN)==6)=true:=beq_iff_eq.mpr c76;have aZs:((rd ((aI l0 bZ).f2) lN) != 6)=false:=bne_eq_false_iff_eq.mpr c76;clear c76
                      by_cases c77:0≤jD
                      ·as_aux_lemma =>
                       rw [if_pos c77] at H;have bKi:decide (0≤jD)=true:=fB c77;clear c77
                       by_cases c78:jD<(l1.length:Int)
                       ·as_aux_lemma =>
                        rw [if_pos c78] at H;have bKj:decide (jD<(l1.length:Int))=true:=fB c78;clear c78;obtain ⟨Qc,aKU⟩:∃ j_:Int,(wrap64 (jD+1))=j_:=⟨_,rfl⟩
                        replace H:(if 0≤(Qc) then (if (Qc)<(l1.length:Int) then (if fH.length<17592186044416 then (aJ.l2 Qb l0 l1 bZ sO (wrap64 (jD+2)) (wrap64 (lN+1)) ((aI l0 bZ).f0) ((aI l0 bZ).f1) ((aI l0 bZ).f2) bZ (fH ++ [wrap64 (IntKind.i16.wrap (IntKind.u16.wrap ((IntKind.u16.wrap (rd l1 jD))+(IntKind.u16.wrap (256*(IntKind.u16.wrap (rd l1 (Qc))))))))])) else (none)) else (none)) else (none))=some (r1,r2,r3):=by first|(rw [aKU] at H;exact H)|(simp only [aKU] at H ⊢;exact H)
                        have bHr:(IntKind.i64.wrap (jD+1))=Qc:=(nX _).trans aKU
                        by_cases c80:0≤(Qc)
                        ·as_aux_lemma =>
                         rw [if_pos c80] at H;have bKk:decide (0≤(Qc))=true:=fB c80;clear c80
                         by_cases c81:(Qc)<(l1.length:Int)
                         ·as_aux_lemma =>
                          rw [if_pos c81] at H;have aYG:decide ((Qc)<(l1.length:Int))=true:=fB c81;clear c81
                          by_cases c82:fH.length<17592186044416
                          ·as_aux_lemma =>
                           rw [if_pos c82] at H;have aZt:=aA.mk c82;clear c82;obtain ⟨aNY,aC1⟩:∃ y_:List Int,y_=(fH ++ [wrap64 (IntKind.i16.wrap (IntKind.u16.wrap ((IntKind.u16.wrap (rd l1 jD))+(IntKind.u16.wrap (256*(IntKind.u16.wrap (rd l1 (Qc))))))))]):=⟨_,rfl⟩
                           replace H:(aJ.l2 Qb l0 l1 bZ sO (wrap64 (jD+2)) (wrap64 (lN+1)) ((aI l0 bZ).f0) ((aI l0 bZ).f1) ((aI l0 bZ).f2) bZ aNY)=some (r1,r2,r3):=by first|(rw [aC1];with_reducible exact H)|(have qY:=(Option.bind_some _ _).symm.trans H;rw [aC1];with_reducible exact qY)|(have qY:=(Option.bind_some _ _).symm.trans H;with_reducible exact qY)|with_reducible exact H|(rw [aC1];exact H)|exact H
                           have aZu:=aA.mk aC1;clear aC1;have H':=aA.mk H;clear H
                           try go_wp2
                           have bT:=aA.mk (Kd.qG eP.out);have bW:=aA.mk (dY gY.out);have dA:=aA.mk (dY eX.out);have dN:=aA.mk (dY fQ.out);have eY:=aA.mk (fZ HB.out);clear eP;clear gY;clear eX;clear fQ;clear HB;have eP:=bT;have gY:=bW;have eX:=dA;have fQ:=dN;have HB:=eY;clear bT bW dA dN eY;have aTG:0≤(jD:Int):=dU dW;have aTH:jD<(l1.length:Int):=dU dW;obtain ⟨aKV,bHs,Tq⟩:=Kd.jJ HR1.out jD aTG aTH;have aGX:=Tq
                           cases bHs
                           replace Tq:=(HB.out.cell (dM w _ Tq)).trans Tq;replace aTG:=eq_true aTG;replace aTH:=eq_true aTH;have aTI:0≤((Qc):Int):=dU dW;have aTJ:(Qc)<(l1.length:Int):=dU dW;obtain ⟨aZv,bHt,Tt⟩:=Kd.jJ HR1.out (Qc) aTI aTJ;have aGY:=Tt;obtain rfl:aKV=aZv:=(by injection bHt);replace Tt:=(HB.out.cell (dM w _ Tt)).trans Tt;replace aTI:=eq_true aTI;replace aTJ:=eq_true aTJ;refine qZ (n:=16) (S:=fun w'=>w'.cell? (aKV.add (jD).toNat)=some (.int .u8 (rd l1 jD))∧w'.cell? (aKV.add ((Qc)).toNat)=some (.int .u8 (rd l1 (Qc)))) (ds:=[]) #[false,false,false,false,false,false,false,false,false,false,false,false,false,false,false,false] aQ rfl rfl ⟨((HB.out.cell (dM w _ aGX)).trans aGX),((HB.out.cell (dM w _ aGY)).trans aGY)⟩ (fun hHeld=>?_);refine nK aJ.aZd aJ.aTt (fun gG zQ=>?_);generalize wc.drew=w83 at eP gY eX fQ HB Tq Tt hHeld ⊢;refine bQ (i:=0) (N:=some 111) (v:=?_) (a':=?_) #[true,false,false,false,false,false,false,false,false,false,false,false,false,false,false,false] rfl rfl (bP gG.out aQ) (fun _ _ _ h=>h) (bG ?_) ?_ ?_;rotate_left
                           ·intro w';go_simp;with_reducible rfl
                           rotate_left
                           ·simp only [Act.put,aX];rfl
                           refine bQ (i:=1) (N:=some 112) (v:=?_) (a':=?_) #[true,true,false,false,false,false,false,false,false,false,false,false,false,false,false,false] rfl rfl (bP gG.out aQ) (fun _ _ _ h=>h) (bG ?_) ?_ ?_;rotate_left
                           ·intro w';go_simp;with_reducible rfl
                           rotate_left
                           ·simp only [Act.put,aX];rfl
                           refine bQ (i:=2) (N:=some 113) (v:=?_) (a':=?_) #[true,true,true,false,false,false,false,false,false,false,false,false,false,false,false,false] rfl rfl (bP gG.out aQ) (fun _ _ _ h=>h) (bG ?_) ?_ ?_;rotate_left
                           ·intro w';go_simp;with_reducible rfl
                           rotate_left
                           ·simp only [Act.put,aX];rfl
                           refine bQ (i:=5) (N:=some 116) (v:=?_) (a':=?_) #[true,true,true,false,false,true,false,false,false,false,false,false,false,false,false,false] rfl rfl (bP gG.out aQ) (fun _ _ _ h=>h) (bG ?_) ?_ ?_;rotate_left
                           ·intro w';go_simp;with_reducible rfl
                           rotate_left
                           ·simp only [Act.put,aX];rfl
                           refine bQ (i:=6) (N:=some 117) (v:=?_) (a':=?_) #[true,true,true,false,false,true,true,false,false,false,false,false,false,false,false,false] rfl rfl (bP gG.out aQ) (fun _ _ _ h=>h) (bG ?_) ?_ ?_;rotate_left
                           ·intro w';go_simp;with_reducible rfl
                           rotate_left
                           ·simp only [Act.put,aX];rfl
                           refine bQ (i:=7) (N:=some 118) (v:=?_) (a':=?_) #[true,true,true,false,false,true,true,true,false,false,false,false,false,false,false,false] rfl rfl (bP gG.out aQ) (fun _ _ _ h=>h) (bG ?_) ?_ ?_;rotate_left
                           ·intro w';go_simp;with_reducible rfl
                           rotate_left
                           ·simp only [Act.put,aX];rfl
                           refine bQ (i:=8) (N:=some 119) (v:=?_) (a':=?_) #[true,true,true,false,false,true,true,true,true,false,false,false,false,false,false,false] rfl rfl (bP gG.out aQ) (fun _ _ _ h=>h) (bG ?_) ?_ ?_;rotate_left
                           ·intro w';go_simp;with_reducible rfl
                           rotate_left
                           ·simp only [Act.put,aX];rfl
                           refine iQ (i:=3) (N:=some 114) (v:=?_) (a':=?_) #[true,true,true,true,false,true,true,true,true,false,false,false,false,false,false,false] rfl rfl (iH gG.out zQ.out aQ) (fun _ _ _ h=>h) (bG ?_) hHeld ?_ ?_;rotate_left
                           ·rintro w' ⟨s0,s1⟩;go_simp;with_reducible rfl
                           rotate_left
                           ·simp only [Act.put,aX];rfl
                           refine bQ (i:=4) (N:=some 115) (v:=?_) (a':=?_) #[true,true,true,true,true,true,true,true,true,false,false,false,false,false,false,false] rfl rfl (bP gG.out aQ) (fun _ _ _ h=>h) (bG ?_) ?_ ?_;rotate_left
                           ·intro w';go_simp;with_reducible rfl
                           rotate_left
                           ·simp only [Act.put,aX];rfl
                           refine iQ (i:=9) (N:=some 120) (v:=?_) (a':=?_) #[true,true,true,true,true,true,true,true,true,true,false,false,false,false,false,false] rfl rfl (iH gG.out zQ.out aQ) (fun _ _ _ h=>h) (bG ?_) hHeld ?_ ?_;rotate_left
                           ·rintro w' ⟨s0,s1⟩;go_simp;with_reducible rfl
                           rotate_left
                           ·simp only [Act.put,aX];rfl
                           refine bQ (i:=10) (N:=some 121) (v:=?_) (a':=?_) #[true,true,true,true,true,true,true,true,true,true,true,false,false,false,false,false] rfl rfl (bP gG.out aQ) (fun _ _ _ h=>h) (bG ?_) ?_ ?_;rotate_left
                           ·intro w';go_simp;with_reducible rfl
                           rotate_left
                           ·simp only [Act.put,aX];rfl
                           refine bQ (i:=11) (N:=some 122) (v:=?_) (a':=?_) #[true,true,true,true,true,true,true,true,true,true,true,true,false,false,false,false] rfl rfl (bP gG.out aQ) (fun _ _ _ h=>h) (bG ?_) ?_ ?_;rotate_left
                           ·intro w';go_simp;with_reducible rfl
                           rotate_left
                           ·simp only [Act.put,aX];rfl
                           refine bQ (i:=12) (N:=some 123) (v:=?_) (a':=?_) #[true,true,true,true,true,true,true,true,true,true,true,true,true,false,false,false] rfl rfl (bP gG.out aQ) (fun _ _ _ h=>h) (bG ?_) ?_ ?_;rotate_left
                           ·intro w';go_simp;with_reducible rfl
                           rotate_left
                           ·simp only [Act.put,aX];rfl
                           refine bQ (i:=13) (N:=some 124) (v:=?_) (a':=?_) #[true,true,true,true,true,true,true,true,true,true,true,true,true,true,false,false] rfl rfl (bP gG.out aQ) (fun _ _ _ h=>h) (bG ?_) ?_ ?_;rotate_left
                           ·intro w';go_simp;with_reducible rfl
                           rotate_left
                           ·simp only [Act.put,aX];rfl
                           refine bQ (i:=14) (N:=some 125) (v:=?_) (a':=?_) #[true,true,true,true,true,true,true,true,true,true,true,true,true,true,true,false] rfl rfl (bP gG.out aQ) (fun _ _ _ h=>h) (bG ?_) ?_ ?_;rotate_left
                           ·intro w';go_simp;with_reducible rfl
                           rotate_left
                           ·simp only [Act.put,aX];rfl
                           refine bQ (i:=15) (N:=some 14) (v:=?_) (a':=?_) #[true,true,true,true,true,true,true,true,true,true,true,true,true,true,true,true] rfl rfl (bP gG.out aQ) (fun _ _ _ h=>h) (bG ?_) ?_ ?_;rotate_left
                           ·intro w';go_simp;with_reducible rfl
                           rotate_left
                           ·simp only [Act.put,aX];rfl
                           refine sG (sH gG.out aQ) ?_;have bKl:=EH.out;have bKm:=uS.out;have bKn:=xN.out;have bKo:=pK.out;have bEa:w83.cell? ⟨nH,0,none⟩=some (.int .i64 bZ):=(aC fQ.out 0).trans rfl;have bEb:w83.cell? ⟨nH,1,none⟩=some (nI):=(aC fQ.out 1).trans rfl;have bEc:=aG fQ.out 0;have bEd:=aG fQ.out 1
                           try go_wp2_with (first|((with_reducible refine qM (b:=.append) (xs:=#[.tmp 162,.tmp 164]) rfl ?_);(try (refine dZ (by rfl) ?_;dsimp only));at_builtin;refine Kd.EW (Kd.int .i64) (w0:=w) w.heap.size rfl (.tmp 162) (.tmp 164) 22 3 (.int .i64 0) 8 rfl Try.underlying22 info3 rfl (by decide) (by omega) nI fH (wrap64 (IntKind.i16.wrap (IntKind.u16.wrap ((IntKind.u16.wrap (rd l1 jD))+(IntKind.u16.wrap (256*(IntKind.u16.wrap (rd l1 (Qc))))))))) [.int .i64 (wrap64 (IntKind.i16.wrap (IntKind.u16.wrap ((IntKind.u16.wrap (rd l1 jD))+(IntKind.u16.wrap (256*(IntKind.u16.wrap (rd l1 (Qc)))))))))] (fun _=>True) (fun _=>False) rfl rfl ?aP (fun _ hk=>hk.elim) ?aF ?aO ?aB ?aS ?aL ?_;(case aP=>exact rfl);(case aB=>exact (eG HB.out oU.out qP.out vC.out));(case aF=>exact (fun _ _=>trivial));(case aO=>exact (bH eP.out));(case aS=>exact (aN (eG HB.out oU.out qP.out vC.out)));(case aL=>have:=aZt.out;omega);intro bMn w87 ho hb hg hat;rw [← aZu.out] at ho;have bT:=aA.mk (kD (g:=sV) (o:=.cells #[.int .i64 kE,.slice none 0 0] 65 (0,0)) (aH gY.out) hg (Kd.AO eP.out gY.out (by decide)));have bW:=aA.mk (kD (g:=jH) (o:=.cells #[.string ((aI l0 bZ).f0),.int .i64 ((aI l0 bZ).f1),.slice (some Vw) ((aI l0 bZ).f2).length lV] 54 (0,0)) (aH eX.out) hg (Kd.AO eP.out eX.out (by decide)));have dA:=aA.mk (kD (g:=nH) (o:=.cells #[.int .i64 bZ,nI] 65 (0,0)) (aH fQ.out) hg (Kd.AO eP.out fQ.out (by decide)));have dN:=aA.mk (hb);have eY:=aA.mk (ho);clear gY eX fQ HB eP;have gY:=bT;have eX:=bW;have fQ:=dA;have HB:=dN;have aQf:=eY;clear bT bW dA dN eY;clear ho hb hg hat;obtain ⟨aZw,aZx,bHu⟩:=Kd.iK aQf.out;subst bHu;have aNF:w87.cell? ⟨nH,0,none⟩=some (.int .i64 bZ):=(aC fQ.out 0).trans rfl;have aNG:w87.cell? ⟨nH,1,none⟩=some (nI):=(aC fQ.out 1).trans rfl;have aNH:=aG fQ.out 0;have aNI:=aG fQ.out 1))
                           go_roundg Qb
                           case measure=>have:=wU.out;have:=Vu.out;have:=MZ.out;have:=HK4.out;have:=Tn.out;have:=aCZ.out;omega
                           case rel=>exact ⟨(sO),(wrap64 (jD+2)),(wrap64 (lN+1)),(aNY),(.slice aZw aNY.length aZx),gV,gV,gV,H',⟨by have:=wU.out;have:=Vu.out;have:=MZ.out;have:=HK4.out;have:=Tn.out;have:=aCZ.out;omega⟩,⟨by refine bH ?_;exact Kd.dX (Kd.dO (p:=⟨nH,1,none⟩) (Kd.dV aQf.out fQ.out (by decide)) (fun _ hk=>hk.2) (.slice aZw aNY.length aZx)) (fun _ hk=>trivial)⟩,⟨by refine aH ?_;refine aU ?_ uS.out _;refine aH ?_;exact gY.out⟩,⟨by refine aH ?_;refine aU ?_ pK.out _;refine aH ?_;exact eX.out⟩,⟨by refine aH ?_;refine aY (cs:=#[.int .i64 bZ,nI]) ?_ 1 _ rfl;refine aH ?_;exact fQ.out⟩,⟨eG HB.out oU.out qP.out vC.out⟩⟩
                          ·rw [if_neg c82] at H;exact absurd H (by simp)
                         ·rw [if_neg c81] at H;exact absurd H (by simp)
                        ·rw [if_neg c80] at H;exact absurd H (by simp)
                       ·rw [if_neg c78] at H;exact absurd H (by simp)
                      ·rw [if_neg c77] at H;exact absurd H (by simp)
                     ·as_aux_lemma =>
                      rw [if_neg c76] at H;have aZr:((rd ((aI l0 bZ).f2) lN)==6)=false:=beq_eq_false_iff_ne.mpr c76;have aZs:((rd ((aI l0 bZ).f2) lN) != 6)=true:=bne_iff_ne.mpr c76
                      by_cases c90:(rd ((aI l0 bZ).f2) lN)=4
                      ·as_aux_lemma =>
                       rw [if_pos c90] at H;have aZy:((rd ((aI l0 bZ).f2) lN)==4)=true:=beq_iff_eq.mpr c90;have aZz:((rd ((aI l0 bZ).f2) lN) != 4)=false:=bne_eq_false_iff_eq.mpr c90;clear c90
                       by_cases c91:0≤jD
                       ·as_aux_lemma =>
                        rw [if_pos c91] at H;have bKp:decide (0≤jD)=true:=fB c91;clear c91
                        by_cases c92:jD<(l1.length:Int)
                        ·as_aux_lemma =>
                         rw [if_pos c92] at H;have bKq:decide (jD<(l1.length:Int))=true:=fB c92;clear c92;obtain ⟨NJ,aKW⟩:∃ j_:Int,(wrap64 (jD+1))=j_:=⟨_,rfl⟩
                         replace H:(if 0≤(NJ) then (if (NJ)<(l1.length:Int) then (if 0≤(wrap64 (jD+2)) then (if (wrap64 (jD+2))<(l1.length:Int) then (if 0≤(wrap64 (jD+3)) then (if (wrap64 (jD+3))<(l1.length:Int) then (if fH.length<17592186044416 then (aJ.l2 Qb l0 l1 bZ sO (wrap64 (jD+4)) (wrap64 (lN+1)) ((aI l0 bZ).f0) ((aI l0 bZ).f1) ((aI l0 bZ).f2) bZ (fH ++ [wrap64 ((wrap64 ((wrap64 ((wrap64 (rd l1 jD))+(wrap64 (256*(wrap64 (rd l1 (NJ)))))))+(wrap64 (65536*(wrap64 (rd l1 (wrap64 (jD+2))))))))+(wrap64 (16777216*(wrap64 (rd l1 (wrap64 (jD+3)))))))])) else (none)) else (none)) else (none)) else (none)) else (none)) else (none)) else (none))=some (r1,r2,r3):=by first|(rw [aKW] at H;exact H)|(simp only [aKW] at H ⊢;exact H)
                         have bHv:(IntKind.i64.wrap (jD+1))=NJ:=(nX _).trans aKW
                         by_cases c94:0≤(NJ)
                         ·as_aux_lemma =>
                          rw [if_pos c94] at H;have bKr:decide (0≤(NJ))=true:=fB c94;clear c94
                          by_cases c95:(NJ)<(l1.length:Int)
                          ·as_aux_lemma =>
                           rw [if_pos c95] at H;have bKs:decide ((NJ)<(l1.length:Int))=true:=fB c95;clear c95;obtain ⟨Oy,aKX⟩:∃ j_:Int,(wrap64 (jD+2))=j_:=⟨_,rfl⟩
                           replace H:(if 0≤(Oy) then (if (Oy)<(l1.length:Int) then (if 0≤(wrap64 (jD+3)) then (if (wrap64 (jD+3))<(l1.length:Int) then (if fH.length<17592186044416 then (aJ.l2 Qb l0 l1 bZ sO (wrap64 (jD+4)) (wrap64 (lN+1)) ((aI l0 bZ).f0) ((aI l0 bZ).f1) ((aI l0 bZ).f2) bZ (fH ++ [wrap64 ((wrap64 ((wrap64 ((wrap64 (rd l1 jD))+(wrap64 (256*(wrap64 (rd l1 (NJ)))))))+(wrap64 (65536*(wrap64 (rd l1 (Oy)))))))+(wrap64 (16777216*(wrap64 (rd l1 (wrap64 (jD+3)))))))])) else (none)) else (none)) else (none)) else (none)) else (none))=some (r1,r2,r3):=by first|(rw [aKX] at H;exact H)|(simp only [aKX] at H ⊢;exact H)
                           have bHw:(IntKind.i64.wrap (jD+2))=Oy:=(nX _).trans aKX
                           by_cases c97:0≤(Oy)
                           ·as_aux_lemma =>
                            rw [if_pos c97] at H;have bKt:decide (0≤(Oy))=true:=fB c97;clear c97
                            by_cases c98:(Oy)<(l1.length:Int)
                            ·as_aux_lemma =>
                             rw [if_pos c98] at H;have bKu:decide ((Oy)<(l1.length:Int))=true:=fB c98;clear c98;obtain ⟨Qd,aKY⟩:∃ j_:Int,(wrap64 (jD+3))=j_:=⟨_,rfl⟩
                             replace H:(if 0≤(Qd) then (if (Qd)<(l1.length:Int) then (if fH.length<17592186044416 then (aJ.l2 Qb l0 l1 bZ sO (wrap64 (jD+4)) (wrap64 (lN+1)) ((aI l0 bZ).f0) ((aI l0 bZ).f1) ((aI l0 bZ).f2) bZ (fH ++ [wrap64 ((wrap64 ((wrap64 ((wrap64 (rd l1 jD))+(wrap64 (256*(wrap64 (rd l1 (NJ)))))))+(wrap64 (65536*(wrap64 (rd l1 (Oy)))))))+(wrap64 (16777216*(wrap64 (rd l1 (Qd))))))])) else (none)) else (none)) else (none))=some (r1,r2,r3):=by first|(rw [aKY] at H;exact H)|(simp only [aKY] at H ⊢;exact H)
                             have bHx:(IntKind.i64.wrap (jD+3))=Qd:=(nX _).trans aKY
                             by_cases aNZ:0≤(Qd)
                             ·as_aux_lemma =>
                              rw [if_pos aNZ] at H;have bHy:decide (0≤(Qd))=true:=fB aNZ;clear aNZ
                              by_cases aN0:(Qd)<(l1.length:Int)
                              ·as_aux_lemma =>
                               rw [if_pos aN0] at H;have bHz:decide ((Qd)<(l1.length:Int))=true:=fB aN0;clear aN0
                               by_cases aN1:fH.length<17592186044416
                               ·as_aux_lemma =>
                                rw [if_pos aN1] at H;have aTK:=aA.mk aN1;clear aN1;obtain ⟨aN2,aC2⟩:∃ y_:List Int,y_=(fH ++ [wrap64 ((wrap64 ((wrap64 ((wrap64 (rd l1 jD))+(wrap64 (256*(wrap64 (rd l1 (NJ)))))))+(wrap64 (65536*(wrap64 (rd l1 (Oy)))))))+(wrap64 (16777216*(wrap64 (rd l1 (Qd))))))]):=⟨_,rfl⟩
                                replace H:(aJ.l2 Qb l0 l1 bZ sO (wrap64 (jD+4)) (wrap64 (lN+1)) ((aI l0 bZ).f0) ((aI l0 bZ).f1) ((aI l0 bZ).f2) bZ aN2)=some (r1,r2,r3):=by first|(rw [aC2];with_reducible exact H)|(have qY:=(Option.bind_some _ _).symm.trans H;rw [aC2];with_reducible exact qY)|(have qY:=(Option.bind_some _ _).symm.trans H;with_reducible exact qY)|with_reducible exact H|(rw [aC2];exact H)|exact H
                                have aZA:=aA.mk aC2;clear aC2;have H':=aA.mk H;clear H
                                try go_wp2
                                have bT:=aA.mk (Kd.qG eP.out);have bW:=aA.mk (dY gY.out);have dA:=aA.mk (dY eX.out);have dN:=aA.mk (dY fQ.out);have eY:=aA.mk (fZ HB.out);clear eP;clear gY;clear eX;clear fQ;clear HB;have eP:=bT;have gY:=bW;have eX:=dA;have fQ:=dN;have HB:=eY;clear bT bW dA dN eY;have aTL:0≤(jD:Int):=dU dW;have aTM:jD<(l1.length:Int):=dU dW;obtain ⟨YH,bHA,Tu⟩:=Kd.jJ HR1.out jD aTL aTM;have aGZ:=Tu
                                cases bHA
                                replace Tu:=(HB.out.cell (dM w _ Tu)).trans Tu;replace aTL:=eq_true aTL;replace aTM:=eq_true aTM;have aTN:0≤((NJ):Int):=dU dW;have aTO:(NJ)<(l1.length:Int):=dU dW;obtain ⟨aZB,bHB,Tv⟩:=Kd.jJ HR1.out (NJ) aTN aTO;have aG0:=Tv;obtain rfl:YH=aZB:=(by injection bHB);replace Tv:=(HB.out.cell (dM w _ Tv)).trans Tv;replace aTN:=eq_true aTN;replace aTO:=eq_true aTO;have aTP:0≤((Oy):Int):=dU dW;have aTQ:(Oy)<(l1.length:Int):=dU dW;obtain ⟨aZC,bHC,Tz⟩:=Kd.jJ HR1.out (Oy) aTP aTQ;have aG1:=Tz;obtain rfl:YH=aZC:=(by injection bHC);replace Tz:=(HB.out.cell (dM w _ Tz)).trans Tz;replace aTP:=eq_true aTP;replace aTQ:=eq_true aTQ;have aTR:0≤((Qd):Int):=dU dW;have aTS:(Qd)<(l1.length:Int):=dU dW;obtain ⟨aZD,bHD,TA⟩:=Kd.jJ HR1.out (Qd) aTR aTS;have aG2:=TA;obtain rfl:YH=aZD:=(by injection bHD);replace TA:=(HB.out.cell (dM w _ TA)).trans TA;replace aTR:=eq_true aTR;replace aTS:=eq_true aTS
                                refine qZ (n:=30) (S:=fun w'=>w'.cell? (YH.add (jD).toNat)=some (.int .u8 (rd l1 jD))∧w'.cell? (YH.add ((NJ)).toNat)=some (.int .u8 (rd l1 (NJ)))∧w'.cell? (YH.add ((Oy)).toNat)=some (.int .u8 (rd l1 (Oy)))∧w'.cell? (YH.add ((Qd)).toNat)=some (.int .u8 (rd l1 (Qd)))) (ds:=[]) #[false,false,false,false,false,false,false,false,false,false,false,false,false,false,false,false,false,false,false,false,false,false,false,false,false,false,false,false,false,false] aQ rfl rfl ⟨((HB.out.cell (dM w _ aGZ)).trans aGZ),((HB.out.cell (dM w _ aG0)).trans aG0),((HB.out.cell (dM w _ aG1)).trans aG1),((HB.out.cell (dM w _ aG2)).trans aG2)⟩ (fun hHeld=>?_);refine nK aJ.aZe aJ.aTu (fun gG zQ=>?_);generalize wc.drew=aEd at eP gY eX fQ HB Tu Tv Tz TA hHeld ⊢;refine bQ (i:=0) (N:=some 130) (v:=?_) (a':=?_) #[true,false,false,false,false,false,false,false,false,false,false,false,false,false,false,false,false,false,false,false,false,false,false,false,false,false,false,false,false,false] rfl rfl (bP gG.out aQ) (fun _ _ _ h=>h) (bG ?_) ?_ ?_;rotate_left
                                ·intro w';go_simp;with_reducible rfl
                                rotate_left
                                ·simp only [Act.put,aX];rfl
                                refine bQ (i:=1) (N:=some 131) (v:=?_) (a':=?_) #[true,true,false,false,false,false,false,false,false,false,false,false,false,false,false,false,false,false,false,false,false,false,false,false,false,false,false,false,false,false] rfl rfl (bP gG.out aQ) (fun _ _ _ h=>h) (bG ?_) ?_ ?_;rotate_left
                                ·intro w';go_simp;with_reducible rfl
                                rotate_left
                                ·simp only [Act.put,aX];rfl
                                refine bQ (i:=2) (N:=some 132) (v:=?_) (a':=?_) #[true,true,true,false,false,false,false,false,false,false,false,false,false,false,false,false,false,false,false,false,false,false,false,false,false,false,false,false,false,false] rfl rfl (bP gG.out aQ) (fun _ _ _ h=>h) (bG ?_) ?_ ?_;rotate_left
                                ·intro w';go_simp;with_reducible rfl
                                rotate_left
                                ·simp only [Act.put,aX];rfl
                                refine bQ (i:=5) (N:=some 135) (v:=?_) (a':=?_) #[true,true,true,false,false,true,false,false,false,false,false,false,false,false,false,false,false,false,false,false,false,false,false,false,false,false,false,false,false,false] rfl rfl (bP gG.out aQ) (fun _ _ _ h=>h) (bG ?_) ?_ ?_;rotate_left
                                ·intro w';go_simp;with_reducible rfl
                                rotate_left
                                ·simp only [Act.put,aX];rfl
                                refine bQ (i:=6) (N:=some 136) (v:=?_) (a':=?_) #[true,true,true,false,false,true,true,false,false,false,false,false,false,false,false,false,false,false,false,false,false,false,false,false,false,false,false,false,false,false] rfl rfl (bP gG.out aQ) (fun _ _ _ h=>h) (bG ?_) ?_ ?_;rotate_left
                                ·intro w';go_simp;with_reducible rfl
                                rotate_left
                                ·simp only [Act.put,aX];rfl
                                refine bQ (i:=7) (N:=some 137) (v:=?_) (a':=?_) #[true,true,true,false,false,true,true,true,false,false,false,false,false,false,false,false,false,false,false,false,false,false,false,false,false,false,false,false,false,false] rfl rfl (bP gG.out aQ) (fun _ _ _ h=>h) (bG ?_) ?_ ?_;rotate_left
                                ·intro w';go_simp;with_reducible rfl
                                rotate_left
                                ·simp only [Act.put,aX];rfl
                                refine bQ (i:=8) (N:=some 138) (v:=?_) (a':=?_) #[true,true,true,false,false,true,true,true,true,false,false,false,false,false,false,false,false,false,false,false,false,false,false,false,false,false,false,false,false,false] rfl rfl (bP gG.out aQ) (fun _ _ _ h=>h) (bG ?_) ?_ ?_;rotate_left
                                ·intro w';go_simp;with_reducible rfl
                                rotate_left
                                ·simp only [Act.put,aX];rfl
                                refine bQ (i:=13) (N:=some 143) (v:=?_) (a':=?_) #[true,true,true,false,false,true,true,true,true,false,false,false,false,true,false,false,false,false,false,false,false,false,false,false,false,false,false,false,false,false] rfl rfl (bP gG.out aQ) (fun _ _ _ h=>h) (bG ?_) ?_ ?_;rotate_left
                                ·intro w';go_simp;with_reducible rfl
                                rotate_left
                                ·simp only [Act.put,aX];rfl
                                refine bQ (i:=14) (N:=some 144) (v:=?_) (a':=?_) #[true,true,true,false,false,true,true,true,true,false,false,false,false,true,true,false,false,false,false,false,false,false,false,false,false,false,false,false,false,false] rfl rfl (bP gG.out aQ) (fun _ _ _ h=>h) (bG ?_) ?_ ?_;rotate_left
                                ·intro w';go_simp;with_reducible rfl
                                rotate_left
                                ·simp only [Act.put,aX];rfl
                                refine bQ (i:=15) (N:=some 145) (v:=?_) (a':=?_) #[true,true,true,false,false,true,true,true,true,false,false,false,false,true,true,true,false,false,false,false,false,false,false,false,false,false,false,false,false,false] rfl rfl (bP gG.out aQ) (fun _ _ _ h=>h) (bG ?_) ?_ ?_;rotate_left
                                ·intro w';go_simp;with_reducible rfl
                                rotate_left
                                ·simp only [Act.put,aX];rfl
                                refine bQ (i:=16) (N:=some 146) (v:=?_) (a':=?_) #[true,true,true,false,false,true,true,true,true,false,false,false,false,true,true,true,true,false,false,false,false,false,false,false,false,false,false,false,false,false] rfl rfl (bP gG.out aQ) (fun _ _ _ h=>h) (bG ?_) ?_ ?_;rotate_left
                                ·intro w';go_simp;with_reducible rfl
                                rotate_left
                                ·simp only [Act.put,aX];rfl
                                refine bQ (i:=21) (N:=some 151) (v:=?_) (a':=?_) #[true,true,true,false,false,true,true,true,true,false,false,false,false,true,true,true,true,false,false,false,false,true,false,false,false,false,false,false,false,false] rfl rfl (bP gG.out aQ) (fun _ _ _ h=>h) (bG ?_) ?_ ?_;rotate_left
                                ·intro w';go_simp;with_reducible rfl
                                rotate_left
                                ·simp only [Act.put,aX];rfl
                                refine bQ (i:=22) (N:=some 152) (v:=?_) (a':=?_) #[true,true,true,false,false,true,true,true,true,false,false,false,false,true,true,true,true,false,false,false,false,true,true,false,false,false,false,false,false,false] rfl rfl (bP gG.out aQ) (fun _ _ _ h=>h) (bG ?_) ?_ ?_;rotate_left
                                ·intro w';go_simp;with_reducible rfl
                                rotate_left
                                ·simp only [Act.put,aX];rfl
                                refine bQ (i:=23) (N:=some 153) (v:=?_) (a':=?_) #[true,true,true,false,false,true,true,true,true,false,false,false,false,true,true,true,true,false,false,false,false,true,true,true,false,false,false,false,false,false] rfl rfl (bP gG.out aQ) (fun _ _ _ h=>h) (bG ?_) ?_ ?_;rotate_left
                                ·intro w';go_simp;with_reducible rfl
                                rotate_left
                                ·simp only [Act.put,aX];rfl
                                refine bQ (i:=24) (N:=some 154) (v:=?_) (a':=?_) #[true,true,true,false,false,true,true,true,true,false,false,false,false,true,true,true,true,false,false,false,false,true,true,true,true,false,false,false,false,false] rfl rfl (bP gG.out aQ) (fun _ _ _ h=>h) (bG ?_) ?_ ?_;rotate_left
                                ·intro w';go_simp;with_reducible rfl
                                rotate_left
                                ·simp only [Act.put,aX];rfl
                                refine iQ (i:=3) (N:=some 133) (v:=?_) (a':=?_) #[true,true,true,true,false,true,true,true,true,false,false,false,false,true,true,true,true,false,false,false,false,true,true,true,true,false,false,false,false,false] rfl rfl (iH gG.out zQ.out aQ) (fun _ _ _ h=>h) (bG ?_) hHeld ?_ ?_;rotate_left
                                ·rintro w' ⟨s0,s1,s2,s3⟩;go_simp;with_reducible rfl
                                rotate_left
                                ·simp only [Act.put,aX];rfl
                                refine bQ (i:=4) (N:=some 134) (v:=?_) (a':=?_) #[true,true,true,true,true,true,true,true,true,false,false,false,false,true,true,true,true,false,false,false,false,true,true,true,true,false,false,false,false,false] rfl rfl (bP gG.out aQ) (fun _ _ _ h=>h) (bG ?_) ?_ ?_;rotate_left
                                ·intro w';go_simp;with_reducible rfl
                                rotate_left
                                ·simp only [Act.put,aX];rfl
                                refine iQ (i:=9) (N:=some 139) (v:=?_) (a':=?_) #[true,true,true,true,true,true,true,true,true,true,false,false,false,true,true,true,true,false,false,false,false,true,true,true,true,false,false,false,false,false] rfl rfl (iH gG.out zQ.out aQ) (fun _ _ _ h=>h) (bG ?_) hHeld ?_ ?_;rotate_left
                                ·rintro w' ⟨s0,s1,s2,s3⟩;go_simp;with_reducible rfl
                                rotate_left
                                ·simp only [Act.put,aX];rfl
                                refine bQ (i:=10) (N:=some 140) (v:=?_) (a':=?_) #[true,true,true,true,true,true,true,true,true,true,true,false,false,true,true,true,true,false,false,false,false,true,true,true,true,false,false,false,false,false] rfl rfl (bP gG.out aQ) (fun _ _ _ h=>h) (bG ?_) ?_ ?_;rotate_left
                                ·intro w';go_simp;with_reducible rfl
                                rotate_left
                                ·simp only [Act.put,aX];rfl
                                refine bQ (i:=11) (N:=some 141) (v:=?_) (a':=?_) #[true,true,true,true,true,true,true,true,true,true,true,true,false,true,true,true,true,false,false,false,false,true,true,true,true,false,false,false,false,false] rfl rfl (bP gG.out aQ) (fun _ _ _ h=>h) (bG ?_) ?_ ?_;rotate_left
                                ·intro w';go_simp;with_reducible rfl
                                rotate_left
                                ·simp only [Act.put,aX];rfl
                                refine bQ (i:=12) (N:=some 142) (v:=?_) (a':=?_) #[true,true,true,true,true,true,true,true,true,true,true,true,true,true,true,true,true,false,false,false,false,true,true,true,true,false,false,false,false,false] rfl rfl (bP gG.out aQ) (fun _ _ _ h=>h) (bG ?_) ?_ ?_;rotate_left
                                ·intro w';go_simp;with_reducible rfl
                                rotate_left
                                ·simp only [Act.put,aX];rfl
                                refine iQ (i:=17) (N:=some 147) (v:=?_) (a':=?_) #[true,true,true,true,true,true,true,true,true,true,true,true,true,true,true,true,true,true,false,false,false,true,true,true,true,false,false,false,false,false] rfl rfl (iH gG.out zQ.out aQ) (fun _ _ _ h=>h) (bG ?_) hHeld ?_ ?_;rotate_left
                                ·rintro w' ⟨s0,s1,s2,s3⟩;go_simp;with_reducible rfl
                                rotate_left
                                ·simp only [Act.put,aX];rfl
                                refine bQ (i:=18) (N:=some 148) (v:=?_) (a':=?_) #[true,true,true,true,true,true,true,true,true,true,true,true,true,true,true,true,true,true,true,false,false,true,true,true,true,false,false,false,false,false] rfl rfl (bP gG.out aQ) (fun _ _ _ h=>h) (bG ?_) ?_ ?_;rotate_left
                                ·intro w';go_simp;with_reducible rfl
                                rotate_left
                                ·simp only [Act.put,aX];rfl
                                refine bQ (i:=19) (N:=some 149) (v:=?_) (a':=?_) #[true,true,true,true,true,true,true,true,true,true,true,true,true,true,true,true,true,true,true,true,false,true,true,true,true,false,false,false,false,false] rfl rfl (bP gG.out aQ) (fun _ _ _ h=>h) (bG ?_) ?_ ?_;rotate_left
                                ·intro w';go_simp;with_reducible rfl
                                rotate_left
                                ·simp only [Act.put,aX];rfl
                                refine bQ (i:=20) (N:=some 150) (v:=?_) (a':=?_) #[true,true,true,true,true,true,true,true,true,true,true,true,true,true,true,true,true,true,true,true,true,true,true,true,true,false,false,false,false,false] rfl rfl (bP gG.out aQ) (fun _ _ _ h=>h) (bG ?_) ?_ ?_;rotate_left
                                ·intro w';go_simp;with_reducible rfl
                                rotate_left
                                ·simp only [Act.put,aX];rfl
                                refine iQ (i:=25) (N:=some 155) (v:=?_) (a':=?_) #[true,true,true,true,true,true,true,true,true,true,true,true,true,true,true,true,true,true,true,true,true,true,true,true,true,true,false,false,false,false] rfl rfl (iH gG.out zQ.out aQ) (fun _ _ _ h=>h) (bG ?_) hHeld ?_ ?_;rotate_left
                                ·rintro w' ⟨s0,s1,s2,s3⟩;go_simp;with_reducible rfl
                                rotate_left
                                ·simp only [Act.put,aX];rfl
                                refine bQ (i:=26) (N:=some 156) (v:=?_) (a':=?_) #[true,true,true,true,true,true,true,true,true,true,true,true,true,true,true,true,true,true,true,true,true,true,true,true,true,true,true,false,false,false] rfl rfl (bP gG.out aQ) (fun _ _ _ h=>h) (bG ?_) ?_ ?_;rotate_left
                                ·intro w';go_simp;with_reducible rfl
                                rotate_left
                                ·simp only [Act.put,aX];rfl
                                refine bQ (i:=27) (N:=some 157) (v:=?_) (a':=?_) #[true,true,true,true,true,true,true,true,true,true,true,true,true,true,true,true,true,true,true,true,true,true,true,true,true,true,true,true,false,false] rfl rfl (bP gG.out aQ) (fun _ _ _ h=>h) (bG ?_) ?_ ?_;rotate_left
                                ·intro w';go_simp;with_reducible rfl
                                rotate_left
                                ·simp only [Act.put,aX];rfl
                                refine bQ (i:=28) (N:=some 158) (v:=?_) (a':=?_) #[true,true,true,true,true,true,true,true,true,true,true,true,true,true,true,true,true,true,true,true,true,true,true,true,true,true,true,true,true,false] rfl rfl (bP gG.out aQ) (fun _ _ _ h=>h) (bG ?_) ?_ ?_;rotate_left
                                ·intro w';go_simp;with_reducible rfl
                                rotate_left
                                ·simp only [Act.put,aX];rfl
                                refine bQ (i:=29) (N:=some 14) (v:=?_) (a':=?_) #[true,true,true,true,true,true,true,true,true,true,true,true,true,true,true,true,true,true,true,true,true,true,true,true,true,true,true,true,true,true] rfl rfl (bP gG.out aQ) (fun _ _ _ h=>h) (bG ?_) ?_ ?_;rotate_left
                                ·intro w';go_simp;with_reducible rfl
                                rotate_left
                                ·simp only [Act.put,aX];rfl
                                refine sG (sH gG.out aQ) ?_;have aS6:=EH.out;have aS7:=uS.out;have aS8:=xN.out;have aS9:=pK.out;have aZE:aEd.cell? ⟨nH,0,none⟩=some (.int .i64 bZ):=(aC fQ.out 0).trans rfl;have aZF:aEd.cell? ⟨nH,1,none⟩=some (nI):=(aC fQ.out 1).trans rfl;have aZG:=aG fQ.out 0;have aZH:=aG fQ.out 1
                                try go_wp2_with (first|((with_reducible refine qM (b:=.append) (xs:=#[.tmp 162,.tmp 164]) rfl ?_);(try (refine dZ (by rfl) ?_;dsimp only));at_builtin;refine Kd.EW (Kd.int .i64) (w0:=w) w.heap.size rfl (.tmp 162) (.tmp 164) 22 3 (.int .i64 0) 8 rfl Try.underlying22 info3 rfl (by decide) (by omega) nI fH (wrap64 ((wrap64 ((wrap64 ((wrap64 (rd l1 jD))+(wrap64 (256*(wrap64 (rd l1 (NJ)))))))+(wrap64 (65536*(wrap64 (rd l1 (Oy)))))))+(wrap64 (16777216*(wrap64 (rd l1 (Qd))))))) [.int .i64 (wrap64 ((wrap64 ((wrap64 ((wrap64 (rd l1 jD))+(wrap64 (256*(wrap64 (rd l1 (NJ)))))))+(wrap64 (65536*(wrap64 (rd l1 (Oy)))))))+(wrap64 (16777216*(wrap64 (rd l1 (Qd)))))))] (fun _=>True) (fun _=>False) rfl rfl ?aP (fun _ hk=>hk.elim) ?aF ?aO ?aB ?aS ?aL ?_;(case aP=>exact rfl);(case aB=>exact (eG HB.out oU.out qP.out vC.out));(case aF=>exact (fun _ _=>trivial));(case aO=>exact (bH eP.out));(case aS=>exact (aN (eG HB.out oU.out qP.out vC.out)));(case aL=>have:=aTK.out;omega);intro bMo aSM ho hb hg hat;rw [← aZA.out] at ho;have bT:=aA.mk (kD (g:=sV) (o:=.cells #[.int .i64 kE,.slice none 0 0] 65 (0,0)) (aH gY.out) hg (Kd.AO eP.out gY.out (by decide)));have bW:=aA.mk (kD (g:=jH) (o:=.cells #[.string ((aI l0 bZ).f0),.int .i64 ((aI l0 bZ).f1),.slice (some Vw) ((aI l0 bZ).f2).length lV] 54 (0,0)) (aH eX.out) hg (Kd.AO eP.out eX.out (by decide)));have dA:=aA.mk (kD (g:=nH) (o:=.cells #[.int .i64 bZ,nI] 65 (0,0)) (aH fQ.out) hg (Kd.AO eP.out fQ.out (by decide)));have dN:=aA.mk (hb);have eY:=aA.mk (ho);clear gY eX fQ HB eP;have gY:=bT;have eX:=bW;have fQ:=dA;have HB:=dN;have aQg:=eY;clear bT bW dA dN eY;clear ho hb hg hat;obtain ⟨aJ3,aJ4,aGx⟩:=Kd.iK aQg.out;subst aGx;have aKm:aSM.cell? ⟨nH,0,none⟩=some (.int .i64 bZ):=(aC fQ.out 0).trans rfl;have aKn:aSM.cell? ⟨nH,1,none⟩=some (nI):=(aC fQ.out 1).trans rfl;have aKo:=aG fQ.out 0;have aKp:=aG fQ.out 1))
                                go_roundg Qb
                                case measure=>have:=wU.out;have:=Vu.out;have:=MZ.out;have:=HK4.out;have:=Tn.out;have:=aCZ.out;omega
                                case rel=>exact ⟨(sO),(wrap64 (jD+4)),(wrap64 (lN+1)),(aN2),(.slice aJ3 aN2.length aJ4),gV,gV,gV,H',⟨by have:=wU.out;have:=Vu.out;have:=MZ.out;have:=HK4.out;have:=Tn.out;have:=aCZ.out;omega⟩,⟨by refine bH ?_;exact Kd.dX (Kd.dO (p:=⟨nH,1,none⟩) (Kd.dV aQg.out fQ.out (by decide)) (fun _ hk=>hk.2) (.slice aJ3 aN2.length aJ4)) (fun _ hk=>trivial)⟩,⟨by refine aH ?_;refine aU ?_ uS.out _;refine aH ?_;exact gY.out⟩,⟨by refine aH ?_;refine aU ?_ pK.out _;refine aH ?_;exact eX.out⟩,⟨by refine aH ?_;refine aY (cs:=#[.int .i64 bZ,nI]) ?_ 1 _ rfl;refine aH ?_;exact fQ.out⟩,⟨eG HB.out oU.out qP.out vC.out⟩⟩
                               ·rw [if_neg aN1] at H;exact absurd H (by simp)
                              ·rw [if_neg aN0] at H;exact absurd H (by simp)
                             ·rw [if_neg aNZ] at H;exact absurd H (by simp)
                            ·rw [if_neg c98] at H;exact absurd H (by simp)
                           ·rw [if_neg c97] at H;exact absurd H (by simp)
                          ·rw [if_neg c95] at H;exact absurd H (by simp)
                         ·rw [if_neg c94] at H;exact absurd H (by simp)
                        ·rw [if_neg c92] at H;exact absurd H (by simp)
                       ·rw [if_neg c91] at H;exact absurd H (by simp)
                      ·rw [if_neg c90] at H;have aZy:((rd ((aI l0 bZ).f2) lN)==4)=false:=beq_eq_false_iff_ne.mpr c90;have aZz:((rd ((aI l0 bZ).f2) lN) != 4)=true:=bne_iff_ne.mpr c90
                       by_cases PY:fH.length<17592186044416
                       ·rw [if_pos PY] at H;have aTT:=aA.mk PY;clear PY;obtain ⟨aN3,aC3⟩:∃ y_:List Int,y_=(fH ++ [0]):=⟨_,rfl⟩
                        replace H:(aJ.l2 Qb l0 l1 bZ sO jD (wrap64 (lN+1)) ((aI l0 bZ).f0) ((aI l0 bZ).f1) ((aI l0 bZ).f2) bZ aN3)=some (r1,r2,r3):=by first|(rw [aC3];with_reducible exact H)|(have qY:=(Option.bind_some _ _).symm.trans H;rw [aC3];with_reducible exact qY)|(have qY:=(Option.bind_some _ _).symm.trans H;with_reducible exact qY)|with_reducible exact H|(rw [aC3];exact H)|exact H
                        have aZI:=aA.mk aC3;clear aC3;have H':=aA.mk H;clear H;have bHE:=EH.out;have bHF:=uS.out;have bHG:=xN.out;have bHH:=pK.out;have aZJ:wc.cell? ⟨nH,0,none⟩=some (.int .i64 bZ):=(aC fQ.out 0).trans rfl;have aZK:wc.cell? ⟨nH,1,none⟩=some (nI):=(aC fQ.out 1).trans rfl;have aZL:=aG fQ.out 0;have aZM:=aG fQ.out 1
                        go_wp2_with (first|((with_reducible refine qM (b:=.append) (xs:=#[.tmp 162,.tmp 164]) rfl ?_);(try (refine dZ (by rfl) ?_;dsimp only));at_builtin;refine Kd.EW (Kd.int .i64) (w0:=w) w.heap.size rfl (.tmp 162) (.tmp 164) 22 3 (.int .i64 0) 8 rfl Try.underlying22 info3 rfl (by decide) (by omega) nI fH 0 [.int .i64 0] (fun _=>True) (fun _=>False) rfl rfl ?aP (fun _ hk=>hk.elim) ?aF ?aO ?aB ?aS ?aL ?_;(case aP=>exact rfl);(case aB=>exact (eG HB.out oU.out qP.out vC.out));(case aF=>exact (fun _ _=>trivial));(case aO=>exact (bH eP.out));(case aS=>exact (aN (eG HB.out oU.out qP.out vC.out)));(case aL=>have:=aTT.out;omega);intro bMp aZN ho hb hg hat;rw [← aZI.out] at ho;have bT:=aA.mk (kD (g:=sV) (o:=.cells #[.int .i64 kE,.slice none 0 0] 65 (0,0)) (aH gY.out) hg (Kd.AO eP.out gY.out (by decide)));have bW:=aA.mk (kD (g:=jH) (o:=.cells #[.string ((aI l0 bZ).f0),.int .i64 ((aI l0 bZ).f1),.slice (some Vw) ((aI l0 bZ).f2).length lV] 54 (0,0)) (aH eX.out) hg (Kd.AO eP.out eX.out (by decide)));have dA:=aA.mk (kD (g:=nH) (o:=.cells #[.int .i64 bZ,nI] 65 (0,0)) (aH fQ.out) hg (Kd.AO eP.out fQ.out (by decide)));have dN:=aA.mk (hb);have eY:=aA.mk (ho);clear gY eX fQ HB eP;have gY:=bT;have eX:=bW;have fQ:=dA;have HB:=dN;have aQh:=eY;clear bT bW dA dN eY;clear ho hb hg hat;obtain ⟨aQi,aQj,aZO⟩:=Kd.iK aQh.out;subst aZO;have aZP:aZN.cell? ⟨nH,0,none⟩=some (.int .i64 bZ):=(aC fQ.out 0).trans rfl;have aZQ:aZN.cell? ⟨nH,1,none⟩=some (nI):=(aC fQ.out 1).trans rfl;have aZR:=aG fQ.out 0;have aZS:=aG fQ.out 1))
                        go_roundg Qb
                        case measure=>have:=wU.out;have:=Vu.out;have:=MZ.out;have:=HK4.out;have:=Tn.out;have:=aCZ.out;omega
                        case rel=>exact ⟨(sO),(jD),(wrap64 (lN+1)),(aN3),(.slice aQi aN3.length aQj),gV,gV,gV,H',⟨by have:=wU.out;have:=Vu.out;have:=MZ.out;have:=HK4.out;have:=Tn.out;have:=aCZ.out;omega⟩,⟨by refine bH ?_;exact Kd.dX (Kd.dO (p:=⟨nH,1,none⟩) (Kd.dV aQh.out fQ.out (by decide)) (fun _ hk=>hk.2) (.slice aQi aN3.length aQj)) (fun _ hk=>trivial)⟩,⟨by refine aH ?_;refine aU ?_ uS.out _;refine aH ?_;exact gY.out⟩,⟨by refine aH ?_;refine aU ?_ pK.out _;refine aH ?_;exact eX.out⟩,⟨by refine aH ?_;refine aY (cs:=#[.int .i64 bZ,nI]) ?_ 1 _ rfl;refine aH ?_;exact fQ.out⟩,⟨eG HB.out oU.out qP.out vC.out⟩⟩
                       ·rw [if_neg PY] at H;exact absurd H (by simp)
              ·rw [if_neg XY] at H;exact absurd H (by simp)
             ·as_aux_lemma =>
              rw [if_neg VD] at H;have RS:decide (lN<(((aI l0 bZ).f2).length:Int))=false:=kT VD;clear VD;replace H:=Option.bind_eq_some_iff.mp H;obtain ⟨⟨aBs,aTU⟩,aQk,H⟩:=H;replace H:(if aBs=0 then ((aV.f k4 ((aI l0 bZ).f0) ((aI l0 bZ).f1) ((aI l0 bZ).f2) fH).bind fun Tj=>((bJ.f k4 ((aI l0 bZ).f0) ((aI l0 bZ).f1) ((aI l0 bZ).f2)).bind fun BD=>(if 0≤BD then (if BD≤(l1.length:Int) then ((bF.f Tj (l1.take (BD:Int).toNat)).bind fun VR=>(if VR=true then (some (bZ,fH,true)) else (aJ.l0 k4 l0 l1 (wrap64 (bZ+1))))) else (none)) else (none)))) else (aJ.l0 k4 l0 l1 (wrap64 (bZ+1))))=some (r1,r2,r3):=H;have aTV:=aA.mk aQk;clear aQk
              by_cases aEq:aBs=0
              ·as_aux_lemma =>
               rw [if_pos aEq] at H;have aTW:(aBs==0)=true:=beq_iff_eq.mpr aEq;have aTX:(aBs != 0)=false:=bne_eq_false_iff_eq.mpr aEq;clear aEq;replace H:=Option.bind_eq_some_iff.mp H;obtain ⟨Tj,aQl,H⟩:=H;replace H:((bJ.f k4 ((aI l0 bZ).f0) ((aI l0 bZ).f1) ((aI l0 bZ).f2)).bind fun BD=>(if 0≤BD then (if BD≤(l1.length:Int) then ((bF.f Tj (l1.take (BD:Int).toNat)).bind fun VR=>(if VR=true then (some (bZ,fH,true)) else (aJ.l0 k4 l0 l1 (wrap64 (bZ+1))))) else (none)) else (none)))=some (r1,r2,r3):=H;have aNq:=aA.mk aQl;clear aQl;replace H:=Option.bind_eq_some_iff.mp H;obtain ⟨BD,aQm,H⟩:=H;replace H:(if 0≤BD then (if BD≤(l1.length:Int) then ((bF.f Tj (l1.take (BD:Int).toNat)).bind fun VR=>(if VR=true then (some (bZ,fH,true)) else (aJ.l0 k4 l0 l1 (wrap64 (bZ+1))))) else (none)) else (none))=some (r1,r2,r3):=H;have aJw:=aA.mk aQm;clear aQm
               by_cases aKZ:0≤BD
               ·as_aux_lemma =>
                rw [if_pos aKZ] at H;have bHI:=eq_true aKZ;have bHJ:decide (0≤BD)=true:=fB aKZ;clear aKZ
                by_cases aK1:BD≤(l1.length:Int)
                ·as_aux_lemma =>
                 rw [if_pos aK1] at H;have bHK:=eq_true aK1;have bHL:decide (BD≤(l1.length:Int))=true:=fB aK1;clear aK1;replace H:=Option.bind_eq_some_iff.mp H;obtain ⟨VR,aQn,H⟩:=H;replace H:(if VR=true then (some (bZ,fH,true)) else (aJ.l0 k4 l0 l1 (wrap64 (bZ+1))))=some (r1,r2,r3):=H;have aZT:=aA.mk aQn;clear aQn
                 by_cases c124:VR=true
                 ·as_aux_lemma =>
                  subst c124;have H1:(some (bZ,fH,true))=some (r1,r2,r3):=by rw [if_pos rfl] at H;exact H
                  clear H;have H:=H1;clear H1;simp only [Option.some.injEq,Prod.mk.injEq] at H;obtain ⟨rfl,rfl,rfl⟩:=H;have bHM:=EG.out;have bHN:=uD.out;have bHO:=pK.out;have bHP:=xN.out;have aZU:wr.cell? ⟨jH,0,none⟩=some (.string ((aI l0 bZ).f0)):=(aC eX.out 0).trans rfl;have aZV:wr.cell? ⟨jH,1,none⟩=some (.int .i64 ((aI l0 bZ).f1)):=(aC eX.out 1).trans rfl;have aZW:wr.cell? ⟨jH,2,none⟩=some (.slice nO ((aI l0 bZ).f2).length lV):=(aC eX.out 2).trans rfl;have aZX:=aG eX.out 0;have aZY:=aG eX.out 1;have aZZ:=aG eX.out 2
                  try go_wp2
                  have bT:=aA.mk (Kd.qG eP.out);have bW:=aA.mk (dY gY.out);have dA:=aA.mk (dY eX.out);have dN:=aA.mk (dY fQ.out);have eY:=aA.mk (fZ HB.out);clear eP;clear gY;clear eX;clear fQ;clear HB;have eP:=bT;have gY:=bW;have eX:=dA;have fQ:=dN;have HB:=eY;clear bT bW dA dN eY;obtain ⟨Qp,Qq,aCM⟩:=Kd.iK eP.out
                  (first|subst aCM|(injection aCM with Hl NQ Ho;have NR:=Hl.symm;have NS:=Ho.symm;clear Hl NQ Ho;subst NR;subst NS))
                  refine qZ (n:=16) (S:=fun w'=>w'.cell? ⟨nH,0,none⟩=some (.int .i64 bZ)∧w'.cell? ⟨nH,1,none⟩=some (.slice Qp fH.length Qq)∧w'.cell? ⟨jH,0,none⟩=some (.string ((aI l0 bZ).f0))∧w'.cell? ⟨jH,1,none⟩=some (.int .i64 ((aI l0 bZ).f1))∧w'.cell? ⟨jH,2,none⟩=some (.slice nO ((aI l0 bZ).f2).length lV)) (ds:=[]) #[false,false,false,false,false,false,false,false,false,false,false,false,false,false,false,false] aQ rfl rfl ⟨(aC fQ.out 0).trans rfl,(aC fQ.out 1).trans rfl,(aC eX.out 0).trans rfl,(aC eX.out 1).trans rfl,(aC eX.out 2).trans rfl⟩ (fun hHeld=>?_);refine nK aJ.aKQ aJ.aEj (fun gG zQ=>?_);generalize wr.drew=bGI at eP gY eX fQ HB hHeld ⊢;refine bQ (i:=0) (N:=some 167) (v:=?_) (a':=?_) #[true,false,false,false,false,false,false,false,false,false,false,false,false,false,false,false] rfl rfl (bP gG.out aQ) (fun _ _ _ h=>h) (bG ?_) ?_ ?_;rotate_left
                  ·intro w';go_simp;with_reducible rfl
                  rotate_left
                  ·simp only [Act.put,aX];rfl
                  refine iQ (i:=1) (N:=some 168) (v:=?_) (a':=?_) #[true,true,false,false,false,false,false,false,false,false,false,false,false,false,false,false] rfl rfl (iH gG.out zQ.out aQ) (fun _ _ _ h=>h) (bG ?_) hHeld ?_ ?_;rotate_left
                  ·rintro w' ⟨s0,s1,s2,s3,s4⟩;go_simp;with_reducible rfl
                  rotate_left
                  ·simp only [Act.put,aX];rfl
                  refine wL (i:=2) (N:=some 169) #[true,true,true,false,false,false,false,false,false,false,false,false,false,false,false,false] rfl rfl (qH gG.out aQ) (by decide) (fun K hK=>?_);refine xR Try.func47 aQ rfl #[.slice (some aKR) l0.length c0,.agg #[.int .i64 bZ,.slice Qp fH.length Qq]] (by rfl) rfl rfl fP ?_
                  with_reducible refine (eU.calls k4 _ _ l0 bZ _ _ fH aBs aTU _ ?fJ ?fK ?gK ?iI aTV.out).mono ?_
                  (case fJ=>repeat (first|exact (Kd.dP HR0.out HB.out)|(with_reducible refine Kd.fG ?_ _)|(with_reducible refine Kd.fC ?_ _)|(with_reducible refine Kd.gJ ?_)))
                  (case fK=>exact Am.out)
                  (case gK=>repeat (first|exact (Kd.fM eP.out).2.2|(with_reducible refine Kd.fG ?_ _)|(with_reducible refine Kd.fC ?_ _)|(with_reducible refine Kd.gJ ?_)))
                  (case iI=>exact (Kd.fM eP.out).2.1)
                  rintro e bMq ⟨rfl,hb⟩;refine ⟨_,rfl,?_⟩;have bT:=aA.mk (Kd.dI (bH eP.out) hb);have bW:=aA.mk (aK (g:=sV) (o:=.cells #[.int .i64 kE,.slice none 0 0] 65 (0,0)) (aH gY.out) hb);have dA:=aA.mk (aK (g:=jH) (o:=.cells #[.string ((aI l0 bZ).f0),.int .i64 ((aI l0 bZ).f1),.slice nO ((aI l0 bZ).f2).length lV] 54 (0,0)) (aH eX.out) hb);have dN:=aA.mk (aK (g:=nH) (o:=.cells #[.int .i64 bZ,.slice Qp fH.length Qq] 65 (0,0)) (aH fQ.out) hb);have eY:=aA.mk (aT (eG HB.out oU.out qP.out vC.out) hb);clear eP;clear gY;clear eX;clear fQ;clear HB;have eP:=bT;have gY:=bW;have eX:=dA;have fQ:=dN;have HB:=eY;clear bT bW dA dN eY
                  (try clear hb)
                  (try clear hb2)
                  (try clear hk)
                  (try clear hi)
                  refine hK.out _ _ ⟨(aC fQ.out 0).trans rfl,(aC fQ.out 1).trans rfl,(aC eX.out 0).trans rfl,(aC eX.out 1).trans rfl,(aC eX.out 2).trans rfl⟩ (fun hHeld=>?_);clear hK K;refine sJ (a':=?_) ?_ ?_;rotate_left
                  ·show Act.put _ (some 169) _=_;simp only [Act.put,aX];rfl
                  refine bQ (i:=3) (N:=some 170) (v:=?_) (a':=?_) #[true,true,true,true,false,false,false,false,false,false,false,false,false,false,false,false] rfl rfl (bP gG.out aQ) (fun _ _ _ h=>h) (bG ?_) ?_ ?_;rotate_left
                  ·intro w';go_simp;with_reducible rfl
                  rotate_left
                  ·simp only [Act.put,aX];rfl
                  refine bQ (i:=4) (N:=some 171) (v:=?_) (a':=?_) #[true,true,true,true,true,false,false,false,false,false,false,false,false,false,false,false] rfl rfl (bP gG.out aQ) (fun _ _ _ h=>h) (bG ?_) ?_ ?_;rotate_left
                  ·intro w';go_simp;with_reducible rfl
                  rotate_left
                  ·simp only [Act.put,aX];rfl
                  refine bQ (i:=5) (N:=some 172) (v:=?_) (a':=?_) #[true,true,true,true,true,true,false,false,false,false,false,false,false,false,false,false] rfl rfl (bP gG.out aQ) (fun _ _ _ h=>h) (bG ?_) ?_ ?_;rotate_left
                  ·intro w';go_simp;with_reducible rfl
                  rotate_left
                  ·simp only [Act.put,aX];rfl
                  refine bQ (i:=7) (N:=some 174) (v:=?_) (a':=?_) #[true,true,true,true,true,true,false,true,false,false,false,false,false,false,false,false] rfl rfl (bP gG.out aQ) (fun _ _ _ h=>h) (bG ?_) ?_ ?_;rotate_left
                  ·intro w';go_simp;with_reducible rfl
                  rotate_left
                  ·simp only [Act.put,aX];rfl
                  refine bQ (i:=10) (N:=some 177) (v:=?_) (a':=?_) #[true,true,true,true,true,true,false,true,false,false,true,false,false,false,false,false] rfl rfl (bP gG.out aQ) (fun _ _ _ h=>h) (bG ?_) ?_ ?_;rotate_left
                  ·intro w';go_simp;with_reducible rfl
                  rotate_left
                  ·simp only [Act.put,aX];rfl
                  refine iQ (i:=6) (N:=some 173) (v:=?_) (a':=?_) #[true,true,true,true,true,true,true,true,false,false,true,false,false,false,false,false] rfl rfl (iH gG.out zQ.out aQ) (fun _ _ _ h=>h) (bG ?_) hHeld ?_ ?_;rotate_left
                  ·rintro w' ⟨s0,s1,s2,s3,s4⟩;go_simp;with_reducible rfl
                  rotate_left
                  ·simp only [Act.put,aX];rfl
                  refine iQ (i:=8) (N:=some 175) (v:=?_) (a':=?_) #[true,true,true,true,true,true,true,true,true,false,true,false,false,false,false,false] rfl rfl (iH gG.out zQ.out aQ) (fun _ _ _ h=>h) (bG ?_) hHeld ?_ ?_;rotate_left
                  ·rintro w' ⟨s0,s1,s2,s3,s4⟩;go_simp;with_reducible rfl
                  rotate_left
                  ·simp only [Act.put,aX];rfl
                  refine iQ (i:=11) (N:=some 178) (v:=?_) (a':=?_) #[true,true,true,true,true,true,true,true,true,false,true,true,false,false,false,false] rfl rfl (iH gG.out zQ.out aQ) (fun _ _ _ h=>h) (bG ?_) hHeld ?_ ?_;rotate_left
                  ·rintro w' ⟨s0,s1,s2,s3,s4⟩;go_simp;with_reducible rfl
                  rotate_left
                  ·simp only [Act.put,aX];rfl
                  refine wL (i:=9) (N:=some 176) #[true,true,true,true,true,true,true,true,true,true,true,true,false,false,false,false] rfl rfl (qH gG.out aQ) (by decide) (fun K hK=>?_);refine xR Try.func48 aQ rfl #[.agg #[.string ((aI l0 bZ).f0),.int .i64 ((aI l0 bZ).f1),.slice nO ((aI l0 bZ).f2).length lV],.slice Qp fH.length Qq] (by rfl) rfl rfl fP ?_
                  with_reducible refine (aV.calls k4 ((aI l0 bZ).f0) ((aI l0 bZ).f1) _ _ ((aI l0 bZ).f2) _ _ fH Tj _ ?fJ ?fK ?gK ?iI aNq.out).mono ?_
                  (case fJ=>repeat (first|exact (Kd.dP JY.out HB.out)|(with_reducible refine Kd.fG ?_ _)|(with_reducible refine Kd.fC ?_ _)|(with_reducible refine Kd.gJ ?_)))
                  (case fK=>exact Tm.out)
                  (case gK=>repeat (first|exact (Kd.fM eP.out).2.2|(with_reducible refine Kd.fG ?_ _)|(with_reducible refine Kd.fC ?_ _)|(with_reducible refine Kd.gJ ?_)))
                  (case iI=>exact (Kd.fM eP.out).2.1)
                  rintro e bGK ⟨bHQ,rfl,ho0,hb⟩;refine ⟨_,rfl,?_⟩;have bT:=aA.mk (Kd.dI (bH eP.out) hb);have bW:=aA.mk (Kd.jV ho0 (aN (eG HB.out oU.out qP.out vC.out)));have dA:=aA.mk (aK (g:=sV) (o:=.cells #[.int .i64 kE,.slice none 0 0] 65 (0,0)) (aH gY.out) hb);have dN:=aA.mk (aK (g:=jH) (o:=.cells #[.string ((aI l0 bZ).f0),.int .i64 ((aI l0 bZ).f1),.slice nO ((aI l0 bZ).f2).length lV] 54 (0,0)) (aH eX.out) hb);have eY:=aA.mk (aK (g:=nH) (o:=.cells #[.int .i64 bZ,.slice Qp fH.length Qq] 65 (0,0)) (aH fQ.out) hb);have fV:=aA.mk (aT (eG HB.out oU.out qP.out vC.out) hb);clear eP;clear gY;clear eX;clear fQ;clear HB;have eP:=bT;have Ls:=bW;have gY:=dA;have eX:=dN;have fQ:=eY;have HB:=fV;clear bT bW dA dN eY fV
                  (try clear hb)
                  (try clear hb2)
                  (try clear hk)
                  (try clear hi)
                  (try clear ho0)
                  refine hK.out _ _ ⟨(aC fQ.out 0).trans rfl,(aC fQ.out 1).trans rfl,(aC eX.out 0).trans rfl,(aC eX.out 1).trans rfl,(aC eX.out 2).trans rfl⟩ (fun hHeld=>?_);clear hK K;refine sJ (a':=?_) ?_ ?_;rotate_left
                  ·show Act.put _ (some 176) _=_;simp only [Act.put,aX];rfl
                  refine wL (i:=12) (N:=some 179) #[true,true,true,true,true,true,true,true,true,true,true,true,true,false,false,false] rfl rfl (qH gG.out aQ) (by decide) (fun K hK=>?_);refine xR Try.func38 aQ rfl #[.agg #[.string ((aI l0 bZ).f0),.int .i64 ((aI l0 bZ).f1),.slice nO ((aI l0 bZ).f2).length lV]] (by rfl) rfl rfl fP ?_
                  with_reducible refine (bJ.calls k4 ((aI l0 bZ).f0) ((aI l0 bZ).f1) _ _ ((aI l0 bZ).f2) BD _ ?fJ ?fK aJw.out).mono ?_
                  (case fJ=>repeat (first|exact (Kd.dP JY.out HB.out)|(with_reducible refine Kd.fG ?_ _)|(with_reducible refine Kd.fC ?_ _)|(with_reducible refine Kd.gJ ?_)))
                  (case fK=>exact Tm.out)
                  rintro e aJ7 ⟨rfl,hb⟩;refine ⟨_,rfl,?_⟩;have bT:=aA.mk (Kd.dI (bH eP.out) hb);have bW:=aA.mk (Kd.dI (bH Ls.out) hb);have dA:=aA.mk (aK (g:=sV) (o:=.cells #[.int .i64 kE,.slice none 0 0] 65 (0,0)) (aH gY.out) hb);have dN:=aA.mk (aK (g:=jH) (o:=.cells #[.string ((aI l0 bZ).f0),.int .i64 ((aI l0 bZ).f1),.slice nO ((aI l0 bZ).f2).length lV] 54 (0,0)) (aH eX.out) hb);have eY:=aA.mk (aK (g:=nH) (o:=.cells #[.int .i64 bZ,.slice Qp fH.length Qq] 65 (0,0)) (aH fQ.out) hb);have fV:=aA.mk (aT (eG HB.out oU.out qP.out vC.out) hb);clear eP;clear Ls;clear gY;clear eX;clear fQ;clear HB;have eP:=bT;have Ls:=bW;have gY:=dA;have eX:=dN;have fQ:=eY;have HB:=fV;clear bT bW dA dN eY fV
                  (try clear hb)
                  (try clear hb2)
                  (try clear hk)
                  (try clear hi)
                  obtain ⟨bKv,aK2,_,aK3,_⟩:=info_parts info5;obtain ⟨bEe,aQo,aQp⟩:=Qr (P:=Try.prog) (Value.int .u8) 0 25 5 .i64 Try.underlying25 aK2 aK3 A1 c1 l1 BD (dU dW) (dU dW) Gj.out;have aK4:=aA.mk (Kd.zU (h1:=fun _=>rfl) (aQo _ (Kd.yM HR1.out)));have aK5:=aA.mk aQp;clear aQo aQp aK2 aK3;obtain ⟨aZ0,aZ1,aQq⟩:=Kd.iK Ls.out
                  (first|subst aQq|(injection aQq with Hl NQ Ho;have NR:=Hl.symm;have NS:=Ho.symm;clear Hl NQ Ho;subst NR;subst NS))
                  refine hK.out _ _ ⟨(aC fQ.out 0).trans rfl,(aC fQ.out 1).trans rfl,(aC eX.out 0).trans rfl,(aC eX.out 1).trans rfl,(aC eX.out 2).trans rfl⟩ (fun hHeld=>?_);clear hK K;refine sJ (a':=?_) ?_ ?_;rotate_left
                  ·show Act.put _ (some 179) _=_;simp only [Act.put,aX];rfl
                  refine bQ (i:=13) (N:=some 180) (v:=?_) (a':=?_) #[true,true,true,true,true,true,true,true,true,true,true,true,true,true,false,false] rfl rfl (bP gG.out aQ) (fun _ _ _ h=>h) (bG ?_) ?_ ?_;rotate_left
                  ·intro w';go_simp;with_reducible rfl
                  rotate_left
                  ·simp only [Act.put,aX];rfl
                  refine wL (i:=14) (N:=some 181) #[true,true,true,true,true,true,true,true,true,true,true,true,true,true,true,false] rfl rfl (qH gG.out aQ) (by decide) (fun K hK=>?_);refine xR Try.func24 aQ rfl #[.slice aZ0 Tj.length aZ1,.slice A1 (l1.take (BD:Int).toNat).length c1] (by rfl) rfl rfl (by (try simp only [List.map_toArray,List.map_cons,List.map_nil]);first|done|(rw [show (l1.take (BD:Int).toNat).length=BD.toNat from (by rw [Fq];have h_:(BD:Int)≤(l1.length:Int):=dU dW;omega)] <;> rfl)|rfl|(simp only [Dw,Fq];rfl)) ?_
                  with_reducible refine (bF.calls _ _ Tj _ _ (l1.take (BD:Int).toNat) true _ ?fJ ?fK ?gK ?iI aZT.out).mono ?_
                  (case fJ=>repeat (first|exact (Kd.fM Ls.out).2.2|(with_reducible refine Kd.fG ?_ _)|(with_reducible refine Kd.fC ?_ _)|(with_reducible refine Kd.gJ ?_)))
                  (case fK=>exact (Kd.fM Ls.out).2.1)
                  (case gK=>repeat (first|exact (Kd.dP aK4.out HB.out)|(with_reducible refine Kd.fG ?_ _)|(with_reducible refine Kd.fC ?_ _)|(with_reducible refine Kd.gJ ?_)))
                  (case iI=>exact aK5.out)
                  rintro e w' ⟨rfl,⟨nd,rfl⟩⟩;refine ⟨_,rfl,?_⟩;refine hK.out _ _ ⟨(aC fQ.out 0).trans rfl,(aC fQ.out 1).trans rfl,(aC eX.out 0).trans rfl,(aC eX.out 1).trans rfl,(aC eX.out 2).trans rfl⟩ (fun hHeld=>?_);clear hK K;refine sJ (a':=?_) ?_ ?_;rotate_left
                  ·show Act.put _ (some 181) _=_;simp only [Act.put,aX];rfl
                  refine bQ (i:=15) (N:=some 182) (v:=?_) (a':=?_) #[true,true,true,true,true,true,true,true,true,true,true,true,true,true,true,true] rfl rfl (bP gG.out aQ) (fun _ _ _ h=>h) (bG ?_) ?_ ?_;rotate_left
                  ·intro w';go_simp;with_reducible rfl
                  rotate_left
                  ·simp only [Act.put,aX];rfl
                  refine sG (sH gG.out aQ) ?_;have bHR:=EH.out;have bHS:=uS.out;have aZ2:aJ7.cell? ⟨nH,0,none⟩=some (.int .i64 bZ):=(aC fQ.out 0).trans rfl;have aZ3:aJ7.cell? ⟨nH,1,none⟩=some (.slice Qp fH.length Qq):=(aC fQ.out 1).trans rfl;have aZ4:=aG fQ.out 0;have aZ5:=aG fQ.out 1;have aZ6:aJ7.cell? ⟨sV,0,none⟩=some (.int .i64 kE):=(aC gY.out 0).trans rfl;have aZ7:aJ7.cell? ⟨sV,1,none⟩=some (.slice none 0 0):=(aC gY.out 1).trans rfl;have aZ8:=aG gY.out 0;have aZ9:=aG gY.out 1
                  try go_wp2
                  refine bodyPost_ret (YI rfl _ _ sV 65 #[.int .i64 bZ,.slice Qp fH.length Qq] (0,0) _ rfl (by refine aH ?_;refine aY (cs:=#[.int .i64 bZ,.slice none 0 0]) ?_ 1 _ rfl;refine aH ?_;refine aY (cs:=#[.int .i64 kE,.slice none 0 0]) ?_ 0 _ rfl;refine aH ?_;exact gY.out) Try.underlying65 rfl aQ) rfl ?_;exact ⟨_,by first|rfl|(simp [bK,bM] <;> rfl)|(simp [*,bK,bM] <;> rfl),by refine bH ?_;exact Kd.dX (Kd.dO (p:=⟨sV,1,none⟩) (Kd.dO (p:=⟨sV,0,none⟩) (Kd.dV eP.out gY.out (by decide)) (fun _ hk=>hk.2) (.int .i64 bZ)) (fun _ hk=>hk.2) (.slice Qp fH.length Qq)) (fun _ hk=>trivial),eG HB.out oU.out qP.out vC.out⟩
                 ·as_aux_lemma =>
                  replace c124:=Bool.eq_false_iff.mpr c124;subst c124;have H1:(aJ.l0 k4 l0 l1 (wrap64 (bZ+1)))=some (r1,r2,r3):=by rw [if_neg (show ¬ (false=true) by decide)] at H;exact H
                  clear H;have H:=H1;clear H1;have H':=aA.mk H;clear H;have bHT:=EG.out;have bHU:=uD.out;have bHV:=pK.out;have bHW:=xN.out;have aZ_:wr.cell? ⟨jH,0,none⟩=some (.string ((aI l0 bZ).f0)):=(aC eX.out 0).trans rfl;have bAa:wr.cell? ⟨jH,1,none⟩=some (.int .i64 ((aI l0 bZ).f1)):=(aC eX.out 1).trans rfl;have bAb:wr.cell? ⟨jH,2,none⟩=some (.slice nO ((aI l0 bZ).f2).length lV):=(aC eX.out 2).trans rfl;have bAc:=aG eX.out 0;have bAd:=aG eX.out 1;have bAe:=aG eX.out 2
                  try go_wp2
                  have bT:=aA.mk (Kd.qG eP.out);have bW:=aA.mk (dY gY.out);have dA:=aA.mk (dY eX.out);have dN:=aA.mk (dY fQ.out);have eY:=aA.mk (fZ HB.out);clear eP;clear gY;clear eX;clear fQ;clear HB;have eP:=bT;have gY:=bW;have eX:=dA;have fQ:=dN;have HB:=eY;clear bT bW dA dN eY;obtain ⟨aAi,aAj,aQr⟩:=Kd.iK eP.out
                  (first|subst aQr|(injection aQr with Hl NQ Ho;have NR:=Hl.symm;have NS:=Ho.symm;clear Hl NQ Ho;subst NR;subst NS))
                  refine qZ (n:=16) (S:=fun w'=>w'.cell? ⟨nH,0,none⟩=some (.int .i64 bZ)∧w'.cell? ⟨nH,1,none⟩=some (.slice aAi fH.length aAj)∧w'.cell? ⟨jH,0,none⟩=some (.string ((aI l0 bZ).f0))∧w'.cell? ⟨jH,1,none⟩=some (.int .i64 ((aI l0 bZ).f1))∧w'.cell? ⟨jH,2,none⟩=some (.slice nO ((aI l0 bZ).f2).length lV)) (ds:=[]) #[false,false,false,false,false,false,false,false,false,false,false,false,false,false,false,false] aQ rfl rfl ⟨(aC fQ.out 0).trans rfl,(aC fQ.out 1).trans rfl,(aC eX.out 0).trans rfl,(aC eX.out 1).trans rfl,(aC eX.out 2).trans rfl⟩ (fun hHeld=>?_);refine nK aJ.aKQ aJ.aEj (fun gG zQ=>?_);generalize wr.drew=bMr at eP gY eX fQ HB hHeld ⊢;refine bQ (i:=0) (N:=some 167) (v:=?_) (a':=?_) #[true,false,false,false,false,false,false,false,false,false,false,false,false,false,false,false] rfl rfl (bP gG.out aQ) (fun _ _ _ h=>h) (bG ?_) ?_ ?_;rotate_left
                  ·intro w';go_simp;with_reducible rfl
                  rotate_left
                  ·simp only [Act.put,aX];rfl
                  refine iQ (i:=1) (N:=some 168) (v:=?_) (a':=?_) #[true,true,false,false,false,false,false,false,false,false,false,false,false,false,false,false] rfl rfl (iH gG.out zQ.out aQ) (fun _ _ _ h=>h) (bG ?_) hHeld ?_ ?_;rotate_left
                  ·rintro w' ⟨s0,s1,s2,s3,s4⟩;go_simp;with_reducible rfl
                  rotate_left
                  ·simp only [Act.put,aX];rfl
                  refine wL (i:=2) (N:=some 169) #[true,true,true,false,false,false,false,false,false,false,false,false,false,false,false,false] rfl rfl (qH gG.out aQ) (by decide) (fun K hK=>?_);refine xR Try.func47 aQ rfl #[.slice (some aKR) l0.length c0,.agg #[.int .i64 bZ,.slice aAi fH.length aAj]] (by rfl) rfl rfl fP ?_
                  with_reducible refine (eU.calls k4 _ _ l0 bZ _ _ fH aBs aTU _ ?fJ ?fK ?gK ?iI aTV.out).mono ?_
                  (case fJ=>repeat (first|exact (Kd.dP HR0.out HB.out)|(with_reducible refine Kd.fG ?_ _)|(with_reducible refine Kd.fC ?_ _)|(with_reducible refine Kd.gJ ?_)))
                  (case fK=>exact Am.out)
                  (case gK=>repeat (first|exact (Kd.fM eP.out).2.2|(with_reducible refine Kd.fG ?_ _)|(with_reducible refine Kd.fC ?_ _)|(with_reducible refine Kd.gJ ?_)))
                  (case iI=>exact (Kd.fM eP.out).2.1)
                  rintro e bMs ⟨rfl,hb⟩;refine ⟨_,rfl,?_⟩;have bT:=aA.mk (Kd.dI (bH eP.out) hb);have bW:=aA.mk (aK (g:=sV) (o:=.cells #[.int .i64 kE,.slice none 0 0] 65 (0,0)) (aH gY.out) hb);have dA:=aA.mk (aK (g:=jH) (o:=.cells #[.string ((aI l0 bZ).f0),.int .i64 ((aI l0 bZ).f1),.slice nO ((aI l0 bZ).f2).length lV] 54 (0,0)) (aH eX.out) hb);have dN:=aA.mk (aK (g:=nH) (o:=.cells #[.int .i64 bZ,.slice aAi fH.length aAj] 65 (0,0)) (aH fQ.out) hb);have eY:=aA.mk (aT (eG HB.out oU.out qP.out vC.out) hb);clear eP;clear gY;clear eX;clear fQ;clear HB;have eP:=bT;have gY:=bW;have eX:=dA;have fQ:=dN;have HB:=eY;clear bT bW dA dN eY
                  (try clear hb)
                  (try clear hb2)
                  (try clear hk)
                  (try clear hi)
                  refine hK.out _ _ ⟨(aC fQ.out 0).trans rfl,(aC fQ.out 1).trans rfl,(aC eX.out 0).trans rfl,(aC eX.out 1).trans rfl,(aC eX.out 2).trans rfl⟩ (fun hHeld=>?_);clear hK K;refine sJ (a':=?_) ?_ ?_;rotate_left
                  ·show Act.put _ (some 169) _=_;simp only [Act.put,aX];rfl
                  refine bQ (i:=3) (N:=some 170) (v:=?_) (a':=?_) #[true,true,true,true,false,false,false,false,false,false,false,false,false,false,false,false] rfl rfl (bP gG.out aQ) (fun _ _ _ h=>h) (bG ?_) ?_ ?_;rotate_left
                  ·intro w';go_simp;with_reducible rfl
                  rotate_left
                  ·simp only [Act.put,aX];rfl
                  refine bQ (i:=4) (N:=some 171) (v:=?_) (a':=?_) #[true,true,true,true,true,false,false,false,false,false,false,false,false,false,false,false] rfl rfl (bP gG.out aQ) (fun _ _ _ h=>h) (bG ?_) ?_ ?_;rotate_left
                  ·intro w';go_simp;with_reducible rfl
                  rotate_left
                  ·simp only [Act.put,aX];rfl
                  refine bQ (i:=5) (N:=some 172) (v:=?_) (a':=?_) #[true,true,true,true,true,true,false,false,false,false,false,false,false,false,false,false] rfl rfl (bP gG.out aQ) (fun _ _ _ h=>h) (bG ?_) ?_ ?_;rotate_left
                  ·intro w';go_simp;with_reducible rfl
                  rotate_left
                  ·simp only [Act.put,aX];rfl
                  refine bQ (i:=7) (N:=some 174) (v:=?_) (a':=?_) #[true,true,true,true,true,true,false,true,false,false,false,false,false,false,false,false] rfl rfl (bP gG.out aQ) (fun _ _ _ h=>h) (bG ?_) ?_ ?_;rotate_left
                  ·intro w';go_simp;with_reducible rfl
                  rotate_left
                  ·simp only [Act.put,aX];rfl
                  refine bQ (i:=10) (N:=some 177) (v:=?_) (a':=?_) #[true,true,true,true,true,true,false,true,false,false,true,false,false,false,false,false] rfl rfl (bP gG.out aQ) (fun _ _ _ h=>h) (bG ?_) ?_ ?_;rotate_left
                  ·intro w';go_simp;with_reducible rfl
                  rotate_left
                  ·simp only [Act.put,aX];rfl
                  refine iQ (i:=6) (N:=some 173) (v:=?_) (a':=?_) #[true,true,true,true,true,true,true,true,false,false,true,false,false,false,false,false] rfl rfl (iH gG.out zQ.out aQ) (fun _ _ _ h=>h) (bG ?_) hHeld ?_ ?_;rotate_left
                  ·rintro w' ⟨s0,s1,s2,s3,s4⟩;go_simp;with_reducible rfl
                  rotate_left
                  ·simp only [Act.put,aX];rfl
                  refine iQ (i:=8) (N:=some 175) (v:=?_) (a':=?_) #[true,true,true,true,true,true,true,true,true,false,true,false,false,false,false,false] rfl rfl (iH gG.out zQ.out aQ) (fun _ _ _ h=>h) (bG ?_) hHeld ?_ ?_;rotate_left
                  ·rintro w' ⟨s0,s1,s2,s3,s4⟩;go_simp;with_reducible rfl
                  rotate_left
                  ·simp only [Act.put,aX];rfl
                  refine iQ (i:=11) (N:=some 178) (v:=?_) (a':=?_) #[true,true,true,true,true,true,true,true,true,false,true,true,false,false,false,false] rfl rfl (iH gG.out zQ.out aQ) (fun _ _ _ h=>h) (bG ?_) hHeld ?_ ?_;rotate_left
                  ·rintro w' ⟨s0,s1,s2,s3,s4⟩;go_simp;with_reducible rfl
                  rotate_left
                  ·simp only [Act.put,aX];rfl
                  refine wL (i:=9) (N:=some 176) #[true,true,true,true,true,true,true,true,true,true,true,true,false,false,false,false] rfl rfl (qH gG.out aQ) (by decide) (fun K hK=>?_);refine xR Try.func48 aQ rfl #[.agg #[.string ((aI l0 bZ).f0),.int .i64 ((aI l0 bZ).f1),.slice nO ((aI l0 bZ).f2).length lV],.slice aAi fH.length aAj] (by rfl) rfl rfl fP ?_
                  with_reducible refine (aV.calls k4 ((aI l0 bZ).f0) ((aI l0 bZ).f1) _ _ ((aI l0 bZ).f2) _ _ fH Tj _ ?fJ ?fK ?gK ?iI aNq.out).mono ?_
                  (case fJ=>repeat (first|exact (Kd.dP JY.out HB.out)|(with_reducible refine Kd.fG ?_ _)|(with_reducible refine Kd.fC ?_ _)|(with_reducible refine Kd.gJ ?_)))
                  (case fK=>exact Tm.out)
                  (case gK=>repeat (first|exact (Kd.fM eP.out).2.2|(with_reducible refine Kd.fG ?_ _)|(with_reducible refine Kd.fC ?_ _)|(with_reducible refine Kd.gJ ?_)))
                  (case iI=>exact (Kd.fM eP.out).2.1)
                  rintro e bMt ⟨bHQ,rfl,ho0,hb⟩;refine ⟨_,rfl,?_⟩;have bT:=aA.mk (Kd.dI (bH eP.out) hb);have bW:=aA.mk (Kd.jV ho0 (aN (eG HB.out oU.out qP.out vC.out)));have dA:=aA.mk (aK (g:=sV) (o:=.cells #[.int .i64 kE,.slice none 0 0] 65 (0,0)) (aH gY.out) hb);have dN:=aA.mk (aK (g:=jH) (o:=.cells #[.string ((aI l0 bZ).f0),.int .i64 ((aI l0 bZ).f1),.slice nO ((aI l0 bZ).f2).length lV] 54 (0,0)) (aH eX.out) hb);have eY:=aA.mk (aK (g:=nH) (o:=.cells #[.int .i64 bZ,.slice aAi fH.length aAj] 65 (0,0)) (aH fQ.out) hb);have fV:=aA.mk (aT (eG HB.out oU.out qP.out vC.out) hb);clear eP;clear gY;clear eX;clear fQ;clear HB;have eP:=bT;have Ls:=bW;have gY:=dA;have eX:=dN;have fQ:=eY;have HB:=fV;clear bT bW dA dN eY fV
                  (try clear hb)
                  (try clear hb2)
                  (try clear hk)
                  (try clear hi)
                  (try clear ho0)
                  refine hK.out _ _ ⟨(aC fQ.out 0).trans rfl,(aC fQ.out 1).trans rfl,(aC eX.out 0).trans rfl,(aC eX.out 1).trans rfl,(aC eX.out 2).trans rfl⟩ (fun hHeld=>?_);clear hK K;refine sJ (a':=?_) ?_ ?_;rotate_left
                  ·show Act.put _ (some 176) _=_;simp only [Act.put,aX];rfl
                  refine wL (i:=12) (N:=some 179) #[true,true,true,true,true,true,true,true,true,true,true,true,true,false,false,false] rfl rfl (qH gG.out aQ) (by decide) (fun K hK=>?_);refine xR Try.func38 aQ rfl #[.agg #[.string ((aI l0 bZ).f0),.int .i64 ((aI l0 bZ).f1),.slice nO ((aI l0 bZ).f2).length lV]] (by rfl) rfl rfl fP ?_
                  with_reducible refine (bJ.calls k4 ((aI l0 bZ).f0) ((aI l0 bZ).f1) _ _ ((aI l0 bZ).f2) BD _ ?fJ ?fK aJw.out).mono ?_
                  (case fJ=>repeat (first|exact (Kd.dP JY.out HB.out)|(with_reducible refine Kd.fG ?_ _)|(with_reducible refine Kd.fC ?_ _)|(with_reducible refine Kd.gJ ?_)))
                  (case fK=>exact Tm.out)
                  rintro e bMu ⟨rfl,hb⟩;refine ⟨_,rfl,?_⟩;have bT:=aA.mk (Kd.dI (bH eP.out) hb);have bW:=aA.mk (Kd.dI (bH Ls.out) hb);have dA:=aA.mk (aK (g:=sV) (o:=.cells #[.int .i64 kE,.slice none 0 0] 65 (0,0)) (aH gY.out) hb);have dN:=aA.mk (aK (g:=jH) (o:=.cells #[.string ((aI l0 bZ).f0),.int .i64 ((aI l0 bZ).f1),.slice nO ((aI l0 bZ).f2).length lV] 54 (0,0)) (aH eX.out) hb);have eY:=aA.mk (aK (g:=nH) (o:=.cells #[.int .i64 bZ,.slice aAi fH.length aAj] 65 (0,0)) (aH fQ.out) hb);have fV:=aA.mk (aT (eG HB.out oU.out qP.out vC.out) hb);clear eP;clear Ls;clear gY;clear eX;clear fQ;clear HB;have eP:=bT;have Ls:=bW;have gY:=dA;have eX:=dN;have fQ:=eY;have HB:=fV;clear bT bW dA dN eY fV
                  (try clear hb)
                  (try clear hb2)
                  (try clear hk)
                  (try clear hi)
                  obtain ⟨bKw,aK6,_,aK7,_⟩:=info_parts info5;obtain ⟨bEf,aQs,aQt⟩:=Qr (P:=Try.prog) (Value.int .u8) 0 25 5 .i64 Try.underlying25 aK6 aK7 A1 c1 l1 BD (dU dW) (dU dW) Gj.out;have aK4:=aA.mk (Kd.zU (h1:=fun _=>rfl) (aQs _ (Kd.yM HR1.out)));have aK5:=aA.mk aQt;clear aQs aQt aK6 aK7;obtain ⟨bAf,bAg,aQu⟩:=Kd.iK Ls.out
                  (first|subst aQu|(injection aQu with Hl NQ Ho;have NR:=Hl.symm;have NS:=Ho.symm;clear Hl NQ Ho;subst NR;subst NS))
                  refine hK.out _ _ ⟨(aC fQ.out 0).trans rfl,(aC fQ.out 1).trans rfl,(aC eX.out 0).trans rfl,(aC eX.out 1).trans rfl,(aC eX.out 2).trans rfl⟩ (fun hHeld=>?_);clear hK K;refine sJ (a':=?_) ?_ ?_;rotate_left
                  ·show Act.put _ (some 179) _=_;simp only [Act.put,aX];rfl
                  refine bQ (i:=13) (N:=some 180) (v:=?_) (a':=?_) #[true,true,true,true,true,true,true,true,true,true,true,true,true,true,false,false] rfl rfl (bP gG.out aQ) (fun _ _ _ h=>h) (bG ?_) ?_ ?_;rotate_left
                  ·intro w';go_simp;with_reducible rfl
                  rotate_left
                  ·simp only [Act.put,aX];rfl
                  refine wL (i:=14) (N:=some 181) #[true,true,true,true,true,true,true,true,true,true,true,true,true,true,true,false] rfl rfl (qH gG.out aQ) (by decide) (fun K hK=>?_);refine xR Try.func24 aQ rfl #[.slice bAf Tj.length bAg,.slice A1 (l1.take (BD:Int).toNat).length c1] (by rfl) rfl rfl (by (try simp only [List.map_toArray,List.map_cons,List.map_nil]);first|done|(rw [show (l1.take (BD:Int).toNat).length=BD.toNat from (by rw [Fq];have h_:(BD:Int)≤(l1.length:Int):=dU dW;omega)] <;> rfl)|rfl|(simp only [Dw,Fq];rfl)) ?_
                  with_reducible refine (bF.calls _ _ Tj _ _ (l1.take (BD:Int).toNat) false _ ?fJ ?fK ?gK ?iI aZT.out).mono ?_
                  (case fJ=>repeat (first|exact (Kd.fM Ls.out).2.2|(with_reducible refine Kd.fG ?_ _)|(with_reducible refine Kd.fC ?_ _)|(with_reducible refine Kd.gJ ?_)))
                  (case fK=>exact (Kd.fM Ls.out).2.1)
                  (case gK=>repeat (first|exact (Kd.dP aK4.out HB.out)|(with_reducible refine Kd.fG ?_ _)|(with_reducible refine Kd.fC ?_ _)|(with_reducible refine Kd.gJ ?_)))
                  (case iI=>exact aK5.out)
                  rintro e w' ⟨rfl,⟨nd,rfl⟩⟩;refine ⟨_,rfl,?_⟩;refine hK.out _ _ ⟨(aC fQ.out 0).trans rfl,(aC fQ.out 1).trans rfl,(aC eX.out 0).trans rfl,(aC eX.out 1).trans rfl,(aC eX.out 2).trans rfl⟩ (fun hHeld=>?_);clear hK K;refine sJ (a':=?_) ?_ ?_;rotate_left
                  ·show Act.put _ (some 181) _=_;simp only [Act.put,aX];rfl
                  refine bQ (i:=15) (N:=some 182) (v:=?_) (a':=?_) #[true,true,true,true,true,true,true,true,true,true,true,true,true,true,true,true] rfl rfl (bP gG.out aQ) (fun _ _ _ h=>h) (bG ?_) ?_ ?_;rotate_left
                  ·intro w';go_simp;with_reducible rfl
                  rotate_left
                  ·simp only [Act.put,aX];rfl
                  refine sG (sH gG.out aQ) ?_
                  try go_wp2
                  go_roundg k4
                  case measure=>have:=wU.out;have:=Vu.out;have:=MZ.out;have:=HK4.out;omega
                  case rel=>exact ⟨(wrap64 (bZ+1)),(kE),gV,H',⟨by have:=wU.out;have:=Vu.out;have:=MZ.out;have:=HK4.out;omega⟩,⟨by refine aH ?_;exact gY.out⟩,⟨eG HB.out oU.out qP.out vC.out⟩⟩
                ·rw [if_neg aK1] at H;exact absurd H (by simp)
               ·rw [if_neg aKZ] at H;exact absurd H (by simp)
              ·rw [if_neg aEq] at H;have aTW:(aBs==0)=false:=beq_eq_false_iff_ne.mpr aEq;have aTX:(aBs != 0)=true:=bne_iff_ne.mpr aEq;have H':=aA.mk H;clear H;have bHX:=EG.out;have bHY:=uD.out;have bHZ:=pK.out;have bH0:=xN.out;have bAh:wr.cell? ⟨jH,0,none⟩=some (.string ((aI l0 bZ).f0)):=(aC eX.out 0).trans rfl;have bAi:wr.cell? ⟨jH,1,none⟩=some (.int .i64 ((aI l0 bZ).f1)):=(aC eX.out 1).trans rfl;have bAj:wr.cell? ⟨jH,2,none⟩=some (.slice nO ((aI l0 bZ).f2).length lV):=(aC eX.out 2).trans rfl;have bAk:=aG eX.out 0;have bAl:=aG eX.out 1;have bAm:=aG eX.out 2
               try go_wp2
               have bT:=aA.mk (Kd.qG eP.out);have bW:=aA.mk (dY gY.out);have dA:=aA.mk (dY eX.out);have dN:=aA.mk (dY fQ.out);have eY:=aA.mk (fZ HB.out);clear eP;clear gY;clear eX;clear fQ;clear HB;have eP:=bT;have gY:=bW;have eX:=dA;have fQ:=dN;have HB:=eY;clear bT bW dA dN eY;obtain ⟨aK8,aK9,aQv⟩:=Kd.iK eP.out
               (first|subst aQv|(injection aQv with Hl NQ Ho;have NR:=Hl.symm;have NS:=Ho.symm;clear Hl NQ Ho;subst NR;subst NS))
               refine qZ (n:=16) (S:=fun w'=>w'.cell? ⟨nH,0,none⟩=some (.int .i64 bZ)∧w'.cell? ⟨nH,1,none⟩=some (.slice aK8 fH.length aK9)) (ds:=[]) #[false,false,false,false,false,false,false,false,false,false,false,false,false,false,false,false] aQ rfl rfl ⟨(aC fQ.out 0).trans rfl,(aC fQ.out 1).trans rfl⟩ (fun hHeld=>?_);refine nK aJ.aKQ aJ.aEj (fun gG zQ=>?_);generalize wr.drew=bMv at eP gY eX fQ HB hHeld ⊢;refine bQ (i:=0) (N:=some 167) (v:=?_) (a':=?_) #[true,false,false,false,false,false,false,false,false,false,false,false,false,false,false,false] rfl rfl (bP gG.out aQ) (fun _ _ _ h=>h) (bG ?_) ?_ ?_;rotate_left
               ·intro w';go_simp;with_reducible rfl
               rotate_left
               ·simp only [Act.put,aX];rfl
               refine iQ (i:=1) (N:=some 168) (v:=?_) (a':=?_) #[true,true,false,false,false,false,false,false,false,false,false,false,false,false,false,false] rfl rfl (iH gG.out zQ.out aQ) (fun _ _ _ h=>h) (bG ?_) hHeld ?_ ?_;rotate_left
               ·rintro w' ⟨s0,s1⟩;go_simp;with_reducible rfl
               rotate_left
               ·simp only [Act.put,aX];rfl
               refine wL (i:=2) (N:=some 169) #[true,true,true,false,false,false,false,false,false,false,false,false,false,false,false,false] rfl rfl (qH gG.out aQ) (by decide) (fun K hK=>?_);refine xR Try.func47 aQ rfl #[.slice (some aKR) l0.length c0,.agg #[.int .i64 bZ,.slice aK8 fH.length aK9]] (by rfl) rfl rfl fP ?_
               with_reducible refine (eU.calls k4 _ _ l0 bZ _ _ fH aBs aTU _ ?fJ ?fK ?gK ?iI aTV.out).mono ?_
               (case fJ=>repeat (first|exact (Kd.dP HR0.out HB.out)|(with_reducible refine Kd.fG ?_ _)|(with_reducible refine Kd.fC ?_ _)|(with_reducible refine Kd.gJ ?_)))
               (case fK=>exact Am.out)
               (case gK=>repeat (first|exact (Kd.fM eP.out).2.2|(with_reducible refine Kd.fG ?_ _)|(with_reducible refine Kd.fC ?_ _)|(with_reducible refine Kd.gJ ?_)))
               (case iI=>exact (Kd.fM eP.out).2.1)
               rintro e bMw ⟨rfl,hb⟩;refine ⟨_,rfl,?_⟩;have bT:=aA.mk (Kd.dI (bH eP.out) hb);have bW:=aA.mk (aK (g:=sV) (o:=.cells #[.int .i64 kE,.slice none 0 0] 65 (0,0)) (aH gY.out) hb);have dA:=aA.mk (aK (g:=jH) (o:=.cells #[.string ((aI l0 bZ).f0),.int .i64 ((aI l0 bZ).f1),.slice nO ((aI l0 bZ).f2).length lV] 54 (0,0)) (aH eX.out) hb);have dN:=aA.mk (aK (g:=nH) (o:=.cells #[.int .i64 bZ,.slice aK8 fH.length aK9] 65 (0,0)) (aH fQ.out) hb);have eY:=aA.mk (aT (eG HB.out oU.out qP.out vC.out) hb);clear eP;clear gY;clear eX;clear fQ;clear HB;have eP:=bT;have gY:=bW;have eX:=dA;have fQ:=dN;have HB:=eY;clear bT bW dA dN eY
               (try clear hb)
               (try clear hb2)
               (try clear hk)
               (try clear hi)
               refine hK.out _ _ ⟨(aC fQ.out 0).trans rfl,(aC fQ.out 1).trans rfl⟩ (fun hHeld=>?_);clear hK K;refine sJ (a':=?_) ?_ ?_;rotate_left
               ·show Act.put _ (some 169) _=_;simp only [Act.put,aX];rfl
               refine bQ (i:=3) (N:=some 170) (v:=?_) (a':=?_) #[true,true,true,true,false,false,false,false,false,false,false,false,false,false,false,false] rfl rfl (bP gG.out aQ) (fun _ _ _ h=>h) (bG ?_) ?_ ?_;rotate_left
               ·intro w';go_simp;with_reducible rfl
               rotate_left
               ·simp only [Act.put,aX];rfl
               refine bQ (i:=4) (N:=some 171) (v:=?_) (a':=?_) #[true,true,true,true,true,false,false,false,false,false,false,false,false,false,false,false] rfl rfl (bP gG.out aQ) (fun _ _ _ h=>h) (bG ?_) ?_ ?_;rotate_left
               ·intro w';go_simp;with_reducible rfl
               rotate_left
               ·simp only [Act.put,aX];rfl
               refine bQ (i:=5) (N:=some 172) (v:=?_) (a':=?_) #[true,true,true,true,true,true,false,false,false,false,false,false,false,false,false,false] rfl rfl (bP gG.out aQ) (fun _ _ _ h=>h) (bG ?_) ?_ ?_;rotate_left
               ·intro w';go_simp;with_reducible rfl
               rotate_left
               ·simp only [Act.put,aX];rfl
               refine bQ (i:=6) (N:=some 173) (v:=undef) (a':=?_) #[true,true,true,true,true,true,true,false,false,false,false,false,false,false,false,false] rfl rfl (bP gG.out aQ) (fun _ _ _ h=>h) (Or.inr ⟨by rfl,rfl⟩) ?_ ?_;rotate_left
               ·simp only [Act.put,aX];rfl
               refine bQ (i:=7) (N:=some 174) (v:=undef) (a':=?_) #[true,true,true,true,true,true,true,true,false,false,false,false,false,false,false,false] rfl rfl (bP gG.out aQ) (fun _ _ _ h=>h) (Or.inr ⟨by rfl,rfl⟩) ?_ ?_;rotate_left
               ·simp only [Act.put,aX];rfl
               refine bQ (i:=8) (N:=some 175) (v:=undef) (a':=?_) #[true,true,true,true,true,true,true,true,true,false,false,false,false,false,false,false] rfl rfl (bP gG.out aQ) (fun _ _ _ h=>h) (Or.inr ⟨by rfl,rfl⟩) ?_ ?_;rotate_left
               ·simp only [Act.put,aX];rfl
               refine bQ (i:=9) (N:=some 176) (v:=undef) (a':=?_) #[true,true,true,true,true,true,true,true,true,true,false,false,false,false,false,false] rfl rfl (bP gG.out aQ) (fun _ _ _ h=>h) (Or.inr ⟨by rfl,rfl⟩) ?_ ?_;rotate_left
               ·simp only [Act.put,aX];rfl
               refine bQ (i:=10) (N:=some 177) (v:=undef) (a':=?_) #[true,true,true,true,true,true,true,true,true,true,true,false,false,false,false,false] rfl rfl (bP gG.out aQ) (fun _ _ _ h=>h) (Or.inr ⟨by rfl,rfl⟩) ?_ ?_;rotate_left
               ·simp only [Act.put,aX];rfl
               refine bQ (i:=11) (N:=some 178) (v:=undef) (a':=?_) #[true,true,true,true,true,true,true,true,true,true,true,true,false,false,false,false] rfl rfl (bP gG.out aQ) (fun _ _ _ h=>h) (Or.inr ⟨by rfl,rfl⟩) ?_ ?_;rotate_left
               ·simp only [Act.put,aX];rfl
               refine bQ (i:=12) (N:=some 179) (v:=undef) (a':=?_) #[true,true,true,true,true,true,true,true,true,true,true,true,true,false,false,false] rfl rfl (bP gG.out aQ) (fun _ _ _ h=>h) (Or.inr ⟨by rfl,rfl⟩) ?_ ?_;rotate_left
               ·simp only [Act.put,aX];rfl
               refine bQ (i:=13) (N:=some 180) (v:=undef) (a':=?_) #[true,true,true,true,true,true,true,true,true,true,true,true,true,true,false,false] rfl rfl (bP gG.out aQ) (fun _ _ _ h=>h) (Or.inr ⟨by rfl,rfl⟩) ?_ ?_;rotate_left
               ·simp only [Act.put,aX];rfl
               refine bQ (i:=14) (N:=some 181) (v:=undef) (a':=?_) #[true,true,true,true,true,true,true,true,true,true,true,true,true,true,true,false] rfl rfl (bP gG.out aQ) (fun _ _ _ h=>h) (Or.inr ⟨by rfl,rfl⟩) ?_ ?_;rotate_left
               ·simp only [Act.put,aX];rfl
               refine bQ (i:=15) (N:=some 182) (v:=?_) (a':=?_) #[true,true,true,true,true,true,true,true,true,true,true,true,true,true,true,true] rfl rfl (bP gG.out aQ) (fun _ _ _ h=>h) (bG ?_) ?_ ?_;rotate_left
               ·intro w';go_simp;with_reducible rfl
               rotate_left
               ·simp only [Act.put,aX];rfl
               refine sG (sH gG.out aQ) ?_
               try go_wp2
               go_roundg k4
               case measure=>have:=wU.out;have:=Vu.out;have:=MZ.out;have:=HK4.out;omega
               case rel=>exact ⟨(wrap64 (bZ+1)),(kE),gV,H',⟨by have:=wU.out;have:=Vu.out;have:=MZ.out;have:=HK4.out;omega⟩,⟨by refine aH ?_;exact gY.out⟩,⟨eG HB.out oU.out qP.out vC.out⟩⟩
    ·rw [if_neg c5] at H;exact absurd H (by simp)
   ·rw [if_neg c4] at H;have Jz:decide (bZ<(l0.length:Int))=false:=kT c4;clear c4;simp only [Option.some.injEq,Prod.mk.injEq] at H;obtain ⟨rfl,rfl,rfl⟩:=H;have bAn:wr.cell? ⟨sV,0,none⟩=some (.int .i64 kE):=(aC gY.out 0).trans rfl;have bAo:wr.cell? ⟨sV,1,none⟩=some (.slice none 0 0):=(aC gY.out 1).trans rfl;have bAp:=aG gY.out 0;have bAq:=aG gY.out 1
    go_wp2
    refine bodyPost_ret (YI rfl _ _ sV 65 #[.int .i64 0,.slice none 0 0] (0,0) _ rfl (by refine aH ?_;refine aY (cs:=#[.int .i64 0,.slice none 0 0]) ?_ 1 _ rfl;refine aH ?_;refine aY (cs:=#[.int .i64 kE,.slice none 0 0]) ?_ 0 _ rfl;refine aH ?_;exact gY.out) Try.underlying65 rfl aQ) rfl ?_;exact ⟨_,by first|rfl|(simp [bK,bM] <;> rfl)|(simp [*,bK,bM] <;> rfl),by first|exact Kd.BV _ _ _ _ _|exact Kd.KE _ _ _ _ _|exact Kd.KF _ _ _ _ _|exact Kd.KG _ _ _ _ _|exact Kd.KH _ _ _ _ _,bV HB.out oU.out⟩
end Go.Proofs.Ytipjpdiianopcaa.A
