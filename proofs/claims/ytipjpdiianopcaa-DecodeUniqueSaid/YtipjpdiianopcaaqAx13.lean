/- Words and contracts for the laws of encode. -/
import Derived.Test.YtipjpdiianopcaaqAx0
namespace Go.Proofs.Ytipjpdiianopcaa.A
open Go.RowKit Go.Proofs.YtipjpdiianopcaaW.dF Go.Proofs.YtipjpdiianopcaaW.fO Go.Proofs.YtipjpdiianopcaaW.jP
attribute [local go_sem] mV mW oO oP lC lD mX mY
set_option linter.unusedVariables false
set_option linter.unusedSimpArgs false
def iJ.l0:Nat→List Int→Int→Int→Int→Int→Int→Int→Bool→Option (List Int)
 | 0,_,_,_,_,_,_,_,_=>none
 | k+1,x0,x2,x25,x26,aLX,WH,aLY,aLZ=>if x26<x25 then (if 0≤(wrap64 (8*x26)) then (if 0≤(wrap64 (WH+x26)) then (if (wrap64 (WH+x26))<(x0.length:Int) then (iJ.l0 k (x0.set ((wrap64 (WH+x26)):Int).toNat ((shr .i64 x2 (wrap64 (8*x26)))%256)) x2 x25 (wrap64 (x26+1)) aLX WH aLY aLZ) else (none)) else (none)) else (none)) else (some x0)
def iJ.f (k:Nat) (l0:List Int) (bY:Int) (jO:Int) (qK:Int) (BC:Bool) (a2:Int):Option (List Int):=if qK>0 then (iJ.l0 k l0 a2 qK 0 bY jO qK BC) else (if BC=true then (if 0≤jO then (if jO<(l0.length:Int) then (some (l0.set (jO:Int).toNat (Go.bits .or .u8 (Go.bits .and .u8 (rd l0 jO) 15) ((wrap64 (a2*16))%256)))) else (none)) else (none)) else (if 0≤jO then (if jO<(l0.length:Int) then (some (l0.set (jO:Int).toNat (Go.bits .or .u8 (Go.bits .and .u8 (rd l0 jO) 240) ((a2)%256)))) else (none)) else (none)))
def iJ.T1:Bool × List (List Nat × List Nat):=(true,[([],[]),([],[]),([1],[1]),([],[]),([],[]),([4],[4]),([3,5],[3,5]),([6],[6]),([7],[7]),([],[]),([9],[9]),([8,10],[8,10]),([0,2,0,1,2,3,4,5,6,7,8,9,10,11],[0,2]),([12,11,0,1,2,3,4,5,6,7,8,9,10,11],[11,12])])
def iJ.B1:List Nat:=[0,0,2,0,0,16,56,120,248,0,512,2040,4095,8191]
theorem iJ.aUC:Ap .any (opsOf Try.f88 1)=iJ.T1:=by kernel_rfl
theorem iJ.aUD:uF iJ.T1.2 iJ.B1=true:=by kernel_rfl
def iJ.T6:Bool × List (List Nat × List Nat):=(true,[([],[]),([],[]),([1],[1]),([],[]),([2,3],[2,3]),([],[]),([],[]),([6],[6]),([5,7],[5,7]),([8],[8]),([0,4,0,1,2,3,4,5,6,7,8,9],[0,4]),([10,9,0,1,2,3,4,5,6,7,8,9],[9,10])])
def iJ.B6:List Nat:=[0,0,2,0,14,0,0,64,224,480,1023,2047]
theorem iJ.tab6:Ap .any (opsOf Try.f88 6)=iJ.T6:=by kernel_rfl
theorem iJ.aIS:uF iJ.T6.2 iJ.B6=true:=by kernel_rfl
def iJ.T9:Bool × List (List Nat × List Nat):=(true,[([],[]),([],[]),([1],[1]),([],[]),([],[]),([4],[4]),([3,5],[3,5]),([6],[6]),([7],[7]),([],[]),([9],[9]),([10],[10]),([8,11],[8,11]),([0,2,0,1,2,3,4,5,6,7,8,9,10,11,12],[0,2]),([13,12,0,1,2,3,4,5,6,7,8,9,10,11,12],[12,13])])
def iJ.B9:List Nat:=[0,0,2,0,0,16,56,120,248,0,512,1536,4088,8191,16383]
theorem iJ.aAB:Ap .any (opsOf Try.f88 9)=iJ.T9:=by kernel_rfl
theorem iJ.QY:uF iJ.T9.2 iJ.B9=true:=by kernel_rfl
set_option maxHeartbeats 8000000 in
set_option maxRecDepth 100000 in
theorem iJ.calls (k:Nat) (P0_:Nat→Prop) (XC:Value) (l0:List Int) (bY:Int) (jO:Int) (qK:Int) (BC:Bool) (a2:Int) (r:List Int) (w0 w:World) (hB:Below w0.heap.size w0 w) (ho0:Kd.R (Kd.int .u8) 5 w w0.heap.size P0_ XC l0) (h:iJ.f k l0 bY jO qK BC a2=some r) :
  Calls Try.prog 88 #[XC,.agg #[.int .i64 bY,.int .i64 jO,.int .i64 qK,.bool BC],.int .i64 a2] w fun e w'=>e=.returned (.tuple #[])∧Kd.R (Kd.int .u8) 5 w' w0.heap.size (fun k_=>(P0_ k_∨w.heap.size≤k_)) XC r∧Below w0.heap.size w0 w'∧Kept w w' (fun k_=>P0_ k_):=by
 have aBO:=Try.underlying124
 have QM:=aA.mk (show Kd.R (Kd.int .u8) 5 w w0.heap.size (fun k_=>(P0_ k_∨w.heap.size≤k_)) XC l0 from Kd.dX ho0 (fun k_ hk=>(.inl hk)))
 have HK:=aA.mk (Kept.refl w (fun k_=>P0_ k_))
 have HW0:=aA.mk hB.size
 have HB:=aA.mk hB
 clear hB
 have H:(if qK>0 then (iJ.l0 k l0 a2 qK 0 bY jO qK BC) else (if BC=true then (if 0≤jO then (if jO<(l0.length:Int) then (some (l0.set (jO:Int).toNat (Go.bits .or .u8 (Go.bits .and .u8 (rd l0 jO) 15) ((wrap64 (a2*16))%256)))) else (none)) else (none)) else (if 0≤jO then (if jO<(l0.length:Int) then (some (l0.set (jO:Int).toNat (Go.bits .or .u8 (Go.bits .and .u8 (rd l0 jO) 240) ((a2)%256)))) else (none)) else (none))))=some r:=h
 clear h
 by_cases c4:qK>0
 ·rw [if_pos c4] at H
  have Jz:decide (0<qK)=true:=fB c4
  clear c4
  have H':=aA.mk H
  clear H
  go_enter Try.func88,Try.ntmps88
  go_wp2_with (first|((with_reducible refine dH (N:=4) rfl ?_);refine dB ?hg (N:=4) ?hd (cs:=#[.int .i64 bY,.int .i64 jO,.int .i64 qK,.bool BC]) (t:=124) ?hr ?_;(case hd=>rfl);(case hg=>rfl);(case hr=>first|(go_simp;done)|(go_simp;rfl));intro kC hg w5 hbox hb;have bT:=aA.mk (Kd.dI (bH QM.out) hb);have bW:=aA.mk (Kept.below (S:=(fun k_=>P0_ k_)) (by repeat (first|(with_reducible first|exact HK.out|apply Kept.alloc|apply Kept.drewN|apply Kept.drew)|exact HK.out)) hb);have dA:=aA.mk (aT (dG HB.out) hb);have dN:=aA.mk (hbox);have eY:=aA.mk ((by rw [hg];exact (by first|exact HK.out.1|exact (show Kept w _ (fun k_=>P0_ k_) from by repeat (first|(with_reducible first|exact HK.out|apply Kept.alloc|apply Kept.drewN|apply Kept.drew)|exact HK.out)).1):w.heap.size≤kC));have fV:=aA.mk ((by rw [hg];exact (aN (dG HB.out)):w0.heap.size≤kC));clear QM HK HB;have QM:=bT;have HK:=bW;have HB:=dA;have iV:=dN;have Qk:=eY;have wX:=fV;clear bT bW dA dN eY fV;clear hb hbox hg;have aAt:w5.cell? ⟨kC,0,none⟩=some (.int .i64 bY):=(aC iV.out 0).trans rfl;have aAu:w5.cell? ⟨kC,1,none⟩=some (.int .i64 jO):=(aC iV.out 1).trans rfl;have aDq:w5.cell? ⟨kC,2,none⟩=some (.int .i64 qK):=(aC iV.out 2).trans rfl;have bED:w5.cell? ⟨kC,3,none⟩=some (.bool BC):=(aC iV.out 3).trans rfl;have aAv:=aG iV.out 0;have aAw:=aG iV.out 1;have aDr:=aG iV.out 2;have bEE:=aG iV.out 3))
  go_loopg [26] k (fun kq v26 w'=>∃ (TS:List Int) (DF:Int),v26=.int .i64 DF∧aA (iJ.l0 kq TS a2 qK DF bY jO qK BC=some r)∧aA (kq≤k)∧aA (Kd.R (Kd.int .u8) 5 w' w0.heap.size (fun k_=>(P0_ k_∨w.heap.size≤k_)) XC TS)∧aA (w'.heap[kC]?=some (.cells #[.int .i64 bY,.int .i64 jO,.int .i64 qK,.bool BC] 124 (0,0)))∧aA (Kept w w' (fun k_=>P0_ k_))∧aA (Below w0.heap.size w0 w'))
  case atStart=>exact ⟨(l0),(0),gV,H',⟨Nat.le_refl _⟩,⟨by refine bH ?_;exact QM.out⟩,⟨by refine aH ?_;exact iV.out⟩,⟨by repeat (first|(with_reducible first|exact HK.out|apply Kept.alloc|apply Kept.drewN|apply Kept.drew|refine Kept.setCell ?_ (.inr Qk.out) _)|exact HK.out)⟩,⟨bV HB.out wX.out⟩⟩
  case round =>
   clear H';obtain ⟨TS,DF,rfl,HA,wU,Zj,iV,HK,HB⟩:=hrel
   cases gk with
   | zero=>exact absurd HA.out (by simp [iJ.l0])
   | succ k1 =>
    have H:=HA.out;clear HA;simp only [iJ.l0] at H
    by_cases c7:DF<qK
    ·rw [if_pos c7] at H;have EJ:decide (DF<qK)=true:=fB c7;clear c7;obtain ⟨ji8,aQT⟩:∃ j_:Int,(wrap64 (8*DF))=j_:=⟨_,rfl⟩
     replace H:(if 0≤(ji8) then (if 0≤(wrap64 (jO+DF)) then (if (wrap64 (jO+DF))<(TS.length:Int) then (iJ.l0 k1 (TS.set ((wrap64 (jO+DF)):Int).toNat ((shr .i64 a2 (ji8))%256)) a2 qK (wrap64 (DF+1)) bY jO qK BC) else (none)) else (none)) else (none))=some r:=by first|(rw [aQT] at H;exact H)|(simp only [aQT] at H ⊢;exact H)
     have bIu:(IntKind.i64.wrap (8*DF))=ji8:=(nX _).trans aQT
     by_cases c9:0≤(ji8)
     ·rw [if_pos c9] at H;have aBP:=eq_true c9;have aIT:decide (0≤(ji8))=true:=fB c9;clear c9;obtain ⟨aHp,aE7⟩:∃ j_:Int,(shr .i64 a2 (ji8))=j_:=⟨_,rfl⟩
      replace H:(if 0≤(wrap64 (jO+DF)) then (if (wrap64 (jO+DF))<(TS.length:Int) then (iJ.l0 k1 (TS.set ((wrap64 (jO+DF)):Int).toNat ((aHp)%256)) a2 qK (wrap64 (DF+1)) bY jO qK BC) else (none)) else (none))=some r:=by first|(rw [aE7] at H;exact H)|(simp only [aE7] at H ⊢;exact H)
      have bEF:(a2 / 2 ^ min (ji8).toNat 64)=aHp:=aE7;have bEG:(ji8)≤64→(a2 / 2 ^ (ji8).toNat)=aHp:=aHq aE7;obtain ⟨TT,aIU⟩:∃ j_:Int,(wrap64 (jO+DF))=j_:=⟨_,rfl⟩
      replace H:(if 0≤(TT) then (if (TT)<(TS.length:Int) then (iJ.l0 k1 (TS.set ((TT):Int).toNat ((aHp)%256)) a2 qK (wrap64 (DF+1)) bY jO qK BC) else (none)) else (none))=some r:=by first|(rw [aIU] at H;exact H)|(simp only [aIU] at H ⊢;exact H)
      have bEH:(IntKind.i64.wrap (jO+DF))=TT:=(nX _).trans aIU
      by_cases c12:0≤(TT)
      ·rw [if_pos c12] at H;have Jg:decide (0≤(TT))=true:=fB c12;clear c12
       by_cases c13:(TT)<(TS.length:Int)
       ·rw [if_pos c13] at H;have Vd:decide ((TT)<(TS.length:Int))=true:=fB c13;clear c13;obtain ⟨aUE,aBQ⟩:∃ y_:List Int,y_=(TS.set ((TT):Int).toNat ((aHp)%256)):=⟨_,rfl⟩
        replace H:(iJ.l0 k1 aUE a2 qK (wrap64 (DF+1)) bY jO qK BC)=some r:=by first|(rw [aBQ];with_reducible exact H)|(have qY:=(Option.bind_some _ _).symm.trans H;rw [aBQ];with_reducible exact qY)|(have qY:=(Option.bind_some _ _).symm.trans H;with_reducible exact qY)|with_reducible exact H|(rw [aBQ];exact H)|exact H
        have aUF:=aA.mk aBQ;clear aBQ;have H':=aA.mk H;clear H
        try go_wp2
        have bT:=aA.mk (Kd.qG Zj.out);have bW:=aA.mk (dY iV.out);have dA:=aA.mk (Kept.drew HK.out);have dN:=aA.mk (fZ HB.out);clear Zj;clear iV;clear HK;clear HB;have Zj:=bT;have iV:=bW;have HK:=dA;have HB:=dN;clear bT bW dA dN;have p14:0≤((TT):Int):=dU dW;have q14:((TT):Int)<((TS.length:Int):Int):=dU dW;obtain ⟨aUG,bKR,aUH,aUI,bEI,bKS,aUJ⟩:=Kd.Qx Zj.out (by omega)
        (first|cases aUH|(injection aUH with KA en_ ec_;(first|subst KA|(injection KA with KA;subst KA));subst ec_;clear en_))
        have bEJ:=aA.mk aUI;have bEK:=aA.mk aUJ;clear aUI bEI aUJ;have aQU:=aA.mk (show (P0_ aUG∨w.heap.size≤aUG) from (Zj.out.1 _ rfl));obtain ⟨aQV,aQW⟩:=Kd.ES 0 Zj.out ((TT):Int) p14 q14;replace p14:=eq_true p14;replace q14:=eq_true q14;have aQX:=Kd.XD Zj.out ((TT):Int) ((aHp)%256);rw [← aUF.out] at aQX;have aUK:=aA.mk aQX;clear aQX;refine qZ (n:=12) (S:=fun w'=>w'.cell? ⟨kC,0,none⟩=some (.int .i64 bY)∧w'.cell? ⟨kC,1,none⟩=some (.int .i64 jO)∧w'.cell? ⟨kC,2,none⟩=some (.int .i64 qK)∧w'.cell? ⟨kC,3,none⟩=some (.bool BC)) (ds:=[11]) #[false,false,false,false,false,false,false,false,false,false,false,false] aQ rfl rfl ⟨(aC iV.out 0).trans rfl,(aC iV.out 1).trans rfl,(aC iV.out 2).trans rfl,(aC iV.out 3).trans rfl⟩ (fun hHeld=>?_);refine nK iJ.tab6 iJ.aIS (fun gG zQ=>?_);generalize wr.drew=w15 at Zj iV HK HB bEK aUK aQW aQV hHeld ⊢;refine bQ (i:=0) (N:=some 29) (v:=?_) (a':=?_) #[true,false,false,false,false,false,false,false,false,false,false,false] rfl rfl (bP gG.out aQ) (fun _ _ _ h=>h) (bG ?_) ?_ ?_;rotate_left
        ·intro w';go_simp;with_reducible rfl
        rotate_left
        ·simp only [Act.put,aX];rfl
        refine bQ (i:=1) (N:=some 30) (v:=?_) (a':=?_) #[true,true,false,false,false,false,false,false,false,false,false,false] rfl rfl (bP gG.out aQ) (fun _ _ _ h=>h) (bG ?_) ?_ ?_;rotate_left
        ·intro w';go_simp;with_reducible rfl
        rotate_left
        ·simp only [Act.put,aX];rfl
        refine bQ (i:=3) (N:=some 32) (v:=?_) (a':=?_) #[true,true,false,true,false,false,false,false,false,false,false,false] rfl rfl (bP gG.out aQ) (fun _ _ _ h=>h) (bG ?_) ?_ ?_;rotate_left
        ·intro w';go_simp;with_reducible rfl
        rotate_left
        ·simp only [Act.put,aX];rfl
        refine bQ (i:=5) (N:=some 34) (v:=?_) (a':=?_) #[true,true,false,true,false,true,false,false,false,false,false,false] rfl rfl (bP gG.out aQ) (fun _ _ _ h=>h) (bG ?_) ?_ ?_;rotate_left
        ·intro w';go_simp;with_reducible rfl
        rotate_left
        ·simp only [Act.put,aX];rfl
        refine bQ (i:=6) (N:=some 35) (v:=?_) (a':=?_) #[true,true,false,true,false,true,true,false,false,false,false,false] rfl rfl (bP gG.out aQ) (fun _ _ _ h=>h) (bG ?_) ?_ ?_;rotate_left
        ·intro w';go_simp;with_reducible rfl
        rotate_left
        ·simp only [Act.put,aX];rfl
        refine bQ (i:=7) (N:=some 36) (v:=?_) (a':=?_) #[true,true,false,true,false,true,true,true,false,false,false,false] rfl rfl (bP gG.out aQ) (fun _ _ _ h=>h) (bG ?_) ?_ ?_;rotate_left
        ·intro w';go_simp;with_reducible rfl
        rotate_left
        ·simp only [Act.put,aX];rfl
        refine bQ (i:=8) (N:=some 37) (v:=?_) (a':=?_) #[true,true,false,true,false,true,true,true,true,false,false,false] rfl rfl (bP gG.out aQ) (fun _ _ _ h=>h) (bG ?_) ?_ ?_;rotate_left
        ·intro w';go_simp;with_reducible rfl
        rotate_left
        ·simp only [Act.put,aX];rfl
        refine bQ (i:=9) (N:=some 38) (v:=?_) (a':=?_) #[true,true,false,true,false,true,true,true,true,true,false,false] rfl rfl (bP gG.out aQ) (fun _ _ _ h=>h) (bG ?_) ?_ ?_;rotate_left
        ·intro w';go_simp;with_reducible rfl
        rotate_left
        ·simp only [Act.put,aX];rfl
        refine iQ (i:=2) (N:=some 31) (v:=?_) (a':=?_) #[true,true,true,true,false,true,true,true,true,true,false,false] rfl rfl (iH gG.out zQ.out aQ) (fun _ _ _ h=>h) (bG ?_) hHeld ?_ ?_;rotate_left
        ·rintro w' ⟨s0,s1,s2,s3⟩;go_simp;with_reducible rfl
        rotate_left
        ·simp only [Act.put,aX];rfl
        refine bQ (i:=4) (N:=some 33) (v:=?_) (a':=?_) #[true,true,true,true,true,true,true,true,true,true,false,false] rfl rfl (bP gG.out aQ) (fun _ _ _ h=>h) (bG ?_) ?_ ?_;rotate_left
        ·intro w';go_simp;with_reducible rfl
        rotate_left
        ·simp only [Act.put,aX];rfl
        refine bQ (i:=10) (N:=some 39) (v:=?_) (a':=?_) #[true,true,true,true,true,true,true,true,true,true,true,false] rfl rfl (bP gG.out aQ) (fun _ _ _ h=>h) (bG ?_) ?_ ?_;rotate_left
        ·intro w';go_simp;with_reducible rfl
        rotate_left
        ·simp only [Act.put,aX];rfl
        refine NP (i:=11) (N:=none) #[true,true,true,true,true,true,true,true,true,true,true,true] rfl rfl (qH gG.out aQ) (by decide) (fun K hK=>?_);refine BP (w1:=?_) (by rfl) rfl ?_ ?_;rotate_left
        ·go_simp;rfl
        refine hK.out _ _ ?_;clear hK K;refine sG (sH gG.out aQ) ?_
        try go_wp2
        go_roundg k1
        case measure=>have:=wU.out;omega
        case rel=>exact ⟨(aUE),(wrap64 (DF+1)),gV,H',⟨by have:=wU.out;omega⟩,⟨by refine bH ?_;exact aUK.out⟩,⟨by refine aH ?_;refine aU ?_ (by have h_:=Kd.AO Zj.out iV.out (by decide);intro e_;exact h_ (by rw [e_];rfl)) _;refine aH ?_;exact iV.out⟩,⟨by repeat (first|(with_reducible first|exact HK.out|apply Kept.alloc|apply Kept.drewN|apply Kept.drew|refine Kept.setCell ?_ aQU.out _|refine Kept.setCell ?_ (.inr Qk.out) _)|exact HK.out)⟩,⟨dK HB.out bEJ.out wX.out⟩⟩
       ·rw [if_neg c13] at H;exact absurd H (by simp)
      ·rw [if_neg c12] at H;exact absurd H (by simp)
     ·rw [if_neg c9] at H;exact absurd H (by simp)
    ·rw [if_neg c7] at H;have EJ:decide (DF<qK)=false:=kT c7;clear c7;obtain rfl:=Option.some.inj H
     go_wp2
     first|go_end0|((try simp only [Exit.inBlock,Exit.then]);refine bodyPost_ret (results_none rfl _ _ _) rfl ?_)
     exact ⟨by first|rfl|(simp [bK,bM] <;> rfl)|(simp [*,bK,bM] <;> rfl),by refine bH ?_;exact Zj.out,bV HB.out wX.out,by repeat (first|(with_reducible first|exact HK.out|apply Kept.alloc|apply Kept.drewN|apply Kept.drew|refine Kept.setCell ?_ (.inr Qk.out) _)|exact HK.out)⟩
 ·rw [if_neg c4] at H
  have Jz:decide (0<qK)=false:=kT c4
  clear c4
  by_cases c17:BC=true
  ·subst c17;have H1:(if 0≤jO then (if jO<(l0.length:Int) then (some (l0.set (jO:Int).toNat (Go.bits .or .u8 (Go.bits .and .u8 (rd l0 jO) 15) ((wrap64 (a2*16))%256)))) else (none)) else (none))=some r:=by rw [if_pos rfl] at H;exact H
   clear H;have H:=H1;clear H1
   by_cases c18:0≤jO
   ·rw [if_pos c18] at H;have QZ:decide (0≤jO)=true:=fB c18;clear c18
    by_cases c19:jO<(l0.length:Int)
    ·rw [if_pos c19] at H;have KC:decide (jO<(l0.length:Int))=true:=fB c19;clear c19;obtain ⟨bEL,aBR⟩:∃ y_:List Int,y_=(l0.set (jO:Int).toNat (Go.bits .or .u8 (Go.bits .and .u8 (rd l0 jO) 15) ((wrap64 (a2*16))%256))):=⟨_,rfl⟩
     replace H:(some bEL)=some r:=by first|(rw [aBR];with_reducible exact H)|(have qY:=(Option.bind_some _ _).symm.trans H;rw [aBR];with_reducible exact qY)|(have qY:=(Option.bind_some _ _).symm.trans H;with_reducible exact qY)|with_reducible exact H|(rw [aBR];exact H)|exact H
     have aUL:=aA.mk aBR;clear aBR;obtain rfl:=Option.some.inj H
     go_enter Try.func88,Try.ntmps88
     try go_wp2_with (first|((with_reducible refine dH (N:=4) rfl ?_);refine dB ?hg (N:=4) ?hd (cs:=#[.int .i64 bY,.int .i64 jO,.int .i64 qK,.bool true]) (t:=124) ?hr ?_;(case hd=>rfl);(case hg=>rfl);(case hr=>first|(go_simp;done)|(go_simp;rfl));intro kC hg Rf hbox hb;have bT:=aA.mk (Kd.dI (bH QM.out) hb);have bW:=aA.mk (Kept.below (S:=(fun k_=>P0_ k_)) (by repeat (first|(with_reducible first|exact HK.out|apply Kept.alloc|apply Kept.drewN|apply Kept.drew)|exact HK.out)) hb);have dA:=aA.mk (aT (dG HB.out) hb);have dN:=aA.mk (hbox);have eY:=aA.mk ((by rw [hg];exact (by first|exact HK.out.1|exact (show Kept w _ (fun k_=>P0_ k_) from by repeat (first|(with_reducible first|exact HK.out|apply Kept.alloc|apply Kept.drewN|apply Kept.drew)|exact HK.out)).1):w.heap.size≤kC));have fV:=aA.mk ((by rw [hg];exact (aN (dG HB.out)):w0.heap.size≤kC));clear QM HK HB;have QM:=bT;have HK:=bW;have HB:=dA;have iV:=dN;have Qk:=eY;have wX:=fV;clear bT bW dA dN eY fV;clear hb hbox hg;have bAN:Rf.cell? ⟨kC,0,none⟩=some (.int .i64 bY):=(aC iV.out 0).trans rfl;have bAO:Rf.cell? ⟨kC,1,none⟩=some (.int .i64 jO):=(aC iV.out 1).trans rfl;have bAP:Rf.cell? ⟨kC,2,none⟩=some (.int .i64 qK):=(aC iV.out 2).trans rfl;have bAQ:Rf.cell? ⟨kC,3,none⟩=some (.bool true):=(aC iV.out 3).trans rfl;have bAR:=aG iV.out 0;have bAS:=aG iV.out 1;have bAT:=aG iV.out 2;have bAU:=aG iV.out 3))
     have bT:=aA.mk (Kd.qG QM.out);have bW:=aA.mk (dY iV.out);have dA:=aA.mk (Kept.drew HK.out);have dN:=aA.mk (fZ HB.out);clear QM;clear iV;clear HK;clear HB;have QM:=bT;have iV:=bW;have HK:=dA;have HB:=dN;clear bT bW dA dN;obtain ⟨bKT,bKU,aUM⟩:=Kd.iK QM.out
     (first|subst aUM|(injection aUM with Hl NQ Ho;have NR:=Hl.symm;have NS:=Ho.symm;clear Hl NQ Ho;subst NR;subst NS))
     have aQY:0≤(jO:Int):=dU dW;have aQZ:jO<(l0.length:Int):=dU dW;obtain ⟨bIv,bEM,aAC⟩:=Kd.jJ (Kd.fM QM.out).2.2 jO aQY aQZ
     cases bEM
     replace aQY:=eq_true aQY;replace aQZ:=eq_true aQZ;have p20:0≤(jO:Int):=dU dW;have q20:(jO:Int)<((l0.length:Int):Int):=dU dW;obtain ⟨aQ0,aL0,aL1,aUN,bEN,bKV,aUO⟩:=Kd.Qx QM.out (by omega)
     (first|cases aL1|(injection aL1 with KA en_ ec_;(first|subst KA|(injection KA with KA;subst KA));subst ec_;clear en_))
     have bEO:=aA.mk aUN;have bEP:=aA.mk aUO;clear aUN bEN aUO;have aQ1:=aA.mk (show (P0_ aQ0∨w.heap.size≤aQ0) from (QM.out.1 _ rfl))
     (first|simp only [add_plain] at aAC|skip)
     obtain ⟨aQ2,aQ3⟩:=Kd.ES 0 QM.out (jO:Int) p20 q20;replace p20:=eq_true p20;replace q20:=eq_true q20;have aQ4:=Kd.XD QM.out (jO:Int) (Go.bits .or .u8 (Go.bits .and .u8 (rd l0 jO) 15) ((wrap64 (a2*16))%256));rw [← aUL.out] at aQ4;have aUP:=aA.mk aQ4;clear aQ4;refine qZ (n:=15) (S:=fun w'=>w'.cell? ⟨kC,0,none⟩=some (.int .i64 bY)∧w'.cell? ⟨kC,1,none⟩=some (.int .i64 jO)∧w'.cell? ⟨kC,2,none⟩=some (.int .i64 qK)∧w'.cell? ⟨kC,3,none⟩=some (.bool true)∧w'.cell? ⟨aQ0,(jO).toNat,none⟩=some (.int .u8 (rd l0 jO))) (ds:=[14]) #[false,false,false,false,false,false,false,false,false,false,false,false,false,false,false] aQ rfl rfl ⟨(aC iV.out 0).trans rfl,(aC iV.out 1).trans rfl,(aC iV.out 2).trans rfl,(aC iV.out 3).trans rfl,aAC⟩ (fun hHeld=>?_);refine nK iJ.aAB iJ.QY (fun gG zQ=>?_);generalize Rf.drew=w23 at QM iV HK HB bEP aUP aQ3 aQ2 aAC hHeld ⊢;refine bQ (i:=0) (N:=some 44) (v:=?_) (a':=?_) #[true,false,false,false,false,false,false,false,false,false,false,false,false,false,false] rfl rfl (bP gG.out aQ) (fun _ _ _ h=>h) (bG ?_) ?_ ?_;rotate_left
     ·intro w';go_simp;with_reducible rfl
     rotate_left
     ·simp only [Act.put,aX];rfl
     refine bQ (i:=1) (N:=some 45) (v:=?_) (a':=?_) #[true,true,false,false,false,false,false,false,false,false,false,false,false,false,false] rfl rfl (bP gG.out aQ) (fun _ _ _ h=>h) (bG ?_) ?_ ?_;rotate_left
     ·intro w';go_simp;with_reducible rfl
     rotate_left
     ·simp only [Act.put,aX];rfl
     refine bQ (i:=3) (N:=some 47) (v:=?_) (a':=?_) #[true,true,false,true,false,false,false,false,false,false,false,false,false,false,false] rfl rfl (bP gG.out aQ) (fun _ _ _ h=>h) (bG ?_) ?_ ?_;rotate_left
     ·intro w';go_simp;with_reducible rfl
     rotate_left
     ·simp only [Act.put,aX];rfl
     refine bQ (i:=4) (N:=some 48) (v:=?_) (a':=?_) #[true,true,false,true,true,false,false,false,false,false,false,false,false,false,false] rfl rfl (bP gG.out aQ) (fun _ _ _ h=>h) (bG ?_) ?_ ?_;rotate_left
     ·intro w';go_simp;with_reducible rfl
     rotate_left
     ·simp only [Act.put,aX];rfl
     refine bQ (i:=9) (N:=some 53) (v:=?_) (a':=?_) #[true,true,false,true,true,false,false,false,false,true,false,false,false,false,false] rfl rfl (bP gG.out aQ) (fun _ _ _ h=>h) (bG ?_) ?_ ?_;rotate_left
     ·intro w';go_simp;with_reducible rfl
     rotate_left
     ·simp only [Act.put,aX];rfl
     refine bQ (i:=10) (N:=some 54) (v:=?_) (a':=?_) #[true,true,false,true,true,false,false,false,false,true,true,false,false,false,false] rfl rfl (bP gG.out aQ) (fun _ _ _ h=>h) (bG ?_) ?_ ?_;rotate_left
     ·intro w';go_simp;with_reducible rfl
     rotate_left
     ·simp only [Act.put,aX];rfl
     refine bQ (i:=11) (N:=some 55) (v:=?_) (a':=?_) #[true,true,false,true,true,false,false,false,false,true,true,true,false,false,false] rfl rfl (bP gG.out aQ) (fun _ _ _ h=>h) (bG ?_) ?_ ?_;rotate_left
     ·intro w';go_simp;with_reducible rfl
     rotate_left
     ·simp only [Act.put,aX];rfl
     refine iQ (i:=2) (N:=some 46) (v:=?_) (a':=?_) #[true,true,true,true,true,false,false,false,false,true,true,true,false,false,false] rfl rfl (iH gG.out zQ.out aQ) (fun _ _ _ h=>h) (bG ?_) hHeld ?_ ?_;rotate_left
     ·rintro w' ⟨s0,s1,s2,s3,s4⟩;go_simp;with_reducible rfl
     rotate_left
     ·simp only [Act.put,aX];rfl
     refine iQ (i:=5) (N:=some 49) (v:=?_) (a':=?_) #[true,true,true,true,true,true,false,false,false,true,true,true,false,false,false] rfl rfl (iH gG.out zQ.out aQ) (fun _ _ _ h=>h) (bG ?_) hHeld ?_ ?_;rotate_left
     ·rintro w' ⟨s0,s1,s2,s3,s4⟩;go_simp;with_reducible rfl
     rotate_left
     ·simp only [Act.put,aX];rfl
     refine bQ (i:=6) (N:=some 50) (v:=?_) (a':=?_) #[true,true,true,true,true,true,true,false,false,true,true,true,false,false,false] rfl rfl (bP gG.out aQ) (fun _ _ _ h=>h) (bG ?_) ?_ ?_;rotate_left
     ·intro w';go_simp;with_reducible rfl
     rotate_left
     ·simp only [Act.put,aX];rfl
     refine iQ (i:=7) (N:=some 51) (v:=?_) (a':=?_) #[true,true,true,true,true,true,true,true,false,true,true,true,false,false,false] rfl rfl (iH gG.out zQ.out aQ) (fun _ _ _ h=>h) (bG ?_) hHeld ?_ ?_;rotate_left
     ·rintro w' ⟨s0,s1,s2,s3,s4⟩;go_simp;with_reducible rfl
     rotate_left
     ·simp only [Act.put,aX];rfl
     refine bQ (i:=8) (N:=some 52) (v:=?_) (a':=?_) #[true,true,true,true,true,true,true,true,true,true,true,true,false,false,false] rfl rfl (bP gG.out aQ) (fun _ _ _ h=>h) (bG ?_) ?_ ?_;rotate_left
     ·intro w';go_simp;with_reducible rfl
     rotate_left
     ·simp only [Act.put,aX];rfl
     refine bQ (i:=12) (N:=some 56) (v:=?_) (a':=?_) #[true,true,true,true,true,true,true,true,true,true,true,true,true,false,false] rfl rfl (bP gG.out aQ) (fun _ _ _ h=>h) (bG ?_) ?_ ?_;rotate_left
     ·intro w';go_simp;with_reducible rfl
     rotate_left
     ·simp only [Act.put,aX];rfl
     refine bQ (i:=13) (N:=some 57) (v:=?_) (a':=?_) #[true,true,true,true,true,true,true,true,true,true,true,true,true,true,false] rfl rfl (bP gG.out aQ) (fun _ _ _ h=>h) (bG ?_) ?_ ?_;rotate_left
     ·intro w';go_simp;with_reducible rfl
     rotate_left
     ·simp only [Act.put,aX];rfl
     refine NP (i:=14) (N:=none) #[true,true,true,true,true,true,true,true,true,true,true,true,true,true,true] rfl rfl (qH gG.out aQ) (by decide) (fun K hK=>?_);refine BP (w1:=?_) (by rfl) rfl ?_ ?_;rotate_left
     ·go_simp;rfl
     refine hK.out _ _ ?_;clear hK K;refine sG (sH gG.out aQ) ?_
     try go_wp2
     first|go_end0|((try simp only [Exit.inBlock,Exit.then]);refine bodyPost_ret (results_none rfl _ _ _) rfl ?_)
     exact ⟨by first|rfl|(simp [bK,bM] <;> rfl)|(simp [*,bK,bM] <;> rfl),by refine bH ?_;exact aUP.out,dK HB.out bEO.out wX.out,by repeat (first|(with_reducible first|exact HK.out|apply Kept.alloc|apply Kept.drewN|apply Kept.drew|refine Kept.setCell ?_ aQ1.out _|refine Kept.setCell ?_ (.inr Qk.out) _)|exact HK.out)⟩
    ·rw [if_neg c19] at H;exact absurd H (by simp)
   ·rw [if_neg c18] at H;exact absurd H (by simp)
  ·replace c17:=Bool.eq_false_iff.mpr c17;subst c17;have H1:(if 0≤jO then (if jO<(l0.length:Int) then (some (l0.set (jO:Int).toNat (Go.bits .or .u8 (Go.bits .and .u8 (rd l0 jO) 240) ((a2)%256)))) else (none)) else (none))=some r:=by rw [if_neg (show ¬ (false=true) by decide)] at H;exact H
   clear H;have H:=H1;clear H1
   by_cases WI:0≤jO
   ·rw [if_pos WI] at H;have Rh:decide (0≤jO)=true:=fB WI;clear WI
    by_cases TU:jO<(l0.length:Int)
    ·rw [if_pos TU] at H;have aE8:decide (jO<(l0.length:Int))=true:=fB TU;clear TU;obtain ⟨bEQ,aBS⟩:∃ y_:List Int,y_=(l0.set (jO:Int).toNat (Go.bits .or .u8 (Go.bits .and .u8 (rd l0 jO) 240) ((a2)%256))):=⟨_,rfl⟩
     replace H:(some bEQ)=some r:=by first|(rw [aBS];with_reducible exact H)|(have qY:=(Option.bind_some _ _).symm.trans H;rw [aBS];with_reducible exact qY)|(have qY:=(Option.bind_some _ _).symm.trans H;with_reducible exact qY)|with_reducible exact H|(rw [aBS];exact H)|exact H
     have aUQ:=aA.mk aBS;clear aBS;obtain rfl:=Option.some.inj H
     go_enter Try.func88,Try.ntmps88
     try go_wp2_with (first|((with_reducible refine dH (N:=4) rfl ?_);refine dB ?hg (N:=4) ?hd (cs:=#[.int .i64 bY,.int .i64 jO,.int .i64 qK,.bool false]) (t:=124) ?hr ?_;(case hd=>rfl);(case hg=>rfl);(case hr=>first|(go_simp;done)|(go_simp;rfl));intro kC hg w29 hbox hb;have bT:=aA.mk (Kd.dI (bH QM.out) hb);have bW:=aA.mk (Kept.below (S:=(fun k_=>P0_ k_)) (by repeat (first|(with_reducible first|exact HK.out|apply Kept.alloc|apply Kept.drewN|apply Kept.drew)|exact HK.out)) hb);have dA:=aA.mk (aT (dG HB.out) hb);have dN:=aA.mk (hbox);have eY:=aA.mk ((by rw [hg];exact (by first|exact HK.out.1|exact (show Kept w _ (fun k_=>P0_ k_) from by repeat (first|(with_reducible first|exact HK.out|apply Kept.alloc|apply Kept.drewN|apply Kept.drew)|exact HK.out)).1):w.heap.size≤kC));have fV:=aA.mk ((by rw [hg];exact (aN (dG HB.out)):w0.heap.size≤kC));clear QM HK HB;have QM:=bT;have HK:=bW;have HB:=dA;have iV:=dN;have Qk:=eY;have wX:=fV;clear bT bW dA dN eY fV;clear hb hbox hg;have WJ:w29.cell? ⟨kC,0,none⟩=some (.int .i64 bY):=(aC iV.out 0).trans rfl;have WL:w29.cell? ⟨kC,1,none⟩=some (.int .i64 jO):=(aC iV.out 1).trans rfl;have aE9:w29.cell? ⟨kC,2,none⟩=some (.int .i64 qK):=(aC iV.out 2).trans rfl;have aL2:w29.cell? ⟨kC,3,none⟩=some (.bool false):=(aC iV.out 3).trans rfl;have WM:=aG iV.out 0;have WN:=aG iV.out 1;have aE_:=aG iV.out 2;have aL3:=aG iV.out 3))
     have bT:=aA.mk (Kd.qG QM.out);have bW:=aA.mk (dY iV.out);have dA:=aA.mk (Kept.drew HK.out);have dN:=aA.mk (fZ HB.out);clear QM;clear iV;clear HK;clear HB;have QM:=bT;have iV:=bW;have HK:=dA;have HB:=dN;clear bT bW dA dN;obtain ⟨bKW,bKX,aUR⟩:=Kd.iK QM.out
     (first|subst aUR|(injection aUR with Hl NQ Ho;have NR:=Hl.symm;have NS:=Ho.symm;clear Hl NQ Ho;subst NR;subst NS))
     have aQ5:0≤(jO:Int):=dU dW;have aQ6:jO<(l0.length:Int):=dU dW;obtain ⟨bIw,bER,aAD⟩:=Kd.jJ (Kd.fM QM.out).2.2 jO aQ5 aQ6
     cases bER
     replace aQ5:=eq_true aQ5;replace aQ6:=eq_true aQ6;have p28:0≤(jO:Int):=dU dW;have q28:(jO:Int)<((l0.length:Int):Int):=dU dW;obtain ⟨aQ7,aL4,aHr,aUS,bES,bKY,aUT⟩:=Kd.Qx QM.out (by omega)
     (first|cases aHr|(injection aHr with KA en_ ec_;(first|subst KA|(injection KA with KA;subst KA));subst ec_;clear en_))
     have bET:=aA.mk aUS;have bEU:=aA.mk aUT;clear aUS bES aUT;have aQ8:=aA.mk (show (P0_ aQ7∨w.heap.size≤aQ7) from (QM.out.1 _ rfl))
     (first|simp only [add_plain] at aAD|skip)
     obtain ⟨aQ9,aQ_⟩:=Kd.ES 0 QM.out (jO:Int) p28 q28;replace p28:=eq_true p28;replace q28:=eq_true q28;have aRa:=Kd.XD QM.out (jO:Int) (Go.bits .or .u8 (Go.bits .and .u8 (rd l0 jO) 240) ((a2)%256));rw [← aUQ.out] at aRa;have aUU:=aA.mk aRa;clear aRa;refine qZ (n:=14) (S:=fun w'=>w'.cell? ⟨kC,0,none⟩=some (.int .i64 bY)∧w'.cell? ⟨kC,1,none⟩=some (.int .i64 jO)∧w'.cell? ⟨kC,2,none⟩=some (.int .i64 qK)∧w'.cell? ⟨kC,3,none⟩=some (.bool false)∧w'.cell? ⟨aQ7,(jO).toNat,none⟩=some (.int .u8 (rd l0 jO))) (ds:=[13]) #[false,false,false,false,false,false,false,false,false,false,false,false,false,false] aQ rfl rfl ⟨(aC iV.out 0).trans rfl,(aC iV.out 1).trans rfl,(aC iV.out 2).trans rfl,(aC iV.out 3).trans rfl,aAD⟩ (fun hHeld=>?_);refine nK iJ.aUC iJ.aUD (fun gG zQ=>?_);generalize w29.drew=w31 at QM iV HK HB bEU aUU aQ_ aQ9 aAD hHeld ⊢;refine bQ (i:=0) (N:=some 7) (v:=?_) (a':=?_) #[true,false,false,false,false,false,false,false,false,false,false,false,false,false] rfl rfl (bP gG.out aQ) (fun _ _ _ h=>h) (bG ?_) ?_ ?_;rotate_left
     ·intro w';go_simp;with_reducible rfl
     rotate_left
     ·simp only [Act.put,aX];rfl
     refine bQ (i:=1) (N:=some 8) (v:=?_) (a':=?_) #[true,true,false,false,false,false,false,false,false,false,false,false,false,false] rfl rfl (bP gG.out aQ) (fun _ _ _ h=>h) (bG ?_) ?_ ?_;rotate_left
     ·intro w';go_simp;with_reducible rfl
     rotate_left
     ·simp only [Act.put,aX];rfl
     refine bQ (i:=3) (N:=some 10) (v:=?_) (a':=?_) #[true,true,false,true,false,false,false,false,false,false,false,false,false,false] rfl rfl (bP gG.out aQ) (fun _ _ _ h=>h) (bG ?_) ?_ ?_;rotate_left
     ·intro w';go_simp;with_reducible rfl
     rotate_left
     ·simp only [Act.put,aX];rfl
     refine bQ (i:=4) (N:=some 11) (v:=?_) (a':=?_) #[true,true,false,true,true,false,false,false,false,false,false,false,false,false] rfl rfl (bP gG.out aQ) (fun _ _ _ h=>h) (bG ?_) ?_ ?_;rotate_left
     ·intro w';go_simp;with_reducible rfl
     rotate_left
     ·simp only [Act.put,aX];rfl
     refine bQ (i:=9) (N:=some 16) (v:=?_) (a':=?_) #[true,true,false,true,true,false,false,false,false,true,false,false,false,false] rfl rfl (bP gG.out aQ) (fun _ _ _ h=>h) (bG ?_) ?_ ?_;rotate_left
     ·intro w';go_simp;with_reducible rfl
     rotate_left
     ·simp only [Act.put,aX];rfl
     refine bQ (i:=10) (N:=some 17) (v:=?_) (a':=?_) #[true,true,false,true,true,false,false,false,false,true,true,false,false,false] rfl rfl (bP gG.out aQ) (fun _ _ _ h=>h) (bG ?_) ?_ ?_;rotate_left
     ·intro w';go_simp;with_reducible rfl
     rotate_left
     ·simp only [Act.put,aX];rfl
     refine iQ (i:=2) (N:=some 9) (v:=?_) (a':=?_) #[true,true,true,true,true,false,false,false,false,true,true,false,false,false] rfl rfl (iH gG.out zQ.out aQ) (fun _ _ _ h=>h) (bG ?_) hHeld ?_ ?_;rotate_left
     ·rintro w' ⟨s0,s1,s2,s3,s4⟩;go_simp;with_reducible rfl
     rotate_left
     ·simp only [Act.put,aX];rfl
     refine iQ (i:=5) (N:=some 12) (v:=?_) (a':=?_) #[true,true,true,true,true,true,false,false,false,true,true,false,false,false] rfl rfl (iH gG.out zQ.out aQ) (fun _ _ _ h=>h) (bG ?_) hHeld ?_ ?_;rotate_left
     ·rintro w' ⟨s0,s1,s2,s3,s4⟩;go_simp;with_reducible rfl
     rotate_left
     ·simp only [Act.put,aX];rfl
     refine bQ (i:=6) (N:=some 13) (v:=?_) (a':=?_) #[true,true,true,true,true,true,true,false,false,true,true,false,false,false] rfl rfl (bP gG.out aQ) (fun _ _ _ h=>h) (bG ?_) ?_ ?_;rotate_left
     ·intro w';go_simp;with_reducible rfl
     rotate_left
     ·simp only [Act.put,aX];rfl
     refine iQ (i:=7) (N:=some 14) (v:=?_) (a':=?_) #[true,true,true,true,true,true,true,true,false,true,true,false,false,false] rfl rfl (iH gG.out zQ.out aQ) (fun _ _ _ h=>h) (bG ?_) hHeld ?_ ?_;rotate_left
     ·rintro w' ⟨s0,s1,s2,s3,s4⟩;go_simp;with_reducible rfl
     rotate_left
     ·simp only [Act.put,aX];rfl
     refine bQ (i:=8) (N:=some 15) (v:=?_) (a':=?_) #[true,true,true,true,true,true,true,true,true,true,true,false,false,false] rfl rfl (bP gG.out aQ) (fun _ _ _ h=>h) (bG ?_) ?_ ?_;rotate_left
     ·intro w';go_simp;with_reducible rfl
     rotate_left
     ·simp only [Act.put,aX];rfl
     refine bQ (i:=11) (N:=some 18) (v:=?_) (a':=?_) #[true,true,true,true,true,true,true,true,true,true,true,true,false,false] rfl rfl (bP gG.out aQ) (fun _ _ _ h=>h) (bG ?_) ?_ ?_;rotate_left
     ·intro w';go_simp;with_reducible rfl
     rotate_left
     ·simp only [Act.put,aX];rfl
     refine bQ (i:=12) (N:=some 19) (v:=?_) (a':=?_) #[true,true,true,true,true,true,true,true,true,true,true,true,true,false] rfl rfl (bP gG.out aQ) (fun _ _ _ h=>h) (bG ?_) ?_ ?_;rotate_left
     ·intro w';go_simp;with_reducible rfl
     rotate_left
     ·simp only [Act.put,aX];rfl
     refine NP (i:=13) (N:=none) #[true,true,true,true,true,true,true,true,true,true,true,true,true,true] rfl rfl (qH gG.out aQ) (by decide) (fun K hK=>?_);refine BP (w1:=?_) (by rfl) rfl ?_ ?_;rotate_left
     ·go_simp;rfl
     refine hK.out _ _ ?_;clear hK K;refine sG (sH gG.out aQ) ?_
     try go_wp2
     first|go_end0|((try simp only [Exit.inBlock,Exit.then]);refine bodyPost_ret (results_none rfl _ _ _) rfl ?_)
     exact ⟨by first|rfl|(simp [bK,bM] <;> rfl)|(simp [*,bK,bM] <;> rfl),by refine bH ?_;exact aUU.out,dK HB.out bET.out wX.out,by repeat (first|(with_reducible first|exact HK.out|apply Kept.alloc|apply Kept.drewN|apply Kept.drew|refine Kept.setCell ?_ aQ8.out _|refine Kept.setCell ?_ (.inr Qk.out) _)|exact HK.out)⟩
    ·rw [if_neg TU] at H;exact absurd H (by simp)
   ·rw [if_neg WI] at H;exact absurd H (by simp)
end Go.Proofs.Ytipjpdiianopcaa.A
