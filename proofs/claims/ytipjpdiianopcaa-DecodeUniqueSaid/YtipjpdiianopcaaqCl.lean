/- Words and contracts for the laws of encode. -/
import Derived.Test.YtipjpdiianopcaaqCd
import Derived.Test.YtipjpdiianopcaaqPv
set_option linter.unusedVariables false
set_option linter.unusedSimpArgs false
namespace Go.Proofs.Ytipjpdiianopcaa.Cl
open Go.RowKit Go.Shelf Go.Proofs.YtipjpdiianopcaaW.dF Go.Proofs.Ytipjpdiianopcaa.A Go.Proofs.Ytipjpdiianopcaa.Pure
attribute [local go_sem] Oper.semAt_some
set_option linter.unusedVariables false
set_option linter.unusedSimpArgs false
structure Fl where
 arg:Int
 off:Int
 bytes:Int
 high:Bool
def GK:List Int→Nat→Nat→List Fl
 | [],_,_=>[]
 | k :: r,i,n=>if uV k=0 then ⟨(i:Int),1+(n:Int) / 2,0,(n:Int)%2==1⟩ :: GK r (i+1) (n+1) else GK r (i+1) n
def cnt:List Int→Nat
 | []=>0
 | k :: r=>(if uV k=0 then 1 else 0)+cnt r
def FT:List Int→Nat→Nat→List Fl
 | [],_,_=>[]
 | k :: r,i,o=>if 0<uV k then ⟨(i:Int),(o:Int),(uV k:Int),false⟩ :: FT r (i+1) (o+uV k) else FT r (i+1) o
def lay (l:List Int):List Fl:=GK l 0 0 ++ FT l 0 (1+(cnt l+1) / 2)
theorem cnt_le:∀ l:List Int,cnt l≤l.length
 | []=>Nat.le_refl _
 | k :: r=>by have:=cnt_le r;simp only [cnt,List.length_cons];split <;> omega
abbrev Part (l:List Int):={ x:Fl // x ∈ lay l }
def aAk (Bn:Nat) (A:Option Addr) (n:Nat) (W W':World):Prop:=W'.heap[Bn]?=W.heap[Bn]?∧(0<n→∀ a,A=some a→W'.heap[a.block]?=W.heap[a.block]?)
theorem add_block (a:Addr) (m:Nat):(a.add m).block=a.block:=by unfold Addr.add;split <;> rfl
theorem aG4 {W W':World} {A:Option Addr} {l:List Int} (h:Kd.C (Kd.int .i64) W A l.length l) (hk:0<l.length→∀ a,A=some a→W'.heap[a.block]?=W.heap[a.block]?):Kd.C (Kd.int .i64) W' A l.length l:=by
 obtain ⟨h1,h2,h3⟩:=h
 refine ⟨h1,h2,fun hn=>?_⟩
 obtain ⟨ad,e,hc⟩:=h3 hn
 refine ⟨ad,e,fun j p hj=>?_⟩
 obtain ⟨c,c1,c2,c3⟩:=hc j p hj
 exact ⟨c,c1,c2,fun i u hu=>(World.cell?_of_block (a:=ad.add (j*(Kd.int .i64).sz+i)) (by rw [add_block];exact hk hn ad e)).trans (c3 i u hu)⟩
set_option maxRecDepth 100000 in
set_option maxHeartbeats 4000000 in
theorem aT0 (n:Nat) (hn:1≤n) (lp Bn:Nat) (s:ByteArray) (c:Int) (A:Option Addr) (cap:Nat) (l:List Int) (hl:l.length≤1000) (J Jx:List (Part l)→World→Prop)
  (hJd:∀ pre V m,J pre V→J pre (World.drewN V m))
  (hY:∀ pre x W,J pre W→pre.length<(lay l).length→YieldAt Fence.wide (n-1) Try.prog lp #[.agg #[.int .i64 x.1.arg,.int .i64 x.1.off,.int .i64 x.1.bytes,.bool x.1.high]] W fun e W' =>
   (e=.returned (.bool true)∧J (pre ++ [x]) W'∧aAk Bn A l.length W W')∨(e=.returned (.bool false)∧Jx (pre ++ [x]) W'))
  (W:World) (hBn:W.heap[Bn]?=some (.cells #[.string s,.int .i64 c,.slice A l.length cap] 54 (0,0))) (hC:Kd.C (Kd.int .i64) W A l.length l) (h0:J [] W) :
  CallsIn Fence.wide n Try.prog 93 #[.func (.yield lp) #[] #[],.pointer (some ⟨Bn,0,none⟩)] W fun e W'=>(∃ v,e=.returned v) ∧
   ((∃ ys,ys.map Subtype.val=lay l∧J ys W')∨(∃ pre,True∧Jx pre W')):=by
 have Jf:=Try.underlying54
 have hF:∀ f,Fence.wide.fn f:=fun _=>trivial
 refine callsIn_of_wp Try.func93 rfl trivial ?_ rfl
 simp only [Try.ntmps93,List.size_toArray,List.length_cons,List.length_nil,Nat.reduceAdd,Nat.reduceSub,Array.replicate_succ,Array.replicate_zero,List.push_toArray,List.append_toArray,List.nil_append,List.cons_append]
 have hc0:W.cell? ⟨Bn,0,none⟩=some (.string s):=(aC hBn 0).trans rfl
 have hc1:W.cell? ⟨Bn,1,none⟩=some (.int .i64 c):=(aC hBn 1).trans rfl
 have hc2:W.cell? ⟨Bn,2,none⟩=some (.slice A l.length cap):=(aC hBn 2).trans rfl
 gi_wp2
 gi_loopw [3,13] (fun p3 p13 wr=>∃ (m i:Nat) (pre:List (Part l)),p3=.int .i64 (m:Int)∧p13=.int .i64 (i:Int)∧i≤l.length∧m≤i∧aA (m+cnt (l.drop i)=cnt l)∧aA (pre.map Subtype.val ++ (GK (l.drop i) i m ++ FT l 0 (1+(cnt l+1) / 2))=lay l)∧aA (J pre wr)∧aA (wr.heap[Bn]?=some (.cells #[.string s,.int .i64 c,.slice A l.length cap] 54 (0,0)))∧aA (Kd.C (Kd.int .i64) wr A l.length l))
  (fun _ i _=>l.length-(intOf i).toNat)
 case atStart=>exact ⟨0,0,[],rfl,rfl,Nat.zero_le _,Nat.le_refl _,⟨by simp⟩,⟨rfl⟩,⟨h0⟩,⟨hBn⟩,⟨hC⟩⟩
 case round =>
  clear hc0 hc1 hc2
  obtain ⟨m,i,pre,rfl,rfl,hi,hm,Gj,HX,HJ,HB,HC⟩:=hrel
  have hc0:wr.cell? ⟨Bn,0,none⟩=some (.string s):=(aC HB.out 0).trans rfl
  have hc1:wr.cell? ⟨Bn,1,none⟩=some (.int .i64 c):=(aC HB.out 1).trans rfl
  have hc2:wr.cell? ⟨Bn,2,none⟩=some (.slice A l.length cap):=(aC HB.out 2).trans rfl
  by_cases hlt:i<l.length
  ·obtain ⟨ad,e0,hx⟩:=Kd.jJ HC.out (i:Int) (by omega) (by omega)
   cases e0
   rw [Int.toNat_natCast] at hx;have HD:=aA.mk (FU l i hlt);generalize hy:rd l (i:Int)=y at hx HD;have HY:=aA.mk hy;clear hy
   by_cases hb:uV y=0
   ·have HBY:=aA.mk (PL 1 (by omega) y);rw [hb] at HBY;have hm1:(⟨(i:Int),1+(m:Int) / 2,0,(m:Int)%2==1⟩:Fl) ∈ lay l:=by
     rw [← HX.out,HD.out,GK,if_pos hb];simp
    have hlen:pre.length<(lay l).length:=by
     have h9:=congrArg List.length HX.out;rw [HD.out,GK,if_pos hb] at h9;simp only [List.length_append,List.length_map,List.length_cons] at h9;omega
    gi_wp2_with (gi_at_call 85;refine (callsIn_wide.2 (rV.calls 1 y _ _ HBY.out)).mono ?_;rintro e w5 ⟨rfl,⟨nd,rfl⟩⟩;obtain ⟨fn,tmps,assign,body,hy,hR⟩:=hY pre ⟨_,hm1⟩ (wr.drewN nd) (hJd _ _ _ HJ.out) hlen;dsimp only at hy;have HR:=aA.mk hR;clear hR)
    refine HR.out.mono ?_;rintro e W3 (⟨rfl,hJ3,hk3⟩|⟨rfl,hJx3⟩)
    ·have HJ3:=aA.mk hJ3;have MZ:=aA.mk hk3;clear hJ3 hk3 hy HR
     gi_wp2_with (fail)
     go_roundw
     case rel=>exact ⟨m+1,i+1,pre ++ [⟨_,hm1⟩],by go_num,by go_num,by omega,by omega,⟨by have h9:=Gj.out;rw [HD.out,cnt,if_pos hb] at h9;omega⟩,⟨by have h9:=HX.out;rw [HD.out,GK,if_pos hb] at h9;rw [List.map_append,List.append_assoc];exact h9⟩,⟨HJ3.out⟩,⟨MZ.out.1.trans HB.out⟩,⟨aG4 (Kd.fC HC.out nd) MZ.out.2⟩⟩
     case measure=>simp [intOf];omega
    ·have HJ3:=aA.mk hJx3;clear hJx3 hy HR
     gi_wp2_with (fail)
     refine bodyPost_ret (results_none rfl _ _ _) rfl ?_;exact ⟨⟨_,rfl⟩,.inr ⟨_,trivial,HJ3.out⟩⟩
   ·have HBY:=aA.mk (PL 1 (by omega) y);have hb0:((uV y:Int)==0)=false:=beq_eq_false_iff_ne.2 (by omega)
    gi_wp2_with (gi_at_call 85;refine (callsIn_wide.2 (rV.calls 1 y _ _ HBY.out)).mono ?_;rintro e w5 ⟨rfl,⟨nd,rfl⟩⟩)
    go_roundw
    case rel=>exact ⟨m,i+1,pre,rfl,by go_num,by omega,by omega,⟨by have h9:=Gj.out;rw [HD.out,cnt,if_neg hb] at h9;omega⟩,⟨by have h9:=HX.out;rw [HD.out,GK,if_neg hb] at h9;exact h9⟩,⟨hJd _ _ _ HJ.out⟩,⟨PI HB.out _⟩,⟨Kd.fC HC.out nd⟩⟩
    case measure=>simp [intOf];omega
  ·have hil:i=l.length:=by omega
   have HX2:=aA.mk (show pre.map Subtype.val ++ FT (l.drop 0) 0 (1+(cnt l+1) / 2)=lay l by have h9:=HX.out;rw [hil,List.drop_length,GK] at h9;exact h9);have hcm:m=cnt l:=by have h9:=Gj.out;rw [hil,List.drop_length,cnt] at h9;exact h9
   subst hil;subst hcm;clear HX Gj hlt;have hcl:=cnt_le l;clear hi hc0 hc1 hc2;have hc2:wr.cell? ⟨Bn,2,none⟩=some (.slice A l.length cap):=(aC HB.out 2).trans rfl
   gi_wp2_with (fail)
   gi_loopw [6,42] (fun p6 p42 W5=>∃ (o i:Nat) (pre:List (Part l)),p6=.int .i64 (o:Int)∧p42=.int .i64 (i:Int)∧i≤l.length∧o≤2000+4*i∧aA (pre.map Subtype.val ++ FT (l.drop i) i o=lay l)∧aA (J pre W5)∧aA (W5.heap[Bn]?=some (.cells #[.string s,.int .i64 c,.slice A l.length cap] 54 (0,0)))∧aA (Kd.C (Kd.int .i64) W5 A l.length l))
    (fun _ i _=>l.length-(intOf i).toNat)
   case atStart=>exact ⟨1+(cnt l+1) / 2,0,pre,by first|rfl|(simp;done),rfl,Nat.zero_le _,by omega,HX2,HJ,HB,HC⟩
   case round =>
    clear hc2 HX2 HJ HB HC;obtain ⟨o,i,pre,rfl,rfl,hi,ho,HX,HJ,HB,HC⟩:=hrel
    by_cases hlt:i<l.length
    ·obtain ⟨ad,e0,hx⟩:=Kd.jJ HC.out (i:Int) (by omega) (by omega)
     cases e0
     rw [Int.toNat_natCast] at hx;have HD:=aA.mk (FU l i hlt);generalize hy:rd l (i:Int)=y at hx HD;have HY:=aA.mk hy;clear hy;have HBY:=aA.mk (PL 1 (by omega) y);have hbl:=YL y
     by_cases hb:0<uV y
     ·have hm1:(⟨(i:Int),(o:Int),(uV y:Int),false⟩:Fl) ∈ lay l:=by
       rw [← HX.out,HD.out,FT,if_pos hb];simp
      have hlen:pre.length<(lay l).length:=by
       have h9:=congrArg List.length HX.out;rw [HD.out,FT,if_pos hb] at h9;simp only [List.length_append,List.length_map,List.length_cons] at h9;omega
      have hb1:decide ((0:Int)<(uV y:Int))=true:=fB (by omega);have hb2:decide (0<uV y)=true:=fB hb
      gi_wp2_with (gi_at_call 85;refine (callsIn_wide.2 (rV.calls 1 y _ _ HBY.out)).mono ?_;rintro e w5 ⟨rfl,⟨nd,rfl⟩⟩;obtain ⟨fn,tmps,assign,body,hy,hR⟩:=hY pre ⟨_,hm1⟩ (_) (hJd _ _ nd HJ.out) hlen;dsimp only at hy;have HR:=aA.mk hR;clear hR)
      refine HR.out.mono ?_;rintro e W3 (⟨rfl,hJ3,hk3⟩|⟨rfl,hJx3⟩)
      ·have HJ3:=aA.mk hJ3;have MZ:=aA.mk hk3;clear hJ3 hk3 hy HR
       gi_wp2_with (fail)
       go_roundw
       case rel=>exact ⟨o+uV y,i+1,pre ++ [⟨_,hm1⟩],by go_num,by go_num,by omega,by omega,⟨by have h9:=HX.out;rw [HD.out,FT,if_pos hb] at h9;rw [List.map_append,List.append_assoc];exact h9⟩,⟨HJ3.out⟩,⟨MZ.out.1.trans HB.out⟩,⟨aG4 (Kd.fC HC.out nd) MZ.out.2⟩⟩
       case measure=>simp [intOf];omega
      ·have HJ3:=aA.mk hJx3;clear hJx3 hy HR
       gi_wp2_with (fail)
       refine bodyPost_ret (results_none rfl _ _ _) rfl ?_;exact ⟨⟨_,rfl⟩,.inr ⟨_,trivial,HJ3.out⟩⟩
     ·have hb1:decide ((0:Int)<(uV y:Int))=false:=kT (by omega);have hb2:decide (0<uV y)=false:=kT hb
      gi_wp2_with (gi_at_call 85;refine (callsIn_wide.2 (rV.calls 1 y _ _ HBY.out)).mono ?_;rintro e w5 ⟨rfl,⟨nd,rfl⟩⟩)
      go_roundw
      case rel=>exact ⟨o,i+1,pre,rfl,by go_num,by omega,by omega,⟨by have h9:=HX.out;rw [HD.out,FT,if_neg hb] at h9;exact h9⟩,⟨hJd _ _ _ HJ.out⟩,⟨PI HB.out _⟩,⟨Kd.fC HC.out nd⟩⟩
      case measure=>simp [intOf];omega
    ·have hil:i=l.length:=by omega
     have HX2:=aA.mk (show pre.map Subtype.val=lay l by have h9:=HX.out;rw [hil,List.drop_length,FT,List.append_nil] at h9;exact h9)
     gi_wp2_with (fail)
     go_end0
     exact ⟨⟨_,rfl⟩,.inl ⟨pre,HX2.out,HJ.out⟩⟩
set_option maxHeartbeats 1000000 in
theorem aAg (n:Nat) (s:ByteArray) (c:Int) (A:Option Addr) (m cap:Nat) (w:World) :
  CallsIn Fence.wide n Try.prog 87 #[.agg #[.string s,.int .i64 c,.slice A m cap]] w fun e w'=>e=.returned (.func (.func 93) #[] #[.pointer (some ⟨w.heap.size,0,none⟩)])∧w'=w.alloc (.cells #[.string s,.int .i64 c,.slice A m cap] 54):=by
 have Jf:=Try.underlying54
 refine callsIn_of_wp Try.func87 rfl trivial ?_ rfl
 simp only [Try.ntmps87,List.size_toArray,List.length_cons,List.length_nil,Nat.reduceAdd,Nat.reduceSub,Array.replicate_succ,Array.replicate_zero,List.push_toArray,List.append_toArray,List.nil_append,List.cons_append]
 gi_wp2
 go_ret
 exact ⟨rfl,rfl⟩
theorem UQ (n:Nat) (hn:1≤n) (Bn:Nat) (s:ByteArray) (c:Int) (A:Option Addr) (cap:Nat) (l:List Int) (hl:l.length≤1000) (w:World) (hB:w.heap[Bn]?=some (.cells #[.string s,.int .i64 c,.slice A l.length cap] 54 (0,0))) (hC:Kd.C (Kd.int .i64) w A l.length l) :
  SeqStopsK Fence.wide n Try.prog 93 #[.pointer (some ⟨Bn,0,none⟩)] (fun x:Part l=>#[Value.agg #[.int .i64 x.1.arg,.int .i64 x.1.off,.int .i64 x.1.bytes,.bool x.1.high]]) (aAk Bn A l.length) (fun ys=>ys.map Subtype.val=lay l) (fun _=>True) (lay l).length w:=fun lp J Jx W hW hJ _ hY h0 =>
 aT0 n hn lp Bn s c A cap l hl J Jx (fun pre V m hj=>hJ pre V _ none hj ⟨rfl,rfl,rfl,Nat.le_refl _,fun _ _ _=>rfl⟩ (fun r e=>by cases e)) hY W ((hW.block Bn (bU hB)).trans hB) (Kd.dP hC hW) h0
theorem aGN {Bn n:Nat} {A:Option Addr} {X Y Z:World} (h:aAk Bn A n X Y) (k:aAk Bn A n Y Z):aAk Bn A n X Z:=⟨k.1.trans h.1,fun hn a e=>(k.2 hn a e).trans (h.2 hn a e)⟩
theorem aGO {Bn B n:Nat} {A:Option Addr} (hn:Bn<B) (hA:0<n→∀ a,A=some a→a.block<B) (W:World) (l:Nat) (o o':Obj) (hl:B≤l) (h:W.heap[l]?=some o) (_:o.isCells=false) (_:o.isWalk=false):aAk Bn A n W (W.putObj l o') :=
 have hlt:=(Array.getElem?_eq_some_iff.1 h).1
 ⟨(grownBy_putObj' W l o').block Bn (by omega) (fun he=>by cases he;omega),fun hp a e=>(grownBy_putObj' W l o').block a.block (by have:=hA hp a e;omega) (fun he=>by have:=hA hp a e;cases he;omega)⟩
theorem aIj {w:World} {A:Option Addr} {l:List Int} {k:IntKind} (h:Kd.C (Kd.int k) w A l.length l):0<l.length→∀ a,A=some a→a.block<w.heap.size:=by
 intro hn a e
 obtain ⟨ad,e2,hx⟩:=Kd.jJ h 0 (by omega) (by omega)
 rw [e] at e2
 cases e2
 have:=dM w _ hx
 rwa [add_block] at this
end Go.Proofs.Ytipjpdiianopcaa.Cl
