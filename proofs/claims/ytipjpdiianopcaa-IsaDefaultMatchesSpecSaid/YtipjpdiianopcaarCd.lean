/- Words and contracts for the laws. -/
import Derived.RangeFuncCalls
import Derived.OrdersIn
import Derived.TacticsIn
import Derived.Test.YtipjpdiianopcaarWM
import Derived.RangeFuncNested
import Derived.RangeFuncBound
import Derived.RangeFuncLeaves
import Derived.RangeFuncBox
import Derived.Shelf.Abstract
import Derived.Shelf.RegionOpen
import Derived.WalkKit
import Derived.OwnWalkIn
import Derived.TacticsInMore
import Derived.LoopNIn
import Derived.LoopIn
import Derived.Maps.AppendAt
import Derived.Test.YtipjpdiianopcaarAx0
import Derived.Test.YtipjpdiianopcaarAx7
import Derived.Lib.SlBytesConst
set_option linter.unusedVariables false
set_option linter.unusedSimpArgs false
namespace Go.Proofs.Ytipjpdiianopcaa.Ch
open Go.RowKit Go.Proofs.YtipjpdiianopcaaW.dQ
variable {P:Program} {ops:Array Oper} {Q:Exit→Act→World→Prop} {S:World→Prop} {l n:Nat}
theorem PX {o:Oper} {a:Act} {w:World} {K:Act→World→Prop} (hd:∀ c,o.op≠.defer c) (h:o.wp P a w K Q):o.wpIn (Fence.wide.inRound l) n P a w K Q:=by
 refine ⟨fun _ _=>trivial,?_⟩
 rw [show (Fence.wide.inRound l).round=some l from rfl,Oper.semAt_some l a.eval o hd]
 unfold Oper.wp at h
 generalize (execOp a.eval o).run P w=r at h ⊢
 unfold Oper.upon at h
 unfold Oper.uponIn
 split at h
 ·exact h
 ·exact h
 ·exact h
 ·exact ⟨(fun h=>by simp [Fence.wide] at h),CallsIn.inRound l (callsIn_wide.2 h)⟩
 ·refine ⟨(fun h=>by simp [Fence.wide] at h),fun c cs _=>?_⟩
  obtain ⟨v,w',hv,hs⟩:=h c cs
  exact ⟨v,w',hv,stepsIn_wide.2 hs⟩
 ·exact h
 ·exact h.elim
theorem Rx {i:Nat} {a:Act} {w:World} {K:Act→World→Prop} (hd:∀ (j:Nat) o,ops[j]?=some o→∀ c,o.op≠.defer c) (hq:¬ LetsOut Q) (h:wpOp P ops Q i K a w):wpOpIn (Fence.wide.inRound l) n P ops Q i K a w:=by
 unfold wpOp at h
 unfold wpOpIn
 cases ho:ops[i]? with
 | none=>rw [ho] at h;exact h
 | some o =>
  rw [ho] at h
  dsimp only at h ⊢
  split
  ·rename_i hw
   rw [if_pos hw] at h
   rcases h with h|h
   ·exact PX (hd i o ho) h
   ·exact absurd h.2 hq
  ·rename_i hw
   rw [if_neg hw] at h;exact ⟨fun _ _=>trivial,h⟩
theorem Ku {md:Region.Mode} (hd:∀ (j:Nat) o,ops[j]?=some o→∀ c,o.op≠.defer c) (hq:¬ LetsOut Q):∀ (fuel:Nat) (listed:Array Bool) (a:Act) (w:World),wpAny P md ops Q fuel listed a w→wpAnyIn (Fence.wide.inRound l) n P md ops Q fuel listed a w
 | 0,_,_,_,h=>h
 | fuel+1,_,_,_,h=>⟨h.1,fun i hi=>Rx hd hq (wpOp_mono (fun a' w' h'=>Ku hd hq fuel _ a' w' h') (h.2 i hi))⟩
def Cc (ops:Array Oper):Bool:=ops.all fun o=>match o.op with|.defer _=>false|_=>true
theorem wF (h:Cc ops=true):∀ (j:Nat) o,ops[j]?=some o→∀ c,o.op≠.defer c:=by
 intro j o ho c hc
 have h1:=Array.all_eq_true_iff_forall_mem.1 h o (Array.mem_of_getElem? ho)
 rw [hc] at h1
 cases h1
theorem Kv {id m:Nat} {a:Act} {w:World} {ds:List Nat} (hnd:Cc ops=true) (hq:¬ LetsOut Q) (lb:Array Bool) (hm:P.follows .mixedOrders=true) (hn:ops.size=m) (hl:Array.replicate m false=lb) (hS:S w.drew)
  (h:S w.drew→eY P .any ops Q S ds m lb a w.drew):(Code.region id ops true).wpIn (Fence.wide.inRound l) n P Q a w:=by
 subst hn
 subst hl
 exact wpIn_region_any hm (Ku (wF hnd) hq _ _ _ _ (qN _ _ _ _ (h hS)))
end Go.Proofs.Ytipjpdiianopcaa.Ch
namespace Go.Proofs.Ytipjpdiianopcaa.Cf
open Go.RowKit Go.Shelf Go.Proofs.YtipjpdiianopcaaW.aZ
attribute [local go_sem] Oper.semAt_some
set_option linter.unusedVariables false
set_option linter.unusedSimpArgs false
def items (s:ByteArray):Nat→Int→Int→Int→List (Int × ByteArray)
 | 0,_,_,_=>[]
 | d+1,i,n,st=>if bt s i=32 then (n,s.extract st.toNat i.toNat) :: items s d (i+1) (n+1) (i+1) else items s d (i+1) n st
def parts (s:ByteArray):List (Int × ByteArray):=items s s.size 0 0 0
def AB (Bn:Nat) (W W':World):Prop:=W'.heap[Bn]?=W.heap[Bn]?
abbrev Part (s:ByteArray):={ x:Int × ByteArray // x ∈ parts s }
set_option maxRecDepth 100000 in
set_option maxHeartbeats 2000000 in
theorem Ry (n:Nat) (hn:1≤n) (l Bn:Nat) (s:ByteArray) (hs:s.size≤1000000) (J Jx:List (Part s)→World→Prop)
  (hY:∀ pre x W,J pre W→pre.length<(parts s).length→YieldAt Fence.wide (n-1) Try.prog l #[.int .i64 x.1.1,.string x.1.2] W fun e W' =>
   (e=.returned (.bool true)∧J (pre ++ [x]) W'∧AB Bn W W')∨(e=.returned (.bool false)∧Jx (pre ++ [x]) W'))
  (W:World) (hBn:W.heap[Bn]?=some (.cells #[.string s] 9 (0,0))) (h0:J [] W) :
  CallsIn Fence.wide n Try.prog 86 #[.func (.yield l) #[] #[],.pointer (some ⟨Bn,0,none⟩)] W fun e W'=>(∃ v,e=.returned v) ∧
   ((∃ ys,ys.map Subtype.val=parts s∧J ys W')∨(∃ pre,True∧Jx pre W')):=by
 refine callsIn_of_wp Try.func86 rfl trivial ?_ rfl
 simp only [Try.ntmps86,List.size_toArray,List.length_cons,List.length_nil,Nat.reduceAdd,Nat.reduceSub,Array.replicate_succ,Array.replicate_zero,List.push_toArray,List.append_toArray,List.nil_append,List.cons_append]
 have hc0:W.cell? ⟨Bn,0,none⟩=some (.string s):=(aJ hBn 0).trans rfl
 gi_wp2
 gi_loopw [3,4,8] (fun p3 p4 p8 wr=>∃ (k st i:Int) (pre:List (Part s)),p3=.int .i64 k∧p4=.int .i64 st∧p8=.int .i64 i∧0≤k∧k≤i∧0≤st∧st≤i∧i≤(s.size:Int)∧pre.map Subtype.val ++ items s (s.size-i.toNat) i k st=parts s∧J pre wr∧wr.heap[Bn]?=some (.cells #[.string s] 9 (0,0)))
  (fun _ _ i _=>s.size-(intOf i).toNat)
 case atStart=>exact ⟨0,0,0,[],rfl,rfl,rfl,by omega,by omega,by omega,by omega,by omega,rfl,h0,hBn⟩
 case round =>
  obtain ⟨k,st,i,pre,rfl,rfl,rfl,hk0,hk1,hs0,hs1,hi,hx,hJs,hnx⟩:=hrel
  have hi0:0≤i:=by omega
  have hcell:wr.cell? ⟨Bn,0,none⟩=some (.string s):=(aJ hnx 0).trans rfl
  by_cases hlt:i<(s.size:Int)
  ·have hd:s.size-i.toNat=(s.size-(i+1).toNat)+1:=by omega
   rw [hd] at hx;simp only [items] at hx;have hw1:wrap64 (i+1)=i+1:=by unfold wrap64;omega
   have hw2:wrap64 (k+1)=k+1:=by unfold wrap64;omega
   have hin:i.toNat<s.size:=by omega
   by_cases hc:bt s i=32
   ·rw [if_pos hc] at hx;have hcv:(((s[i.toNat]'hin).toNat:Int)==32)=true:=by rw [uG s i hin,hc];rfl
    have hm:(k,s.extract st.toNat i.toNat) ∈ parts s:=by rw [← hx];simp
    have hlen:pre.length<(parts s).length:=by rw [← hx];simp
    obtain ⟨fn,tmps,assign,body,hy,hR⟩:=hY pre ⟨(k,s.extract st.toNat i.toNat),hm⟩ wr hJs hlen
    dsimp only at hy
    gi_wp2
    refine hR.mono ?_;rintro e W3 (⟨rfl,hJ3,hk3⟩|⟨rfl,hJx3⟩)
    ·gi_wp2
     go_roundw
     case rel=>exact ⟨k+1,i+1,i+1,pre ++ [⟨(k,s.extract st.toNat i.toNat),hm⟩],by first|rfl|rw [hw2],by first|rfl|rw [hw1],by first|rfl|rw [hw1],by omega,by omega,by omega,by omega,by omega,(by rw [List.map_append,List.append_assoc];exact hx),hJ3,hk3.trans hnx⟩
     case measure=>simp [intOf,hw1];omega
    ·gi_wp2
     refine bodyPost_ret (results_none rfl _ _ _) rfl ?_;exact ⟨⟨_,rfl⟩,.inr ⟨_,trivial,hJx3⟩⟩
   ·rw [if_neg hc] at hx;have hcv:(((s[i.toNat]'hin).toNat:Int)==32)=false:=by rw [uG s i hin];exact beq_eq_false_iff_ne.2 hc
    gi_wp2
    go_roundw
    case rel=>exact ⟨k,st,i+1,pre,rfl,rfl,by first|rfl|rw [hw1],by omega,by omega,by omega,by omega,by omega,hx,hJs,hnx⟩
    case measure=>simp [intOf,hw1];omega
  ·have hd:s.size-i.toNat=0:=by omega
   rw [hd] at hx;simp only [items,List.append_nil] at hx
   gi_wp2
   go_end0
   exact ⟨⟨_,rfl⟩,.inl ⟨pre,hx,hJs⟩⟩
set_option maxHeartbeats 1000000 in
theorem AO (n:Nat) (s:ByteArray) (w:World) :
  CallsIn Fence.wide n Try.prog 75 #[.string s] w fun e w'=>e=.returned (.func (.func 86) #[] #[.pointer (some ⟨w.heap.size,0,none⟩)])∧w'=w.alloc (.cells #[.string s] 9):=by
 refine callsIn_of_wp Try.func75 rfl trivial ?_ rfl
 simp only [Try.ntmps75,List.size_toArray,List.length_cons,List.length_nil,Nat.reduceAdd,Nat.reduceSub,Array.replicate_succ,Array.replicate_zero,List.push_toArray,List.append_toArray,List.nil_append,List.cons_append]
 gi_wp2
 go_ret
 exact ⟨rfl,rfl⟩
theorem AP (n:Nat) (hn:1≤n) (Bn:Nat) (s:ByteArray) (hs:s.size≤1000000) (w:World) (hc:w.heap[Bn]?=some (.cells #[.string s] 9 (0,0))) :
  SeqStopsK Fence.wide n Try.prog 86 #[.pointer (some ⟨Bn,0,none⟩)] (fun x:Part s=>#[Value.int .i64 x.1.1,.string x.1.2]) (AB Bn) (fun ys=>ys.map Subtype.val=parts s) (fun _=>True) (parts s).length w:=fun l J Jx W hW _ _ hY h0 =>
 Ry n hn l Bn s hs J Jx hY W ((hW.block Bn (gU hc)).trans hc) h0
theorem Ie {Bn:Nat} {A B C:World} (h:AB Bn A B) (k:AB Bn B C):AB Bn A C:=Eq.trans k h
theorem Ig {Bn:Nat} {w:World} (hn:Bn<w.heap.size) (W:World) (l:Nat) (o o':Obj) (hl:w.heap.size≤l) (h:W.heap[l]?=some o) (_:o.isCells=false) (_:o.isWalk=false):AB Bn W (W.putObj l o') :=
 (grownBy_putObj' W l o').block Bn (by have:=(Array.getElem?_eq_some_iff.1 h).1;omega) (fun he=>by cases he;omega)
end Go.Proofs.Ytipjpdiianopcaa.Cf
namespace Go.Proofs.Ytipjpdiianopcaa.Cd
open Go.RowKit Go.Shelf Go.Proofs.YtipjpdiianopcaaW.aZ Go.Proofs.YtipjpdiianopcaaW.dQ Go.Proofs.YtipjpdiianopcaaW.gW Go.Proofs.Ytipjpdiianopcaa.A Go.Proofs.Ytipjpdiianopcaa.Cf Go.Proofs.Ytipjpdiianopcaa.Ch
attribute [local go_sem] Oper.semAt_some
set_option linter.unusedVariables false
set_option linter.unusedSimpArgs false
def mG:ByteArray:={ data:=#[104,97,108,116,32,110,111,112,32,98,114,101,97,107,32,115,121,115,32,101,114,101,116,32,102,101,110,99,101,32,109,111,118,101,32,115,101,116,32,115,101,116,98,32,97,100,100,32,97,100,100,98,32,115,117,98,32,109,117,108,32,100,105,118,32,97,110,100,32,111,114,32,120,111,114,32,115,104,108,32,115,104,114,32,99,109,112,32,99,109,112,98,32,108,111,97,100,32,115,116,111,114,101,32,108,111,97,100,98,32,115,116,111,114,101,98,32,112,117,115,104,32,112,111,112,32,106,117,109,112,32,106,117,109,112,32,106,101,113,32,106,101,113,32,106,110,101,32,106,110,101,32,106,108,116,32,106,108,116,32,106,108,111,32,106,108,111,32,106,117,109,112,114,32,106,117,109,112,109,32,106,117,109,112,97,32,99,97,108,108,32,99,97,108,108,114,32,114,101,116,32,108,101,97,32,118,108,111,97,100,32,118,115,116,111,114,101,32,118,97,100,100,32,118,109,117,108,32,118,115,117,109,32,118,115,101,116,32,115,119,97,112,32,102,101,116,99,104,32,99,97,115,32,116,112,32,116,114,97,112,118,32,99,97,117,115,101,32,119,104,101,114,101,32,115,107,105,112,32,99,111,117,110,116,32] }
def jT:ByteArray:={ data:=#[45,32,45,32,45,32,98,32,45,32,45,32,114,114,32,114,119,32,114,98,32,114,114,32,114,98,32,114,114,32,114,114,32,114,114,32,114,114,32,114,114,32,114,114,32,114,114,32,114,114,32,114,114,32,114,98,32,114,114,98,32,114,114,98,32,114,114,98,32,114,114,98,32,114,32,114,32,115,32,110,32,115,32,110,32,115,32,110,32,115,32,110,32,115,32,110,32,114,32,119,32,119,32,110,32,114,32,45,32,114,110,32,118,114,32,118,114,32,118,118,32,118,118,32,114,118,32,118,114,32,114,114,32,114,114,32,114,114,114,32,114,32,114,32,114,32,114,32,114,32,119,32] }
def AQ (x:Int × ByteArray):iJ:=⟨x.2,Int.tmod (wrap64 (wrap64 (37*x.1)+11)) 256,[]⟩
def Ad (pre:List (Int × ByteArray)):List iJ:=pre.map AQ
theorem wG {A B:World} {base:Nat} {ok:Nat→Prop} {v:Value} {xs:List iJ} {row:Option Nat} (h:Kd.S rC 54 A base ok v xs) (hg:A.grownBy B row) (hr:∀ r,row=some r→∃ o:Obj,A.heap[r]?=some o∧o.isCells=false):Kd.S rC 54 B base ok v xs :=
 Kd.zL (Kd.NW (Kd.Ce h) hg (fun k hk he=>by
  obtain ⟨o,ho,hc⟩:=hr k he.symm
  obtain ⟨_,_,_,q,_,cells,hcc⟩:=hk
  rw [hcc] at ho
  cases ho
  cases hc)) (fun _ hk=>hk.1)
theorem rX {A B:World} {g:Nat} {v:Value} {t:Nat} {row:Option Nat} (h:A.heap[g]?=some (.cells #[v] t (0,0))) (hg:A.grownBy B row) (hr:∀ r,row=some r→∃ o:Obj,A.heap[r]?=some o∧o.isCells=false):B.heap[g]?=some (.cells #[v] t (0,0)) :=
 (hg.block g (gU h) (fun he=>by
  obtain ⟨o,ho,hc⟩:=hr g he.symm
  rw [h] at ho
  cases ho
  cases hc)).trans h
theorem Ci {P:Program} {ops:Array Oper} {Q:Exit→Act→World→Prop} {l n:Nat} (hq:¬ LetsOut Q):∀ (os:List Oper) (a:Act) (w:World),(∀ o ∈ os,∀ c,o.op≠.defer c)→wpList P ops Q os a w→wpListIn (Fence.wide.inRound l) n P ops Q os a w
 | [],_,_,_,h=>h
 | o :: os,a,w,hd,h=>by
  unfold wpList at h
  unfold wpListIn
  split
  ·rename_i hw
   rw [if_pos hw] at h
   rcases h with h|h
   ·exact PX (hd o (List.mem_cons_self ..)) (Oper.wp_mono (fun a' w' h'=>Ci hq os a' w' (fun o' ho'=>hd o' (List.mem_cons_of_mem _ ho')) h') h)
   ·exact absurd h.2 hq
  ·rename_i hw
   rw [if_neg hw] at h;exact ⟨fun _ _=>trivial,Ci hq os _ w (fun o' ho'=>hd o' (List.mem_cons_of_mem _ ho')) h⟩
theorem IV {P:Program} {Q:Exit→Act→World→Prop} {l n id:Nat} {os:List Oper} {a:Act} {w:World} (hnd:Cc os.toArray=true) (hq:¬ LetsOut Q) (h:wpList P os.toArray Q os a w):(Code.region id os.toArray false).wpIn (Fence.wide.inRound l) n P Q a w :=
 wpIn_region_lit (Ci hq os a w (fun o ho c hc=>by
  obtain ⟨j,hj⟩:=List.getElem?_of_mem ho
  exact wF hnd j o (by simpa using hj) c hc) h)
end Go.Proofs.Ytipjpdiianopcaa.Cd
namespace Go.Proofs.Ytipjpdiianopcaa.Cd
open Go.RowKit Go.Shelf Go.Proofs.YtipjpdiianopcaaW.aZ Go.Proofs.YtipjpdiianopcaaW.dQ Go.Proofs.YtipjpdiianopcaaW.gW Go.Proofs.Ytipjpdiianopcaa.A Go.Proofs.Ytipjpdiianopcaa.Cf Go.Proofs.Ytipjpdiianopcaa.Ch
attribute [local go_sem] Oper.semAt_some
set_option linter.unusedVariables false
set_option linter.unusedSimpArgs false
theorem DL:mG.size≤1000000:=by decide +kernel
theorem AU:(parts mG).length=59:=by decide +kernel
theorem slice3 {α:Type} {d:Kd α} {e:Nat} {w:World} {base:Nat} {ok:Nat→Prop} {v:Value} {xs:List α} (h:Kd.S d e w base ok v xs):∃ A n c,v=.slice A n c:=by
 obtain ⟨A,c,h⟩:=Kd.NY h
 exact ⟨A,_,c,h⟩
theorem Rz {α:Type} {d:Kd α} {e:Nat} {w:World} {base:Nat} {ok:Nat→Prop} {v:Value} {xs:List α} (h:d.R e w base ok v xs):∃ A n c,v=.slice A n c:=by
 obtain ⟨A,c,h⟩:=Kd.qF h
 exact ⟨A,_,c,h⟩
theorem DN {A B:World} {g:Nat} (h:A.heap[g]?=B.heap[g]?) (j:Nat):A.cell? ⟨g,j,none⟩=B.cell? ⟨g,j,none⟩:=by simp [World.cell?,h]
def I1 (w:World) (pre:List (Part mG)) (W:World):Prop :=
 (∃ v,W.heap[w.heap.size]?=some (.cells #[v] 47 (0,0))∧W.heap[w.heap.size+1]?=some (.cells #[.string mG] 9 (0,0))∧Kd.S rC 54 W w.heap.size (fun _=>True) v (Ad (pre.map Subtype.val)))∧Below w.heap.size w W
theorem RD (w:World) (B:Nat) (hB:w.heap.size≤B):OwnFrom B (I1 w):=by
 intro s A W row hs hg hr
 obtain ⟨⟨v,h1,h4,h2⟩,h3⟩:=hs
 exact ⟨⟨v,rX h1 hg (fun r e=>(hr r e).2),rX h4 hg (fun r e=>(hr r e).2),wG h2 hg (fun r e=>(hr r e).2)⟩,ownFrom_below (β:=Unit) (Nat.le_refl _) hB () A W row h3 hg hr⟩
theorem DR:jT.size≤1000000:=by decide +kernel
theorem AV:∀ x ∈ parts jT,0≤x.1∧x.1<59∧x.2.size≤10:=by decide +kernel
def kindOf (c:Int):Int:=if c=45 then 0 else if c=114 then 1 else if c=118 then 2 else if c=98 then 3 else if c=119 then 4 else if c=115 then 5 else if c=110 then 6 else -1
def step2 (k:Int) (t:List iJ) (c:Int):List iJ:=if kindOf c>0 then t.set k.toNat { (t.getD k.toNat z54) with f2:=(t.getD k.toNat z54).f2 ++ [kindOf c] } else t
def mY (x:Int × ByteArray) (t:List iJ):Nat→List iJ
 | 0=>t
 | m+1=>step2 x.1 (mY x t m) (bt x.2 m)
def all2 (t:List iJ) (x:Int × ByteArray):List iJ:=mY x t x.2.size
def qB (pre:List (Int × ByteArray)):List iJ:=pre.foldl all2 (Ad (parts mG))
theorem IW (k:Int) (t:List iJ) (c:Int):(step2 k t c).length=t.length:=by unfold step2;split <;> simp
theorem tY (x:Int × ByteArray) (t:List iJ):∀ m,(mY x t m).length=t.length
 | 0=>rfl
 | m+1=>by rw [mY,IW,tY x t m]
theorem AX:∀ (pre:List (Int × ByteArray)) (t:List iJ),(pre.foldl all2 t).length=t.length
 | [],_=>rfl
 | x :: pre,t=>by rw [List.foldl_cons,AX pre,all2,tY]
theorem DT (pre:List (Int × ByteArray)):(qB pre).length=59:=by rw [qB,AX,Ad,List.length_map,AU]
theorem uY (W:World) (m:Nat):KeepsOthers W (W.drewN m):=⟨Nat.le_refl _,fun _ _ h _=>h⟩
theorem zM (x:Int × ByteArray) (t:List iJ) (i:Int) (h:0≤i):mY x t (i+1).toNat=step2 x.1 (mY x t i.toNat) (bt x.2 i):=by
 obtain ⟨m,rfl⟩:∃ m:Nat,i=m:=⟨i.toNat,by omega⟩
 rfl
theorem IX (k:Int) (t:List iJ) (c:Int) (h:¬ 0<kindOf c):step2 k t c=t:=by unfold step2;rw [if_neg h]
theorem RF (c:Int):dV.f 20 [45,114,118,98,119,115,110] c=some (kindOf c):=by
 by_cases h0:c=45
 ·subst h0;decide +kernel
 by_cases h1:c=114
 ·subst h1;decide +kernel
 by_cases h2:c=118
 ·subst h2;decide +kernel
 by_cases h3:c=98
 ·subst h3;decide +kernel
 by_cases h4:c=119
 ·subst h4;decide +kernel
 by_cases h5:c=115
 ·subst h5;decide +kernel
 by_cases h6:c=110
 ·subst h6;decide +kernel
 simp [dV.f,dV.l0,kindOf,rd,wrap64,h0,h1,h2,h3,h4,h5,h6]
theorem DU {w:World} {g:Nat} {m:Nat × Nat} (h:w.heap[g]?=some (.cells #[.int .u8 45,.int .u8 114,.int .u8 118,.int .u8 98,.int .u8 119,.int .u8 115,.int .u8 110] 5 m)):Kd.C (Kd.int .u8) w (some ⟨g,0,none⟩) 7 [45,114,118,98,119,115,110]:=by
 refine Kd.Ff (d:=(0:Int)) (h1:=fun _=>rfl) ⟨rfl,by decide,fun _=>⟨_,rfl,fun j hj=>?_⟩⟩
 rcases (by omega:j=0∨j=1∨j=2∨j=3∨j=4∨j=5∨j=6) with rfl|rfl|rfl|rfl|rfl|rfl|rfl <;> simp [World.cell?,h,Addr.add]
def KL (m:Nat) (t:List iJ):Prop:=∀ k:Nat,(t.getD k z54).f2.length≤m
theorem NZ {m:Nat} {t:List iJ} (h:KL m t) (k c:Int):KL (m+1) (step2 k t c):=by
 intro j
 unfold step2
 split
 ·rw [List.getD_eq_getElem?_getD,List.getElem?_set]
  split
  ·split
   ·have:=h k.toNat
    simp only [Option.getD_some,List.length_append,List.length_cons,List.length_nil];omega
   ·simp [z54]
  ·have:=h j;rw [List.getD_eq_getElem?_getD] at this;omega
 ·have:=h j
  omega
theorem Cj {m:Nat} {t:List iJ} (h:KL m t) (x:Int × ByteArray):∀ n,KL (m+n) (mY x t n)
 | 0=>h
 | n+1=>NZ (Cj h x n) _ _
theorem Ih {m n:Nat} {t:List iJ} (h:KL m t) (hn:m≤n):KL n t:=fun k=>Nat.le_trans (h k) hn
theorem Ii:∀ (pre:List (Int × ByteArray)) (m:Nat) (t:List iJ),(∀ x ∈ pre,x.2.size≤10)→KL m t→KL (m+10*pre.length) (pre.foldl all2 t)
 | [],_,_,_,h=>h
 | x :: pre,m,t,hp,h=>by
  have h1:=Ih (Cj h x x.2.size) (show m+x.2.size≤m+10 by have:=hp x (List.mem_cons_self ..);omega)
  have h2:=Ii pre (m+10) (all2 t x) (fun y hy=>hp y (List.mem_cons_of_mem _ hy)) h1
  rw [List.foldl_cons]
  exact Ih h2 (by simp only [List.length_cons];omega)
theorem Oa (l:List (Int × ByteArray)):KL 0 (Ad l):=by
 intro k
 unfold Ad
 rw [List.getD_eq_getElem?_getD,List.getElem?_map]
 cases l[k]? with
 | none=>simp [z54]
 | some x=>simp [AQ]
theorem Fg:(parts jT).length=59:=by decide +kernel
theorem RG (x:Part jT) (pre:List (Part jT)) (i:Nat) (hi:i≤1000) (hp:pre.length<59) (k:Nat):((mY x.1 (qB (pre.map Subtype.val)) i).getD k z54).f2.length≤2000:=by
 have h:=Ii (pre.map Subtype.val) 0 _ (fun y hy=>by
  obtain ⟨z,_,rfl⟩:=List.mem_map.1 hy
  exact (AV z.1 z.2).2.2) (Oa (parts mG))
 have h2:=Cj h x.1 i k
 rw [List.length_map] at h2
 exact Nat.le_trans h2 (by omega)
theorem Kw (k:Int) (t:List iJ) (c:Int) (h:0<kindOf c):step2 k t c=t.set k.toNat ⟨(t.getD k.toNat z54).f0,(t.getD k.toNat z54).f1,(t.getD k.toNat z54).f2 ++ [kindOf c]⟩:=by unfold step2;rw [if_pos h]
def I2 (w:World) (D Bk:Nat) (pre:List (Part jT)) (W:World):Prop :=
 (∃ v,W.heap[w.heap.size]?=some (.cells #[v] 47 (0,0))∧W.heap[Bk]?=some (.cells #[.string jT] 9 (0,0))∧Kd.S rC 54 W w.heap.size (fun _=>True) v (qB (pre.map Subtype.val)))∧W.heap[D]?=some (.deferred (some []))∧Below w.heap.size w W
theorem RH (w:World) (D Bk:Nat) (B:Nat) (hB:w.heap.size≤B) (hD:D<B):OwnFrom B (I2 w D Bk):=by
 intro s A W row hs hg hr
 obtain ⟨⟨v,h1,h4,h2⟩,h5,h3⟩:=hs
 exact ⟨⟨v,rX h1 hg (fun r e=>(hr r e).2),rX h4 hg (fun r e=>(hr r e).2),wG h2 hg (fun r e=>(hr r e).2)⟩,(hg.block D (gU h5) (fun he=>by have:=(hr D he.symm).1;omega)).trans h5,ownFrom_below (β:=Unit) (Nat.le_refl _) hB () A W row h3 hg hr⟩
set_option maxHeartbeats 2000000 in
set_option maxRecDepth 100000 in
theorem Fh (w:World):CallsIn Fence.wide 5 Try.prog 41 #[] w fun e W'=>∃ v,e=.returned v∧Kd.S rC 54 W' w.heap.size (fun _=>True) v (qB (parts jT))∧Below w.heap.size w W':=by
 have vH:=Try.underlying54
 have hF:∀ f,Fence.wide.fn f:=fun _=>trivial
 refine callsIn_of_wp_marks Try.func41 rfl trivial ?_ rfl
 simp only [Try.ntmps41,List.size_toArray,List.length_cons,List.length_nil,Nat.reduceAdd,Nat.reduceSub,Array.replicate_succ,Array.replicate_zero,List.push_toArray,List.append_toArray,List.nil_append,List.cons_append]
 gi_wp2_with (gi_at_call 75;refine (AO _ mG _).mono ?_;rintro e w' ⟨rfl,rfl⟩)
 have bT:=rY w (.cells #[.slice none 0 0] 47)
 have hB0:Below w.heap.size w ((w.alloc (.cells #[.slice none 0 0] 47)).alloc (.cells #[.string mG] 9)):=((Below.refl _ w).alloc (Nat.le_refl _) _).alloc (by simp) _
 have bN:=rY (w.alloc (.cells #[.slice none 0 0] 47)) (.cells #[.string mG] 9)
 rw [World.size_alloc] at bN
 have bT1:=lS bT (.cells #[.string mG] 9)
 refine wpIn_rangeFunc_ownG rfl (by decide) (gf:=86) (lb:=#[.pointer (some ⟨w.heap.size+1,0,none⟩)]) rfl trivial (enters_of Try.func86 aV rfl)
  (AP _ (by decide) (w.heap.size+1) mG DL _ bN) Ie (Ig (by simp)) (Below.refl _ _) (fun _=>rfl)
  (I1 w) (fun _ _ _=>False) (RD w _ (by simp;omega)) (fun _ _ _ _ _ hs _ _=>hs) ⟨⟨_,bT1,bN,Kd.PY _ _ _ _ _⟩,hB0⟩
  (fun x=>{ tmps:=#[.slice none 0 0,.pointer (some ⟨w.heap.size,0,none⟩),.int .i64 x.1.1,.string x.1.2,undef,undef,undef,undef,.func (.func 86) #[] #[.pointer (some ⟨w.heap.size+1,0,none⟩)],.int .i64 x.1.1,.string x.1.2,undef,undef,undef,undef,undef,undef,undef,undef,undef,undef,undef,undef,undef,undef,undef,undef,undef,undef,undef,undef,undef,undef,undef,undef,undef,undef,undef,undef,undef,undef,undef,undef,undef,undef,undef,undef,undef,undef,undef],defers:=[] }) ?assign ?body ?done ?stop
 case assign =>
  intro l x W K hK
  gi_wp2
  exact hK
 case stop =>
  rintro D c pre W _ _ h _
  exact h.elim
 case body =>
  rintro l pre x W ⟨⟨v,hv,hN,hS⟩,hB⟩ hlt
  have hpl:pre.length<59:=by rw [AU] at hlt;exact hlt
  have hcv:W.cell? ⟨w.heap.size,0,none⟩=some v:=(aJ hv 0).trans rfl
  have hfv:=aI hv 0
  have HV:=aA.mk hv
  have HS:=aA.mk hS
  have HB:=aA.mk hB
  have HN:=aA.mk hN
  have HL:=aA.mk hpl
  obtain ⟨A0,n0,c0,rfl⟩:=slice3 hS
  clear hv hS hB hN hlt hpl
  refine wpIn_block ?_
  refine IV aV (by rintro ⟨a,w',h⟩;exact h) ?_
  go_wp2_with (first|((with_reducible refine Cm (b:=.append) (xs:=#[.tmp 11,.tmp 18]) rfl ?_);at_builtin;go_loud (refine Kd.Ky rC (w0:=w) w.heap.size rfl (.tmp 11) (.tmp 18) 47 54 (.agg #[.string ⟨#[]⟩,.int .i64 0,.slice none 0 0]) 48 rfl Try.underlying47 Et rfl (by decide) (by decide) (.slice A0 n0 c0) (Ad (pre.map Subtype.val)) (AQ x.1) [.string x.1.2,.int .i64 (AQ x.1).f1,.slice none 0 0] (fun _=>True) (fun _=>False) rfl rfl ?aP (fun _ hk=>hk.elim) ?aF ?aO ?aB ?aS ?aL ?_);(case aP=>exact Gj _ _ _ (AQ x.1) (Kd.DV _ _ _ _ _));(case aB=>exact HB.out);(case aF=>exact (fun _ _=>trivial));(case aO=>exact Kd.zL HS.out (fun _ _=>⟨trivial,fun h=>h⟩));(case aS=>exact HB.out.size);(case aL=>have h:=HL.out;simp only [Ad,List.length_map];omega);intro v1 w6 ho hb hgr hat;obtain ⟨A1,n1,c1,rfl⟩:=slice3 ho;have Yp:=qW HV.out hgr (Kd.UW HS.out HV.out (by decide));have hn6:=qW HN.out hgr (Kd.UW HS.out HN.out (by decide));have HO:=aA.mk ho;have HB6:=aA.mk hb;have HG6:=aA.mk Yp;have HN6:=aA.mk hn6;have HR6:=aA.mk hgr;have hc6:=(aJ Yp 0).trans rfl;have hf6:=aI Yp 0;clear ho hb hgr hat Yp hn6))
  refine ⟨((KeepsOthers.of_grownBy HR6.out (fun j o ej hj=>by
   obtain ⟨cells,hc⟩:=Kd.Ob HS.out j ej;rw [hc] at hj
   cases hj
   rfl)).trans (KeepsOthers.setCell _ _ _)).from _,?_,⟨_,bH (cs:=#[.slice A0 n0 c0]) HG6.out 0 _ rfl,(Below.heap_setCell _ _ _ _ (by simp)).trans HN6.out,?_⟩,HB6.out.setCell (Nat.le_refl _) _⟩
  ·exact ((Below.heap_setCell _ _ _ _ (by simp)).trans HN6.out).trans HN.out.symm
  ·have h:=Kd.UX HO.out HG6.out (by decide +kernel) 0 (.slice A1 n1 c1);have e:Ad ((pre ++ [x]).map Subtype.val)=Ad (pre.map Subtype.val) ++ [AQ x.1]:=by simp [Ad]
   rw [e];exact h
 case done =>
  rintro D ys W hD hys ⟨⟨v,hv,hN,hS⟩,hB⟩ hK
  rw [hys] at hS
  gi_wp2_with (gi_at_call 75;refine (AO _ jT _).mono ?_;rintro e w' ⟨rfl,rfl⟩)
  have bK:=rY W (.cells #[.string jT] 9)
  have bT:=lS hv (.cells #[.string jT] 9)
  have bD:=lS hK (.cells #[.string jT] 9)
  have hDW:=gU hK
  have hwW:=gU hv
  refine wpIn_rangeFunc_ownG rfl (by decide) (gf:=86) (lb:=#[.pointer (some ⟨W.heap.size,0,none⟩)]) rfl trivial (enters_of Try.func86 aV rfl)
   (AP _ (by decide) W.heap.size jT DR _ bK) Ie (Ig (by simp)) (Below.refl _ _) (fun _=>rfl)
   (I2 w D W.heap.size) (fun _ _ _=>False) (RH w D _ _ (by simp;omega) (by simp;omega)) (fun _ _ _ _ _ hs _ _=>hs) ⟨⟨_,bT,bK,Kd.yO hS _⟩,bD,hB.alloc hB.size _⟩
   (fun x=>{ tmps:=#[.slice none 0 0,.pointer (some ⟨w.heap.size,0,none⟩),undef,undef,.int .i64 x.1.1,.string x.1.2,undef,undef,.func (.func 86) #[] #[.pointer (some ⟨w.heap.size+1,0,none⟩)],undef,undef,undef,undef,undef,undef,undef,undef,undef,undef,undef,.func (.func 86) #[] #[.pointer (some ⟨W.heap.size,0,none⟩)],.int .i64 x.1.1,.string x.1.2,undef,undef,undef,undef,undef,undef,undef,undef,undef,undef,undef,undef,undef,undef,undef,undef,undef,undef,undef,undef,undef,undef,undef,undef,undef,undef,undef],defers:=[] }) ?assign2 ?body2 ?done2 ?stop2
  case assign2 =>
   intro l x V K hK
   gi_wp2
   exact hK
  case stop2 =>
   rintro D2 c pre V _ _ h _;exact h.elim
  case done2 =>
   rintro D2 zs V hD2 hzs ⟨⟨v,hv,hN,hS⟩,hD1,hB⟩ hK2;have hcv:V.cell? ⟨w.heap.size,0,none⟩=some v:=(aJ hv 0).trans rfl;rw [hzs] at hS
   gi_wp2
   have hDD:D≠D2:=by simp at hD2;omega
   have g2:=grownBy_putObj' V D2 (.deferred none);have RI:(V.putObj D2 (.deferred none)).heap[D]?=some (.deferred (some [])):=(g2.block D (gU hD1) (fun he=>hDD (by cases he;rfl))).trans hD1;refine ⟨by simp,.inl ⟨_,_,rfl,run_takeDeferred hK2,?_⟩⟩;refine ⟨by simp,.inl ⟨_,_,rfl,run_takeDeferred RI,?_⟩⟩;have g1:=grownBy_putObj' (V.putObj D2 (.deferred none)) D (.deferred none);have hS2:=wG hS g2 (fun r e=>by cases e;exact ⟨_,hK2,rfl⟩);have hB2:Below w.heap.size w (V.putObj D2 (.deferred none)):=hB.trans (belowK_b (w:=w) (Nat.le_refl _) V D2 _ _ (by simp at hD2;omega) hK2 rfl rfl);have hS3:=wG hS2 g1 (fun r e=>by cases e;exact ⟨_,RI,rfl⟩);exact ⟨_,results_tmp rfl _ _ _,v,rfl,hS3,hB2.trans (belowK_b (w:=w) (Nat.le_refl _) _ D _ _ (by simp at hD;omega) RI rfl rfl)⟩
  case body2 =>
   rintro l pre x V ⟨⟨v,hv,hN,hS⟩,hD1,hB⟩ hlt;obtain ⟨hx0,hx1,hxs⟩:=AV x.1 x.2;rw [Fg] at hlt;have HPL:=aA.mk hlt;have HX0:=aA.mk hx0;have HX1:=aA.mk hx1;have HXS:=aA.mk hxs;have HV:=aA.mk hv;have HN:=aA.mk hN;have HS:=aA.mk hS;have HD:=aA.mk hD1;have HB:=aA.mk hB;clear hx0 hx1 hxs hv hN hS hD1 hB hlt hD hys hB0 bN bT1 bK bD hK bT;refine wpIn_block ?_
   gi_wp2
   gi_loopw [25] (fun p wr=>∃ (i:Int) (v:Value),p=.int .i64 i∧aA (0≤i∧i≤(x.1.2.size:Int))∧aA (wr.heap[w.heap.size]?=some (.cells #[v] 47 (0,0)))∧aA (wr.heap[W.heap.size]?=some (.cells #[.string jT] 9 (0,0)))∧aA (Kd.S rC 54 wr w.heap.size (fun _=>True) v (mY x.1 (qB (pre.map Subtype.val)) i.toNat))∧aA (wr.heap[D]?=some (.deferred (some [])))∧aA (Below w.heap.size w wr)∧aA (KeepsFrom (W.heap.size+1) V wr))
    (fun p _=>x.1.2.size-(intOf p).toNat)
   case atStart=>exact ⟨0,v,rfl,⟨⟨by omega,by omega⟩⟩,HV,HN,HS,HD,HB,⟨KeepsFrom.refl _ _⟩⟩
   case round =>
    have HN0:=HN;clear HV HN HS HD HB;obtain ⟨i,v,rfl,HI,HV,HN,HS,HD,HB,HK⟩:=hrel
    by_cases hlt:i<(x.1.2.size:Int)
    ·have hi0:0≤i:=HI.out.1;have hin:i.toNat<x.1.2.size:=by omega
     have HL:=aA.mk hlt;have ht0:decide (i<(x.1.2.size:Int))=true:=eH hlt;have hconv:(convert 25 25 (.slice (some ⟨wr.heap.size,0,none⟩) 7 7)).run Try.prog (wr.alloc (.cells #[.int .u8 45,.int .u8 114,.int .u8 118,.int .u8 98,.int .u8 119,.int .u8 115,.int .u8 110] 5))=.ok (.slice (some ⟨wr.heap.size,0,none⟩) 7 7) (wr.alloc (.cells #[.int .u8 45,.int .u8 114,.int .u8 118,.int .u8 98,.int .u8 119,.int .u8 115,.int .u8 110] 5 (7,8))):=Go.Lib.run_convert_bytes_const wr 25 5 _ 7 7 Try.underlying25 Try.underlying5;have bL:(wr.alloc (.cells #[.int .u8 45,.int .u8 114,.int .u8 118,.int .u8 98,.int .u8 119,.int .u8 115,.int .u8 110] 5 (7,8))).heap[wr.heap.size]?=some (.cells #[.int .u8 45,.int .u8 114,.int .u8 118,.int .u8 98,.int .u8 119,.int .u8 115,.int .u8 110] 5 (7,8)):=rY wr _;have hcall:=dV.calls 20 _ 7 [45,114,118,98,119,115,110] ((x.1.2[i.toNat]'hin).toNat:Int) _ _ (DU bL) (by decide) (RF _);have HC:=aA.mk hcall;clear hcall bL;have hcc:=uG x.1.2 i hin;have hw1:wrap64 (i+1)=i+1:=by have:=HXS.out;unfold wrap64;omega
     have HW:=aA.mk hw1;clear hw1;generalize hce:((x.1.2[i.toNat]'hin).toNat:Int)=c at HC hcc;have CC:=aA.mk hcc;clear hcc
     by_cases hk:0<kindOf c
     ·have hk0:decide (0<kindOf c)=true:=eH hk;have HKD:=aA.mk hk;clear hk
      gi_wp2_with (gi_at_call 76;refine (CallsIn.inRound l (callsIn_wide.2 HC.out)).mono ?_;rintro e w' ⟨rfl,⟨nd,rfl⟩⟩)
      have Tu:=aA.mk (iQ (oK (lS HV.out (.cells #[.int .u8 45,.int .u8 114,.int .u8 118,.int .u8 98,.int .u8 119,.int .u8 115,.int .u8 110] 5 (7,8))) nd));have Yq:=aA.mk (iQ (oK (lS HN.out (.cells #[.int .u8 45,.int .u8 114,.int .u8 118,.int .u8 98,.int .u8 119,.int .u8 115,.int .u8 110] 5 (7,8))) nd));have HS1:=aA.mk (Kd.Kz (Kd.CB (Kd.yO HS.out (.cells #[.int .u8 45,.int .u8 114,.int .u8 118,.int .u8 98,.int .u8 119,.int .u8 115,.int .u8 110] 5 (7,8))) nd));have HD1:=aA.mk (iQ (oK (lS HD.out (.cells #[.int .u8 45,.int .u8 114,.int .u8 118,.int .u8 98,.int .u8 119,.int .u8 115,.int .u8 110] 5 (7,8))) nd));have HB1:=aA.mk (fZ (gB (iG HB.out (.cells #[.int .u8 45,.int .u8 114,.int .u8 118,.int .u8 98,.int .u8 119,.int .u8 115,.int .u8 110] 5 (7,8))) nd));have rE:=aA.mk (HK.out.trans ((((KeepsOthers.alloc wr (.cells #[.int .u8 45,.int .u8 114,.int .u8 118,.int .u8 98,.int .u8 119,.int .u8 115,.int .u8 110] 5 (7,8))).trans (uY _ nd)).trans (KeepsOthers.drew _)).from (W.heap.size+1)));clear HV HN HS HD HB HK;have aAi:0<(mY x.1 (qB (pre.map Subtype.val)) i.toNat).length:=by rw [tY,DT];decide
      obtain ⟨g,cap,rfl,hge,UY,aAj,hgc⟩:=Kd.RJ HS1.out aAi;have hkn:x.1.1<((mY x.1 (qB (pre.map Subtype.val)) i.toNat).length:Int):=by rw [tY,DT];exact HX1.out
      have RN:0≤x.1.1:=HX0.out;obtain ⟨qX,cs,hcl,hM,hcc,hfr,UZ,hH⟩:=Kd.RP HS1.out z54 x.1.1 RN hkn;obtain ⟨v2,rfl,hr2⟩:=IJ hM;have hcell2:=hcc 2 v2 rfl;have hcellB:(((wr.alloc (.cells #[.int .u8 45,.int .u8 114,.int .u8 118,.int .u8 98,.int .u8 119,.int .u8 115,.int .u8 110] 5 (7,8))).drewN nd).drew).cell? ⟨w.heap.size,0,none⟩=some (.slice (some ⟨g,0,none⟩) (mY x.1 (qB (pre.map Subtype.val)) i.toNat).length cap):=(aJ Tu.out 0).trans rfl;have pk0:(0≤x.1.1)=True:=eq_true RN;have pk1:(x.1.1<((mY x.1 (qB (pre.map Subtype.val)) i.toNat).length:Int))=True:=eq_true hkn;have h54:rC.sz=3:=rfl;rw [h54] at hcell2;generalize hV2:(((wr.alloc (.cells #[.int .u8 45,.int .u8 114,.int .u8 118,.int .u8 98,.int .u8 119,.int .u8 115,.int .u8 110] 5 (7,8))).drewN nd).drew)=V2 at Tu Yq HS1 HD1 HB1 rE hr2 hcc hfr hH hcell2 hcellB UY hgc;refine Kv (m:=13) (S:=fun w'=>w'.cell? ⟨w.heap.size,0,none⟩=some (.slice (some ⟨g,0,none⟩) (mY x.1 (qB (pre.map Subtype.val)) i.toNat).length cap)∧w'.cell? ⟨g,x.1.1.toNat*3+2,none⟩=some v2) (ds:=[12]) aV (by rintro ⟨a,w',h⟩;exact h) #[false,false,false,false,false,false,false,false,false,false,false,false,false] aV rfl rfl (by rw [hV2];exact ⟨hcellB,hcell2⟩) (fun hHeld=>?_);rw [hV2] at hHeld ⊢
      refine dZ (i:=1) (N:=some 37) (v:=?_) (a':=?_) #[false,true,false,false,false,false,false,false,false,false,false,false,false] rfl rfl aV (fun _ _ _ h=>h) (dO ?_) ?_ ?_;rotate_left
      ·intro w';go_simp;with_reducible rfl
      rotate_left
      ·simp only [Act.put,dD];rfl
      refine dZ (i:=3) (N:=some 39) (v:=?_) (a':=?_) #[false,true,false,true,false,false,false,false,false,false,false,false,false] rfl rfl aV (fun _ _ _ h=>h) (dO ?_) ?_ ?_;rotate_left
      ·intro w';go_simp;with_reducible rfl
      rotate_left
      ·simp only [Act.put,dD];rfl
      refine dZ (i:=7) (N:=some 43) (v:=?_) (a':=?_) #[false,true,false,true,false,false,false,true,false,false,false,false,false] rfl rfl aV (fun _ _ _ h=>h) (dO ?_) ?_ ?_;rotate_left
      ·intro w';go_simp;with_reducible rfl
      rotate_left
      ·simp only [Act.put,dD];rfl
      refine kT (i:=0) (N:=some 36) (v:=?_) (a':=?_) #[true,true,false,true,false,false,false,true,false,false,false,false,false] rfl rfl aV (fun _ _ _ h=>h) (dO ?_) hHeld ?_ ?_;rotate_left
      ·rintro w' ⟨s0,s1⟩;go_simp;with_reducible rfl
      rotate_left
      ·simp only [Act.put,dD];rfl
      refine kT (i:=2) (N:=some 38) (v:=?_) (a':=?_) #[true,true,true,true,false,false,false,true,false,false,false,false,false] rfl rfl aV (fun _ _ _ h=>h) (dO ?_) hHeld ?_ ?_;rotate_left
      ·rintro w' ⟨s0,s1⟩;go_simp;with_reducible rfl
      rotate_left
      ·simp only [Act.put,dD];rfl
      refine dZ (i:=4) (N:=some 40) (v:=?_) (a':=?_) #[true,true,true,true,true,false,false,true,false,false,false,false,false] rfl rfl aV (fun _ _ _ h=>h) (dO ?_) ?_ ?_;rotate_left
      ·intro w';go_simp;with_reducible rfl
      rotate_left
      ·simp only [Act.put,dD];rfl
      refine dZ (i:=5) (N:=some 41) (v:=?_) (a':=?_) #[true,true,true,true,true,true,false,true,false,false,false,false,false] rfl rfl aV (fun _ _ _ h=>h) (dO ?_) ?_ ?_;rotate_left
      ·intro w';go_simp;with_reducible rfl
      rotate_left
      ·simp only [Act.put,dD];rfl
      refine kT (i:=6) (N:=some 42) (v:=?_) (a':=?_) #[true,true,true,true,true,true,true,true,false,false,false,false,false] rfl rfl aV (fun _ _ _ h=>h) (dO ?_) hHeld ?_ ?_;rotate_left
      ·rintro w' ⟨s0,s1⟩;go_simp;with_reducible rfl
      rotate_left
      ·simp only [Act.put,dD];rfl
      refine xW (i:=8) (N:=some 44) #[true,true,true,true,true,true,true,true,true,false,false,false,false] rfl rfl aV (by decide) (fun K hK=>?_);refine KA (w1:=?_) (v:=?_) (by rfl) rfl ?_ ?_;rotate_left 2
      ·go_simp
       constructor
       ·rfl
       ·rfl
      have hA:=iG (Below.refl V2.heap.size V2) (.cells #[.int .i64 (kindOf c)] 3);refine hK.out _ _ ⟨(hA.cell (p:=⟨w.heap.size,0,none⟩) (gU Tu.out)).trans hHeld.1,(hA.cell (p:=⟨g,_,none⟩) UY).trans hHeld.2⟩ (fun hHeld=>?_);clear hK K;refine vW (a':=?_) ?_ ?_;rotate_left
      ·show Act.put _ (some 44) _=_;simp only [Act.put,dD];rfl
      refine xW (i:=9) (N:=some 45) #[true,true,true,true,true,true,true,true,true,true,false,false,false] rfl rfl aV (by decide) (fun K hK=>?_);refine Kd.uJ (Kd.int .i64) (w0:=w) w.heap.size (by rfl) (.tmp 42) (.tmp 44) 22 3 (.int .i64 0) 8 rfl Try.underlying22 info3 rfl (by decide) (by omega) v2 _ (kindOf c) [.int .i64 (kindOf c)] (fun k_=>qX k_∨True∧V2.heap.size≤k_) (fun _=>False) rfl rfl rfl (fun _ hk=>hk.elim) (fun k_ hk=>.inr ⟨trivial,hk⟩) (Kd.mD hr2 (fun _ hk=>.inl hk)) HB1.out HB1.out.size ?aL ?_
      case aL=>have:=RG x pre i.toNat (by have:=HI.out;have:=HXS.out;omega) HPL.out x.1.1.toNat;omega
      intro v9 w9 ho hb hg hat
      have HV9:=aA.mk (qW Tu.out hg (Kd.Oc hr2 Tu.out (by decide)));have HN9:=aA.mk (qW Yq.out hg (Kd.Oc hr2 Yq.out (by decide)));have HG9:=aA.mk (qW hgc hg (Kd.Oc hr2 hgc (by decide)));have HD9:=aA.mk ((hg.block D (gU HD1.out) (fun he=>by
       obtain ⟨cells,Oe⟩:=Kd.yP hr2 D he.symm;rw [HD1.out] at Oe
       cases Oe)).trans HD1.out)
      have HH9:=aA.mk (Kd.Og (Kd.Oh hH) hg (fun k hk=>.inl (hr2.1 k hk)));have HK9:=aA.mk (rE.out.trans ((KeepsOthers.of_grownBy hg (fun j o9 ej hj=>by
       obtain ⟨cells,Oe⟩:=Kd.yP hr2 j ej;rw [Oe] at hj
       cases hj
       rfl)).from (W.heap.size+1)))
      have HB9:=aA.mk hb;have HO9:=aA.mk ho;obtain ⟨A9,n9,c9,rfl⟩:=Rz ho;have aAk:w.heap.size≠g:=by intro he;have h1:=Tu.out;rw [he,hgc] at h1;cases h1
      have hkne:W.heap.size≠g:=by intro he;have h1:=Yq.out;rw [he,hgc] at h1;cases h1
      have aAl:D≠g:=by intro he;have h1:=HD1.out;rw [he,hgc] at h1;cases h1
      have hcg:w9.cell? ⟨g,x.1.1.toNat*3+2,none⟩=some v2:=by
       have h1:=(DN (HG9.out.trans hgc.symm) (x.1.1.toNat*3+2));rw [h1];exact hcell2
      refine hK.out _ _ ⟨(aJ HV9.out 0).trans rfl,hcg⟩ (fun hHeld=>?_);clear hK K;refine vW (a':=?_) ?_ ?_;rotate_left
      ·show Act.put _ (some 45) _=_;simp only [Act.put,dD];rfl
      refine dZ (i:=10) (N:=some 46) (v:=?_) (a':=?_) #[true,true,true,true,true,true,true,true,true,true,true,false,false] rfl rfl aV (fun _ _ _ h=>h) (dO ?_) ?_ ?_;rotate_left
      ·intro w';go_simp;with_reducible rfl
      rotate_left
      ·simp only [Act.put,dD];rfl
      refine dZ (i:=11) (N:=some 47) (v:=?_) (a':=?_) #[true,true,true,true,true,true,true,true,true,true,true,true,false] rfl rfl aV (fun _ _ _ h=>h) (dO ?_) ?_ ?_;rotate_left
      ·intro w';go_simp;with_reducible rfl
      rotate_left
      ·simp only [Act.put,dD];rfl
      have hfg:=aI HG9.out (x.1.1.toNat*3+2);refine KC (i:=12) (N:=none) #[true,true,true,true,true,true,true,true,true,true,true,true,true] rfl rfl aV (by decide) (fun K hK=>?_);refine AY (w1:=?_) (by rfl) rfl ?_ ?_;rotate_left
      ·go_simp;rfl
      refine hK.out _ _ ?_;clear hK K;refine sG aV ?_
      gi_wp2
      go_roundw
      case rel =>
       refine ⟨i+1,_,by first|rfl|rw [HW.out],⟨⟨by omega,by have:=HL.out;omega⟩⟩,⟨(Below.heap_setCell _ _ _ _ aAk).trans HV9.out⟩,⟨(Below.heap_setCell _ _ _ _ hkne).trans HN9.out⟩,⟨?_⟩,⟨(Below.heap_setCell _ _ _ _ aAl).trans HD9.out⟩,⟨HB9.out.setCell hge _⟩,⟨HK9.out.trans ((KeepsOthers.setCell _ _ _).from _)⟩⟩;rw [zM x.1 _ i hi0,← CC.out,Kw _ _ _ (by have:=HKD.out;omega)];have h1:=(Kd.RQ HH9.out RN hkn (seg:=[.slice A9 n9 c9]) (j:=2) (x':=(⟨((mY x.1 (qB (pre.map Subtype.val)) i.toNat).getD x.1.1.toNat z54).f0,((mY x.1 (qB (pre.map Subtype.val)) i.toNat).getD x.1.1.toNat z54).f1,((mY x.1 (qB (pre.map Subtype.val)) i.toNat).getD x.1.1.toNat z54).f2 ++ [kindOf c]⟩:iJ)) (by show 2+1≤3;decide) (Gj _ _ _ (⟨((mY x.1 (qB (pre.map Subtype.val)) i.toNat).getD x.1.1.toNat z54).f0,((mY x.1 (qB (pre.map Subtype.val)) i.toNat).getD x.1.1.toNat z54).f1,((mY x.1 (qB (pre.map Subtype.val)) i.toNat).getD x.1.1.toNat z54).f2 ++ [kindOf c]⟩:iJ) HO9.out) (fun _ hk=>hk)).1;exact h1
      case measure=>have:=HL.out;have:=HW.out;simp [intOf,this];omega
     ·have hk0:decide (0<kindOf c)=false:=iE hk;have HKD:=aA.mk hk;clear hk
      gi_wp2_with (gi_at_call 76;refine (CallsIn.inRound l (callsIn_wide.2 HC.out)).mono ?_;rintro e w' ⟨rfl,⟨nd,rfl⟩⟩)
      go_roundw
      case rel =>
       refine ⟨i+1,v,by first|rfl|rw [HW.out],⟨⟨by omega,by have:=HL.out;omega⟩⟩,⟨oK (lS HV.out _) _⟩,⟨oK (lS HN.out _) _⟩,⟨?_⟩,⟨oK (lS HD.out _) _⟩,⟨gB (iG HB.out _) _⟩,⟨HK.out.trans (((KeepsOthers.alloc _ _).trans (uY _ _)).from _)⟩⟩;rw [zM x.1 _ i hi0,← CC.out,IX _ _ _ (by have:=HKD.out;omega)];exact Kd.CB (Kd.yO HS.out _) _
      case measure=>have:=HL.out;have:=HW.out;simp [intOf,this];omega
    ·have ht0:decide (i<(x.1.2.size:Int))=false:=iE hlt;have hie:i.toNat=x.1.2.size:=by have:=HI.out;omega
     gi_wp2
     refine ⟨HK.out,HN.out.trans HN0.out.symm,⟨v,HV.out,HN.out,?_⟩,HD.out,HB.out⟩;have e:qB ((pre ++ [x]).map Subtype.val)=mY x.1 (qB (pre.map Subtype.val)) i.toNat:=by rw [hie,qB,List.map_append,List.foldl_append];rfl
     rw [e];exact HS.out
end Go.Proofs.Ytipjpdiianopcaa.Cd
namespace Go.Proofs.Ytipjpdiianopcaa.Cd
open Go.RowKit Go.Proofs.YtipjpdiianopcaaW.aZ Go.Proofs.Ytipjpdiianopcaa.A Go.Proofs.Ytipjpdiianopcaa.Cf
def kM.f:Option (List iJ):=some (qB (parts jT))
theorem kM.calls (r:List iJ) (w:World) (h:kM.f=some r) :
  Calls Try.prog 41 #[] w fun e w'=>∃ PK:Value,e=.returned (PK)∧Kd.N rC 54 w' w.heap.size (fun k_=>(w.heap.size≤k_)) PK r∧Below w.heap.size w w':=by
 obtain rfl:=Option.some.inj h
 refine (callsIn_wide.1 (Fh w)).mono ?_
 rintro e w' ⟨v,rfl,hS,hB⟩
 exact ⟨v,rfl,Kd.S_N (Kd.zL (Kd.Ce hS) (fun _ hk=>hk.2.1)),hB⟩
end Go.Proofs.Ytipjpdiianopcaa.Cd
