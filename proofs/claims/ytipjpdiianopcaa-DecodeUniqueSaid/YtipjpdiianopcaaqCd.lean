/- Words and contracts for the laws of encode. -/
import Derived.RangeFuncCalls
import Derived.OrdersIn
import Derived.TacticsIn
import Derived.Test.YtipjpdiianopcaaqWM
import Derived.RangeFuncNested
import Derived.RangeFuncBound
import Derived.RangeFuncLeaves
import Derived.RangeFuncBox
import Derived.Shelf.Abstract
import Derived.Shelf.RegionOpen
import Derived.WalkKit
import Derived.OwnWalkIn
import Derived.TacticsInMore
import Derived.LoopNIn
import Derived.LoopIn
import Derived.Maps.AppendAt
import Derived.Test.YtipjpdiianopcaaqAx0
import Derived.Test.YtipjpdiianopcaaqAx7
import Derived.Lib.SlBytesConst
set_option linter.unusedVariables false
set_option linter.unusedSimpArgs false
namespace Go.Proofs.Ytipjpdiianopcaa.Ch
open Go.RowKit Go.Proofs.YtipjpdiianopcaaW.fO
variable {P:Program} {ops:Array Oper} {Q:Exit→Act→World→Prop} {S:World→Prop} {l n:Nat}
theorem aZb {o:Oper} {a:Act} {w:World} {K:Act→World→Prop} (hd:∀ c,o.op≠.defer c) (h:o.wp P a w K Q):o.wpIn (Fence.wide.inRound l) n P a w K Q:=by
 refine ⟨fun _ _=>trivial,?_⟩
 rw [show (Fence.wide.inRound l).round=some l from rfl,Oper.semAt_some l a.eval o hd]
 unfold Oper.wp at h
 generalize (execOp a.eval o).run P w=r at h ⊢
 unfold Oper.upon at h
 unfold Oper.uponIn
 split at h
 ·exact h
 ·exact h
 ·exact h
 ·exact ⟨(fun h=>by simp [Fence.wide] at h),CallsIn.inRound l (callsIn_wide.2 h)⟩
 ·refine ⟨(fun h=>by simp [Fence.wide] at h),fun c cs _=>?_⟩
  obtain ⟨v,w',hv,hs⟩:=h c cs
  exact ⟨v,w',hv,stepsIn_wide.2 hs⟩
 ·exact h
 ·exact h.elim
theorem aTq {i:Nat} {a:Act} {w:World} {K:Act→World→Prop} (hd:∀ (j:Nat) o,ops[j]?=some o→∀ c,o.op≠.defer c) (hq:¬ LetsOut Q) (h:wpOp P ops Q i K a w):wpOpIn (Fence.wide.inRound l) n P ops Q i K a w:=by
 unfold wpOp at h
 unfold wpOpIn
 cases ho:ops[i]? with
 | none=>rw [ho] at h;exact h
 | some o =>
  rw [ho] at h
  dsimp only at h ⊢
  split
  ·rename_i hw
   rw [if_pos hw] at h
   rcases h with h|h
   ·exact aZb (hd i o ho) h
   ·exact absurd h.2 hq
  ·rename_i hw
   rw [if_neg hw] at h;exact ⟨fun _ _=>trivial,h⟩
theorem aKN {md:Region.Mode} (hd:∀ (j:Nat) o,ops[j]?=some o→∀ c,o.op≠.defer c) (hq:¬ LetsOut Q):∀ (fuel:Nat) (listed:Array Bool) (a:Act) (w:World),wpAny P md ops Q fuel listed a w→wpAnyIn (Fence.wide.inRound l) n P md ops Q fuel listed a w
 | 0,_,_,_,h=>h
 | fuel+1,_,_,_,h=>⟨h.1,fun i hi=>aTq hd hq (wpOp_mono (fun a' w' h'=>aKN hd hq fuel _ a' w' h') (h.2 i hi))⟩
def aGT (ops:Array Oper):Bool:=ops.all fun o=>match o.op with|.defer _=>false|_=>true
theorem aBk (h:aGT ops=true):∀ (j:Nat) o,ops[j]?=some o→∀ c,o.op≠.defer c:=by
 intro j o ho c hc
 have h1:=Array.all_eq_true_iff_forall_mem.1 h o (Array.mem_of_getElem? ho)
 rw [hc] at h1
 cases h1
theorem YF {id m:Nat} {a:Act} {w:World} {ds:List Nat} (hnd:aGT ops=true) (hq:¬ LetsOut Q) (lb:Array Bool) (hm:P.follows .mixedOrders=true) (hn:ops.size=m) (hl:Array.replicate m false=lb) (hS:S w.drew)
  (h:S w.drew→jR P .any ops Q S ds m lb a w.drew):(Code.region id ops true).wpIn (Fence.wide.inRound l) n P Q a w:=by
 subst hn
 subst hl
 exact wpIn_region_any hm (aKN (aBk hnd) hq _ _ _ _ (GY _ _ _ _ (h hS)))
end Go.Proofs.Ytipjpdiianopcaa.Ch
namespace Go.Proofs.Ytipjpdiianopcaa.Cf
open Go.RowKit Go.Shelf Go.Proofs.YtipjpdiianopcaaW.dF
attribute [local go_sem] Oper.semAt_some
set_option linter.unusedVariables false
set_option linter.unusedSimpArgs false
def items (s:ByteArray):Nat→Int→Int→Int→List (Int × ByteArray)
 | 0,_,_,_=>[]
 | d+1,i,n,st=>if bt s i=32 then (n,s.extract st.toNat i.toNat) :: items s d (i+1) (n+1) (i+1) else items s d (i+1) n st
def parts (s:ByteArray):List (Int × ByteArray):=items s s.size 0 0 0
def aQb (Bn:Nat) (W W':World):Prop:=W'.heap[Bn]?=W.heap[Bn]?
abbrev Part (s:ByteArray):={ x:Int × ByteArray // x ∈ parts s }
set_option maxRecDepth 100000 in
set_option maxHeartbeats 2000000 in
theorem aTr (n:Nat) (hn:1≤n) (l Bn:Nat) (s:ByteArray) (hs:s.size≤1000000) (J Jx:List (Part s)→World→Prop)
  (hY:∀ pre x W,J pre W→pre.length<(parts s).length→YieldAt Fence.wide (n-1) Try.prog l #[.int .i64 x.1.1,.string x.1.2] W fun e W' =>
   (e=.returned (.bool true)∧J (pre ++ [x]) W'∧aQb Bn W W')∨(e=.returned (.bool false)∧Jx (pre ++ [x]) W'))
  (W:World) (hBn:W.heap[Bn]?=some (.cells #[.string s] 9 (0,0))) (h0:J [] W) :
  CallsIn Fence.wide n Try.prog 86 #[.func (.yield l) #[] #[],.pointer (some ⟨Bn,0,none⟩)] W fun e W'=>(∃ v,e=.returned v) ∧
   ((∃ ys,ys.map Subtype.val=parts s∧J ys W')∨(∃ pre,True∧Jx pre W')):=by
 refine callsIn_of_wp Try.func86 rfl trivial ?_ rfl
 simp only [Try.ntmps86,List.size_toArray,List.length_cons,List.length_nil,Nat.reduceAdd,Nat.reduceSub,Array.replicate_succ,Array.replicate_zero,List.push_toArray,List.append_toArray,List.nil_append,List.cons_append]
 have hc0:W.cell? ⟨Bn,0,none⟩=some (.string s):=(aC hBn 0).trans rfl
 gi_wp2
 gi_loopw [3,4,8] (fun p3 p4 p8 wr=>∃ (k st i:Int) (pre:List (Part s)),p3=.int .i64 k∧p4=.int .i64 st∧p8=.int .i64 i∧0≤k∧k≤i∧0≤st∧st≤i∧i≤(s.size:Int)∧pre.map Subtype.val ++ items s (s.size-i.toNat) i k st=parts s∧J pre wr∧wr.heap[Bn]?=some (.cells #[.string s] 9 (0,0)))
  (fun _ _ i _=>s.size-(intOf i).toNat)
 case atStart=>exact ⟨0,0,0,[],rfl,rfl,rfl,by omega,by omega,by omega,by omega,by omega,rfl,h0,hBn⟩
 case round =>
  obtain ⟨k,st,i,pre,rfl,rfl,rfl,hk0,hk1,hs0,hs1,hi,hx,hJs,hnx⟩:=hrel
  have hi0:0≤i:=by omega
  have hcell:wr.cell? ⟨Bn,0,none⟩=some (.string s):=(aC hnx 0).trans rfl
  by_cases hlt:i<(s.size:Int)
  ·have hd:s.size-i.toNat=(s.size-(i+1).toNat)+1:=by omega
   rw [hd] at hx;simp only [items] at hx;have hw1:wrap64 (i+1)=i+1:=by unfold wrap64;omega
   have hw2:wrap64 (k+1)=k+1:=by unfold wrap64;omega
   have hin:i.toNat<s.size:=by omega
   by_cases hc:bt s i=32
   ·rw [if_pos hc] at hx;have hcv:(((s[i.toNat]'hin).toNat:Int)==32)=true:=by rw [RU s i hin,hc];rfl
    have hm:(k,s.extract st.toNat i.toNat) ∈ parts s:=by rw [← hx];simp
    have hlen:pre.length<(parts s).length:=by rw [← hx];simp
    obtain ⟨fn,tmps,assign,body,hy,hR⟩:=hY pre ⟨(k,s.extract st.toNat i.toNat),hm⟩ wr hJs hlen
    dsimp only at hy
    gi_wp2
    refine hR.mono ?_;rintro e W3 (⟨rfl,hJ3,hk3⟩|⟨rfl,hJx3⟩)
    ·gi_wp2
     go_roundw
     case rel=>exact ⟨k+1,i+1,i+1,pre ++ [⟨(k,s.extract st.toNat i.toNat),hm⟩],by first|rfl|rw [hw2],by first|rfl|rw [hw1],by first|rfl|rw [hw1],by omega,by omega,by omega,by omega,by omega,(by rw [List.map_append,List.append_assoc];exact hx),hJ3,hk3.trans hnx⟩
     case measure=>simp [intOf,hw1];omega
    ·gi_wp2
     refine bodyPost_ret (results_none rfl _ _ _) rfl ?_;exact ⟨⟨_,rfl⟩,.inr ⟨_,trivial,hJx3⟩⟩
   ·rw [if_neg hc] at hx;have hcv:(((s[i.toNat]'hin).toNat:Int)==32)=false:=by rw [RU s i hin];exact beq_eq_false_iff_ne.2 hc
    gi_wp2
    go_roundw
    case rel=>exact ⟨k,st,i+1,pre,rfl,rfl,by first|rfl|rw [hw1],by omega,by omega,by omega,by omega,by omega,hx,hJs,hnx⟩
    case measure=>simp [intOf,hw1];omega
  ·have hd:s.size-i.toNat=0:=by omega
   rw [hd] at hx;simp only [items,List.append_nil] at hx
   gi_wp2
   go_end0
   exact ⟨⟨_,rfl⟩,.inl ⟨pre,hx,hJs⟩⟩
theorem UQ (n:Nat) (hn:1≤n) (Bn:Nat) (s:ByteArray) (hs:s.size≤1000000) (w:World) (hc:w.heap[Bn]?=some (.cells #[.string s] 9 (0,0))) :
  SeqStopsK Fence.wide n Try.prog 86 #[.pointer (some ⟨Bn,0,none⟩)] (fun x:Part s=>#[Value.int .i64 x.1.1,.string x.1.2]) (aQb Bn) (fun ys=>ys.map Subtype.val=parts s) (fun _=>True) (parts s).length w:=fun l J Jx W hW _ _ hY h0 =>
 aTr n hn l Bn s hs J Jx hY W ((hW.block Bn (bU hc)).trans hc) h0
end Go.Proofs.Ytipjpdiianopcaa.Cf
namespace Go.Proofs.Ytipjpdiianopcaa.Cd
open Go.RowKit Go.Shelf Go.Proofs.YtipjpdiianopcaaW.dF Go.Proofs.YtipjpdiianopcaaW.fO Go.Proofs.YtipjpdiianopcaaW.jP Go.Proofs.Ytipjpdiianopcaa.A Go.Proofs.Ytipjpdiianopcaa.Cf Go.Proofs.Ytipjpdiianopcaa.Ch
attribute [local go_sem] Oper.semAt_some
set_option linter.unusedVariables false
set_option linter.unusedSimpArgs false
def aZc (x:Int × ByteArray):nJ:=⟨x.2,Int.tmod (wrap64 (wrap64 (37*x.1)+11)) 256,[]⟩
def aUC (pre:List (Int × ByteArray)):List nJ:=pre.map aZc
end Go.Proofs.Ytipjpdiianopcaa.Cd
namespace Go.Proofs.Ytipjpdiianopcaa.Cd
open Go.RowKit Go.Shelf Go.Proofs.YtipjpdiianopcaaW.dF Go.Proofs.YtipjpdiianopcaaW.fO Go.Proofs.YtipjpdiianopcaaW.jP Go.Proofs.Ytipjpdiianopcaa.A Go.Proofs.Ytipjpdiianopcaa.Cf Go.Proofs.Ytipjpdiianopcaa.Ch
attribute [local go_sem] Oper.semAt_some
set_option linter.unusedVariables false
set_option linter.unusedSimpArgs false
end Go.Proofs.Ytipjpdiianopcaa.Cd
namespace Go.Proofs.Ytipjpdiianopcaa.Cd
open Go.RowKit Go.Proofs.YtipjpdiianopcaaW.dF Go.Proofs.Ytipjpdiianopcaa.A Go.Proofs.Ytipjpdiianopcaa.Cf
end Go.Proofs.Ytipjpdiianopcaa.Cd
