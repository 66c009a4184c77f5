/- Words and contracts for the laws of encode. -/
import Derived.Test.YtipjpdiianopcaaqAx0
namespace Go.Proofs.Ytipjpdiianopcaa.Cgr
open Go.RowKit Go.Proofs.YtipjpdiianopcaaW.dF Go.Proofs.YtipjpdiianopcaaW.fO Go.Proofs.YtipjpdiianopcaaW.jP Go.Proofs.Ytipjpdiianopcaa.A
set_option linter.unusedVariables false
set_option linter.unusedSimpArgs false
set_option maxHeartbeats 4000000 in
set_option maxRecDepth 100000 in
theorem aKM (n:Nat) (w0 w:World) (base:Nat) (hB:Below base w0 w) (hb:base≤w.heap.size) (hn:n≤1000000000) :
  Calls Try.prog 92 #[.slice none 0 0,.int .i64 n] w fun e w'=>∃ A c,e=.returned (.slice A 0 c)∧(Kd.int .u8).R 5 w' base (fun _=>True) (.slice A 0 c) []∧Below base w0 w'∧∀ k,k<w.heap.size→w'.heap[k]?=w.heap[k]?:=by
 have c1:¬ ((n:Int)<0):=by omega
 have e1:wrap64 ((n:Int)-0)=n:=by unfold wrap64;omega
 have hc:(n:Int)=0∨(n:Int)>0:=by omega
 go_enter Try.func92,Try.ntmps92
 rcases hc with hc|hc
 ·have c2:¬ ((n:Int)>0):=by omega
  go_wp2
  refine bodyPost_ret (results_tmp rfl _ _ _) rfl ?_
  exact ⟨none,0,rfl,Kd.BV _ _ _ _ _,hB,fun _ _=>rfl⟩
 ·go_wp2_with (at_builtin;refine Kd.YK (Kd.int .u8) (w0:=w0) base rfl (.tmp 20) (.tmp 21) 25 3 5 (.int .u8 0) 1 rfl Try.underlying25 Try.underlying3 info5 rfl (by decide) (by omega) (.slice none 0 0) [] 0 (kx:=.i64) (n:Int) (fun _=>True) rfl rfl ?aZ (fun _ _=>trivial) (Kd.BV _ _ _ _ _) (by omega) hB hb ?aL ?_;(case aZ=>exact rfl);(case aL=>simp only [List.length_nil];omega);intro v1 w1 ho hbb hg hat;obtain ⟨g,cap,rfl,hg1,hg2,cl,hg3⟩:=Kd.Qx ho (by simp only [List.length_append,List.length_replicate,List.length_nil];omega);have hT:=aA.mk (Kd.aTZ (m:=0) ho (Nat.zero_le _));have hGr:=aA.mk hg;have hBB:=aA.mk hbb;clear ho hg hbb hat hg3)
  refine bodyPost_ret (results_tmp rfl _ _ _) rfl ?_
  exact ⟨_,_,rfl,hT.out,hBB.out,fun k hk=>hGr.out.block k hk (by simp [Value.ownBlock])⟩
end Go.Proofs.Ytipjpdiianopcaa.Cgr
