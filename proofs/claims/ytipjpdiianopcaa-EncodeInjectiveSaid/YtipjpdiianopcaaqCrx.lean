/- Words and contracts for the laws of encode. -/
import Derived.Test.YtipjpdiianopcaaqCrow
set_option linter.unusedVariables false
set_option linter.unusedSimpArgs false
namespace Go.Proofs.Ytipjpdiianopcaa.NK
open Go.Deep Go.ChangeShapes Go.WideShapes Go.RowKit Go.Proofs.YtipjpdiianopcaaW.dF Go.Proofs.Ytipjpdiianopcaa.A
variable {H:Type} {enc:TypeId × Value→H} {w:World}
set_option maxRecDepth 100000 in
theorem aN6 {cs:Array Value} {d:DataW H} {p:List MemPlace} (hcs:cs.size=Try.prog.cellsOf 65) (h:∃ m,DataW.trod enc Try.prog w 0 (fun _=>true) true m 65 cs.toList=some (d,p)) :
  ∃ (f:Int) (c:Nat) (A:Option Addr) (l:List Int),cs=#[.int .i64 f,.slice A l.length c]∧Kd.C (Kd.int .i64) w A l.length l∧l.length≤c∧((Lit.int .i64 f).wf=true∧YM l)∧((∀ n ∈ d.weights Try.prog 65,n≤140737488351232)→l.length*8≤140737488351232):=by
 obtain ⟨fuel,h⟩:=h
 obtain ⟨y0,y1,n,hy,hlen,h0,h1⟩:=trod_struct2 Try.underlying65 h
 have hl:cs.size=2:=hcs.trans aQ
 obtain ⟨cl⟩:=cs
 rcases cl with _|⟨a,_|⟨b,_|⟨c,r⟩⟩⟩
 ·cases hl
 ·cases hl
 ·have e0:DataW.trod enc Try.prog w 0 (fun _=>true) true n 3 [a]=some y0:=h0
  have e1:DataW.trod enc Try.prog w 0 (fun _=>true) true n 22 [b]=some y1:=h1
  obtain ⟨m,hm,_,hwm⟩:=DataW.trod_int Try.underlying3 e0
  obtain ⟨A,cc,l,rfl,hc,hC,hl2,hz2⟩:=aAl e1
  cases hm
  refine ⟨m,cc,A,l,rfl,hC,hc,⟨hwm,hl2⟩,fun hq=>hz2 fun n hn=>hq n ?_⟩
  have hd:d=.agg [y0.1,y1.1]:=congrArg Prod.fst hy
  subst hd
  simp only [DataW.weights,Try.underlying65,DataW.weightsEach,List.map_cons,List.map_nil,List.mem_append,List.append_nil]
  exact .inr hn
 ·simp only [List.size_toArray,List.length_cons] at hl;omega
end Go.Proofs.Ytipjpdiianopcaa.NK
