/- Words and contracts for the laws of encode. -/
import Derived.Deep.Slices
import Derived.Deep.Strs
import Derived.ChangeSlices
import Derived.Test.YtipjpdiianopcaaqAx0
set_option linter.unusedVariables false
set_option linter.unusedSimpArgs false
namespace Go.Proofs.Ytipjpdiianopcaa.NK
open Go.Deep Go.ChangeShapes Go.WideShapes Go.RowKit Go.Proofs.YtipjpdiianopcaaW.dF Go.Proofs.Ytipjpdiianopcaa.A
variable {H:Type} {enc:TypeId × Value→H} {w:World}
def YM (l:List Int):Prop:=l.length≤maxLen∧∀ x ∈ l,(Lit.int .i64 x).wf=true
def YN (f:nJ):Prop:=f.f0.size≤maxLen∧(Lit.int .i64 f.f1).wf=true∧YM f.f2
def GL (f:nJ):Prop:=f.f0.size≤140737488351232∧f.f2.length*8≤140737488351232
theorem bytes3:Try.prog.bytesOf 3=8:=by kernel_rfl
theorem aN5:Try.prog.bytesOf 54=48:=by kernel_rfl
theorem aG5 {P:Program} {e:TypeId} {d:DataW H} {m:Nat} (hm:m ∈ d.weights P e):∀ {l:List (DataW H)},d ∈ l→m ∈ DataW.weightsAll P e l
 | x :: r,h=>by
  simp only [DataW.weightsAll,List.mem_append]
  rcases List.mem_cons.1 h with h|h
  ·subst h;exact .inl hm
  ·exact .inr (aG5 hm h)
theorem aAl {fuel:Nat} {v:Value} {y:DataW H × List MemPlace} (h:DataW.trod enc Try.prog w 0 (fun _=>true) true fuel 22 [v]=some y) :
  ∃ (A:Option Addr) (c:Nat) (l:List Int),v=.slice A l.length c∧l.length≤c∧Kd.C (Kd.int .i64) w A l.length l∧YM l∧((∀ n ∈ y.1.weights Try.prog 22,n≤140737488351232)→l.length*8≤140737488351232):=by
 rcases open_ints Try.underlying22 Try.underlying3 aQ h with ⟨hcs,_⟩|⟨x,len,c,zs,hcs,_,hl,hm,hz,hx,hcell,hwz⟩
 ·simp at hcs
  subst hcs
  exact ⟨none,0,[],rfl,Nat.le_refl _,⟨rfl,by simp,fun h=>absurd h (by simp)⟩,by simp [YM],fun _=>by simp⟩
 ·simp at hcs
  subst hcs
  obtain ⟨l,e,hr,hm2,hw,hc⟩:=pJ.aT1 (k:=.i64) (w:=w) (a:=some x) (len:=len) (cap:=c) (zs:=zs) (.inr ⟨x,rfl,hl,hm,by simpa using hz,hcell,hwz⟩)
  subst e
  refine ⟨some x,c,l,rfl,hc,Kd.zU (d:=(0:Int)) (h1:=fun _=>rfl) hr,⟨hm2,hw⟩,fun hq=>?_⟩
  subst hx
  have h1:((lits (H:=H) .i64 (zs.take l.length)).length+(lits (H:=H) .i64 (zs.drop l.length)).length)*Try.prog.bytesOf 3≤140737488351232:=hq _ (by simp [DataW.weights,Try.underlying22])
  rw [bytes3] at h1
  have h2:(lits (H:=H) .i64 (zs.take l.length)).length+(lits (H:=H) .i64 (zs.drop l.length)).length=zs.length:=by simp [lits];omega
  rw [h2] at h1
  simp at hz
  omega
theorem aK_ (a:Addr) (m i:Nat):(a.add m).add i=a.add (m+i):=by
 unfold Addr.add
 by_cases h1:m=0 <;> by_cases h2:i=0 <;> simp [h1,h2,Nat.add_assoc]
set_option maxRecDepth 100000 in
theorem aIl {fuel:Nat} {cs:List Value} {y:DataW H × List MemPlace} (h:DataW.trod enc Try.prog w 0 (fun _=>true) true fuel 54 cs=some y):∃ f:nJ,Nv.K w f cs∧YN f∧((∀ n ∈ y.1.weights Try.prog 54,n≤140737488351232)→GL f):=by
 obtain ⟨y0,y1,y2,n,hy,hlen,h0,h1,h2⟩:=trod_struct3 Try.underlying54 h
 have hl:cs.length=3:=hlen.trans aQ
 rcases cs with _|⟨a,_|⟨b,_|⟨c,_|⟨d,r⟩⟩⟩⟩
 ·cases hl
 ·cases hl
 ·cases hl
 ·have e0:DataW.trod enc Try.prog w 0 (fun _=>true) true n 9 [a]=some y0:=h0
  have e1:DataW.trod enc Try.prog w 0 (fun _=>true) true n 3 [b]=some y1:=h1
  have e2:DataW.trod enc Try.prog w 0 (fun _=>true) true n 22 [c]=some y2:=h2
  obtain ⟨s,hs,hys,hw⟩:=DataW.trod_string Try.underlying9 e0
  obtain ⟨m,hm,_,hwm⟩:=DataW.trod_int Try.underlying3 e1
  obtain ⟨A,cc,l,rfl,hc,hC,hl2,hz2⟩:=aAl e2
  cases hs
  cases hm
  refine ⟨⟨s,m,l⟩,aIK w ⟨s,m,l⟩ hc hC,⟨hw,hwm,hl2⟩,fun hq=>?_⟩
  subst hy
  have hm:∀ n,n ∈ y0.1.weights Try.prog 9∨n ∈ y1.1.weights Try.prog 3∨n ∈ y2.1.weights Try.prog 22→n ∈ (DataW.agg [y0.1,y1.1,y2.1]).weights Try.prog 54:=by
   intro n hn;simp only [DataW.weights,Try.underlying54,DataW.weightsEach,List.map_cons,List.map_nil,List.mem_append,List.append_nil];exact hn
  refine ⟨?_,hz2 fun n hn=>hq n (hm n (.inr (.inr hn)))⟩
  have h9:=hq s.data.toList.length (hm _ (.inl (by subst hys;simp [DataW.weights])))
  rw [Array.length_toList] at h9
  exact h9
 ·simp only [List.length_cons] at hl;omega
set_option maxRecDepth 100000 in
theorem aIm {fuel:Nat} {a:Option Addr} {len cap:Nat} {x:DataW H × List MemPlace} (h:DataW.trod enc Try.prog w 0 (fun _=>true) true fuel 47 [.slice a len cap]=some x) :
  ∃ l:List nJ,len=l.length∧Kd.C Nv w a l.length l∧l.length≤cap∧l.length≤maxLen∧(∀ f ∈ l,YN f)∧((∀ n ∈ x.1.weights Try.prog 47,n≤140737488351232)→l.length*48≤140737488351232∧∀ f ∈ l,GL f):=by
 rcases open_slice Try.underlying47 h with ⟨hcs,_⟩|⟨ad,len',cap',m,n,D,Pl,hcs,_,hl,hm,hmm,hxx,hx⟩
 ·simp at hcs
  obtain ⟨rfl,rfl,rfl⟩:=hcs
  exact ⟨[],rfl,⟨rfl,by simp,fun h=>absurd h (by simp)⟩,Nat.le_refl _,by simp,by simp,fun _=>by simp⟩
 ·simp at hcs
  obtain ⟨rfl,rfl,rfl⟩:=hcs
  have hc3:Try.prog.cellsOf 54=3:=by kernel_rfl
  rw [hc3] at hx
  have hm':m=cap:=by simpa using hmm
  have:Inhabited (nJ × List Value):=⟨(z54,[])⟩
  obtain ⟨F,hF⟩:=choose_lt (α:=nJ × List Value) (n:=len) (p:=fun i q=>w.cells? 0 (ad.add (i*3)) 3=some q.2∧Nv.K w q.1 q.2∧YN q.1∧((∀ n ∈ (D i).weights Try.prog 54,n≤140737488351232)→GL q.1)) (fun i hi=>by
   obtain ⟨cs',h1,h2⟩:=hx i (by omega);obtain ⟨f,hf,hw,hz⟩:=aIl h2;exact ⟨(f,cs'),h1,hf,hw,hz⟩)
  have hlen:((List.range len).map fun i=>(F i).1).length=len:=by simp
  refine ⟨(List.range len).map fun i=>(F i).1,hlen.symm,⟨rfl,(by rw [hlen];have h9:maxLen≤9223372036854775807:=(by decide +kernel);omega),fun _=>⟨ad,rfl,fun j p hj=>?_⟩⟩,by rw [hlen];exact hl,by rw [hlen];omega,fun f hf=>?_,fun hq=>?_⟩
  ·have hjl:j<len:=by have:=(List.getElem?_eq_some_iff.1 hj).1;rwa [hlen] at this
   have hp:(F j).1=p:=by
    have h1:((List.range len).map fun i=>(F i).1)[j]?=some (F j).1:=by simp [hjl]
    rw [h1] at hj;exact Option.some.inj hj
   obtain ⟨h1,h2,h3,_⟩:=hF j hjl;obtain ⟨_,h4,h5⟩:=World.cells?_some h1;refine ⟨(F j).2,h4,hp ▸ h2,fun i u hu=>?_⟩;have hi:i<3:=by have:=(List.getElem?_eq_some_iff.1 hu).1;omega
   have h6:=h5 i hi;rw [hu] at h6;rw [← h6];rw [aK_];rfl
  ·obtain ⟨i,hi,rfl⟩:=List.mem_map.1 hf;exact (hF i (List.mem_range.1 hi)).2.2.1
  ·subst hxx;have hall:∀ n,n ∈ (((List.range len).map D).length+((List.range (m-len)).map fun j=>D (len+j)).length)*Try.prog.bytesOf 54 :: DataW.weightsAll Try.prog 54 ((List.range len).map D)→n≤140737488351232:=by
    intro n hn;refine hq n ?_;simp only [DataW.weights,Try.underlying47,List.mem_cons,List.mem_append]
    rcases List.mem_cons.1 hn with hn|hn
    ·exact .inl hn
    ·exact .inr (.inl hn)
   refine ⟨?_,fun f hf=>?_⟩
   ·have h1:=hall _ (List.mem_cons_self ..);rw [aN5] at h1;simp only [List.length_map,List.length_range] at h1 ⊢;omega
   ·obtain ⟨i,hi,rfl⟩:=List.mem_map.1 hf;exact (hF i (List.mem_range.1 hi)).2.2.2 fun n hn=>hall n (List.mem_cons_of_mem _ (aG5 hn (List.mem_map.2 ⟨i,hi,rfl⟩)))
end Go.Proofs.Ytipjpdiianopcaa.NK
