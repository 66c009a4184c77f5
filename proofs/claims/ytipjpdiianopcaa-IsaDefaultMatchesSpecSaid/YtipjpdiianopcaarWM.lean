/- Words and contracts for the laws. -/
import Derived.OrdersHeld
import Derived.Deep.RegionHeld3
import Derived.Laws.BitsLemmas
import Derived.RowKit
import Derived.Test.YtipjpdiianopcaarWWords
import Derived.Laws.StructEq
import Derived.SizedLaws
import Derived.ChangeSlices
set_option linter.unusedVariables false
set_option linter.unusedSimpArgs false
namespace Go.Proofs.YtipjpdiianopcaaW.dQ
section
variable {P:Program} {ops:Array Oper} {Q:Exit→Act→World→Prop} {md:Region.Mode} {S:World→Prop} {ds:List Nat}
def Region.oQ (md:Region.Mode) (ops:Array Oper) (i:Nat):Nat→Nat→Bool
  | 0,_=>false
  | fuel+1,d=>match ops[d]? with
    | some o=>o.after.any fun e=>Region.binds md e&&(e.on==i || Region.oQ md ops i fuel e.on)
    | none=>false
def Region.wQ (md:Region.Mode) (ops:Array Oper) (listed:Array Bool):Bool :=
  (List.range ops.size).all fun j=>!listed.getD j false || match ops[j]? with
    | some o=>o.after.all fun e=>!Region.binds md e || listed.getD e.on false
    | none=>true
def Region.lastB (md:Region.Mode) (ops:Array Oper) (listed:Array Bool) (ds:List Nat) (i:Nat):Bool :=
  ds.all fun d=>listed.getD d true || Region.oQ md ops i ops.size d
def lH (md:Region.Mode) (ops:Array Oper) (listed:Array Bool):Prop :=
  ∀ j oj,ops[j]?=some oj→listed.getD j false=true→∀ e ∈ oj.after,Region.binds md e=true→listed.getD e.on false=true
theorem Region.CZ {listed:Array Bool} (h:Region.wQ md ops listed=true):lH md ops listed:=by
  intro j oj hj hl e he hb
  have hlt:j<ops.size:=(Array.getElem?_eq_some_iff.1 hj).1
  have h1:=List.all_eq_true.1 h j (List.mem_range.2 hlt)
  simp only [hl,hj,Bool.not_true,Bool.false_or] at h1
  have h2:=Array.all_eq_true_iff_forall_mem.1 h1 e he
  simpa [hb] using h2
theorem lH.set {listed:Array Bool} {i:Nat} (h:lH md ops listed) (hi:i ∈ Region.ready md ops listed):lH md ops (listed.setIfInBounds i true):=by
  obtain ⟨_,oi,hoi,hall⟩:=mem_ready.1 hi
  intro j oj hj hl e he hb
  by_cases hij:i=j
  · subst hij
    have:oj=oi:=Option.some.inj (hj.symm.trans hoi)
    subst this
    exact getD_set_true (hall e he hb)
  · rw [getD_set_ne false hij] at hl
    exact getD_set_true (h j oj hj hl e he hb)
theorem Region.wR {listed:Array Bool} {i:Nat} (hc:lH md ops listed):∀ (fuel d:Nat),Region.oQ md ops i fuel d=true→listed.getD d false=true→listed.getD i false=true
  | 0,_,h,_=>by simp [Region.oQ] at h
  | fuel+1,d,h,hl=>by
    unfold Region.oQ at h
    cases ho:ops[d]? with
    | none=>rw [ho] at h;simp at h
    | some o =>
      rw [ho] at h
      obtain ⟨e,he,h1⟩:=Array.any_eq_true'.1 h
      simp only [Bool.and_eq_true,Bool.or_eq_true,beq_iff_eq] at h1
      have hle:=hc d o ho hl e he h1.1
      rcases h1.2 with h2|h2
      · rw [← h2];exact hle
      · exact Region.wR hc fuel e.on h2 hle
theorem Region.xZ {listed:Array Bool} {i d fuel:Nat} (hc:lH md ops listed) (hr:Region.oQ md ops i fuel d=true) (hun:listed.getD i true=false):d ∉ Region.ready md ops listed:=by
  intro hd
  obtain ⟨_,o,ho,hall⟩:=mem_ready.1 hd
  have hi:listed.getD i false=true:=by
    cases fuel with
    | zero=>simp [Region.oQ] at hr
    | succ n =>
      unfold Region.oQ at hr
      rw [ho] at hr
      obtain ⟨e,he,h1⟩:=Array.any_eq_true'.1 hr
      simp only [Bool.and_eq_true,Bool.or_eq_true,beq_iff_eq] at h1
      have hle:=hall e he h1.1
      rcases h1.2 with h2|h2
      · rw [← h2];exact hle
      · exact Region.wR hc n e.on h2 hle
  rcases Nat.lt_or_ge i listed.size with h'|h'
  · simp [h'] at hun hi
    rw [hun] at hi
    cases hi
  · simp [Array.getElem?_eq_none h'] at hun
def eY (P:Program) (md:Region.Mode) (ops:Array Oper) (Q:Exit→Act→World→Prop) (S:World→Prop) (ds:List Nat):Nat→Array Bool→Act→World→Prop
  | 0,listed,a,w=>Region.ready md ops listed=[]∧Q .normal a w
  | fuel+1,listed,a,w =>
    (Region.ready md ops listed=[]→Q .normal a w) ∧
    ∀ i ∈ Region.ready md ops listed,wpOp P ops Q i (fun a' w'=>(i ∉ ds→S w→S w')∧eY P md ops Q S ds fuel (listed.setIfInBounds i true) a' w') a w
theorem qN:∀ (fuel:Nat) (listed:Array Bool) (a:Act) (w:World),eY P md ops Q S ds fuel listed a w→wpAny P md ops Q fuel listed a w
  | 0,_,_,_,h=>h
  | fuel+1,_,_,_,h=>⟨h.1,fun i hi=>wpOp_mono (fun a' w' h'=>qN fuel _ a' w' h'.2) (h.2 i hi)⟩
theorem yA {i:Nat} {oi:Oper} {v:Value} (hi:ops[i]?=some oi) (hsel:∀ (j:Nat) (o:Oper) cs b,ops[j]?=some o→o.op≠.select cs b)
    (hQ:∀ c a w,Q (.panic c) (a.put oi.dst v) w→Q (.panic c) a w) (n:Nat) :
    ∀ (fuel:Nat) (listed:Array Bool) (a:Act) (w:World),
      (∀ j oj,ops[j]?=some oj→j≠i→listed.getD j true=false→(∀ e ∈ oj.after,Region.binds md e=true→e.on≠i)→oi.apart ops oj=true) →
      lH md ops listed→(∀ d ∈ ds,listed.getD d true=false→Region.oQ md ops i n d=true) →
      i ∈ Region.ready md ops listed→YieldsIf P ops S oi v a→S w →
      eY P md ops Q S ds fuel (listed.setIfInBounds i true) (a.put oi.dst v) w→eY P md ops Q S ds (fuel+1) listed a w:=by
  intro fuel
  induction fuel with
  | zero =>
    intro listed a w _ _ _ hr hy hS H
    refine ⟨fun h=>(by rw [h] at hr;cases hr),fun j hj=>?_⟩
    by_cases hji:j=i
    · subst hji;exact hy.wpOp hi hS ⟨fun _ h=>h,H⟩
    · have:=ready_mono hj hji
      rw [H.1] at this
      cases this
  | succ fuel ih =>
    intro listed a w hfree hc hd hr hy hS H
    refine ⟨fun h=>(by rw [h] at hr;cases hr),fun j hj=>?_⟩
    by_cases hji:j=i
    · subst hji;exact hy.wpOp hi hS ⟨fun _ h=>h,H⟩
    · have h1:=H.2 j (ready_mono hj hji)
      obtain ⟨hjun,oj,hoj,hall⟩:=mem_ready.1 hj
      have Je:=(mem_ready.1 hr).1
      have hnot:∀ e ∈ oj.after,Region.binds md e=true→e.on≠i:=fun e he hb heq=>by
        have h1:=hall e he hb
        rw [heq] at h1
        rcases Nat.lt_or_ge i listed.size with h'|h'
        · simp [h'] at Je h1;rw [Je] at h1;cases h1
        · simp [Array.getElem?_eq_none h'] at h1
      have hjd:j ∉ ds:=fun hm=>Region.xZ hc (hd j hm hjun) Je hj
      have h2:=wpOp_putIf hoj (hfree j oj hoj hji hjun hnot) (fun cs b=>hsel i oi cs b hi) (fun cs b=>hsel j oj cs b hoj) hQ hy h1
      have hfree':∀ k ok,ops[k]?=some ok→k≠i→(listed.setIfInBounds j true).getD k true=false →
          (∀ e ∈ ok.after,Region.binds md e=true→e.on≠i)→oi.apart ops ok=true:=fun k ok hk hki hun hno=>by
        refine hfree k ok hk hki ?_ hno
        by_cases hjk:j=k
        · subst hjk;exact hjun
        · rw [getD_set_ne true hjk] at hun;exact hun
      have hd':∀ d ∈ ds,(listed.setIfInBounds j true).getD d true=false→Region.oQ md ops i n d=true:=fun d hm hun=>by
        refine hd d hm ?_
        by_cases hjk:j=d
        · subst hjk;exact hjun
        · rw [getD_set_ne true hjk] at hun;exact hun
      refine wpOp_mono (fun a' w' h3=>⟨h3.2.1,ih (listed.setIfInBounds j true) a' w' hfree' (hc.set hj) hd' (ready_mono hr (Ne.symm hji)) h3.1 (h3.2.1 hjd hS) ?_⟩) h2
      rw [Array.setIfInBounds_comm _ _ hji]
      exact h3.2.2
theorem Aj {i:Nat} {oi:Oper} {v:Value} (hi:ops[i]?=some oi) (hsel:∀ (j:Nat) (o:Oper) cs b,ops[j]?=some o→o.op≠.select cs b)
    (hQ:∀ c a w,Q (.panic c) (a.put oi.dst v) w→Q (.panic c) a w) :
    ∀ (fuel:Nat) (listed:Array Bool) (a:Act) (w:World),
      (∀ j oj,ops[j]?=some oj→j≠i→listed.getD j true=false→(∀ e ∈ oj.after,Region.binds md e=true→e.on≠i)→oi.apart ops oj=true) →
      i ∈ Region.ready md ops listed→Yields P ops oi v a →
      eY P md ops Q S ds fuel (listed.setIfInBounds i true) (a.put oi.dst v) w→eY P md ops Q S ds (fuel+1) listed a w:=by
  intro fuel
  induction fuel with
  | zero =>
    intro listed a w _ hr hy H
    refine ⟨fun h=>(by rw [h] at hr;cases hr),fun j hj=>?_⟩
    by_cases hji:j=i
    · subst hji;exact (hy.yieldsIf (S:=fun _=>True)).wpOp hi trivial ⟨fun _ h=>h,H⟩
    · have:=ready_mono hj hji
      rw [H.1] at this
      cases this
  | succ fuel ih =>
    intro listed a w hfree hr hy H
    refine ⟨fun h=>(by rw [h] at hr;cases hr),fun j hj=>?_⟩
    by_cases hji:j=i
    · subst hji;exact (hy.yieldsIf (S:=fun _=>True)).wpOp hi trivial ⟨fun _ h=>h,H⟩
    · have h1:=H.2 j (ready_mono hj hji)
      obtain ⟨hjun,oj,hoj,hall⟩:=mem_ready.1 hj
      have Je:=(mem_ready.1 hr).1
      have hnot:∀ e ∈ oj.after,Region.binds md e=true→e.on≠i:=fun e he hb heq=>by
        have h1:=hall e he hb
        rw [heq] at h1
        rcases Nat.lt_or_ge i listed.size with h'|h'
        · simp [h'] at Je h1;rw [Je] at h1;cases h1
        · simp [Array.getElem?_eq_none h'] at h1
      have h2:=wpOp_put hoj (hfree j oj hoj hji hjun hnot) (fun cs b=>hsel i oi cs b hi) (fun cs b=>hsel j oj cs b hoj) hQ hy h1
      have hfree':∀ k ok,ops[k]?=some ok→k≠i→(listed.setIfInBounds j true).getD k true=false →
          (∀ e ∈ ok.after,Region.binds md e=true→e.on≠i)→oi.apart ops ok=true:=fun k ok hk hki hun hno=>by
        refine hfree k ok hk hki ?_ hno
        by_cases hjk:j=k
        · subst hjk;exact hjun
        · rw [getD_set_ne true hjk] at hun;exact hun
      refine wpOp_mono (fun a' w' h3=>⟨h3.2.1,ih (listed.setIfInBounds j true) a' w' hfree' (ready_mono hr (Ne.symm hji)) h3.1 ?_⟩) h2
      rw [Array.setIfInBounds_comm _ _ hji]
      exact h3.2.2
theorem zS {i:Nat} {oi:Oper} {v:Value} {fuel:Nat} {listed:Array Bool} {a:Act} {w:World} (hi:ops[i]?=some oi)
    (hs:Region.noSelect ops=true) (hf:Region.free md ops listed i=true) (hr:(Region.ready md ops listed).contains i=true)
    (hc:Region.wQ md ops listed=true) (hl:Region.lastB md ops listed ds i=true)
    (hQ:∀ c a w,Q (.panic c) (a.put oi.dst v) w→Q (.panic c) a w) (hy:YieldsIf P ops S oi v a) (hS:S w)
    (h:eY P md ops Q S ds fuel (listed.setIfInBounds i true) (a.put oi.dst v) w):eY P md ops Q S ds (fuel+1) listed a w :=
  yA hi (Region.noSelect_spec hs) hQ ops.size fuel listed a w (Region.free_spec hi hf) (Region.CZ hc)
    (fun d hm hun=>by have:=List.all_eq_true.1 hl d hm;rw [hun] at this;simpa using this) (by simpa using hr) hy hS h
theorem Ak {rs:List Nat} {fuel:Nat} {listed:Array Bool} {a:Act} {w:World} (hr:Region.ready md ops listed=rs) (hne:rs≠[])
    (h:∀ i ∈ rs,wpOp P ops Q i (fun a' w'=>(i ∉ ds→S w→S w')∧eY P md ops Q S ds fuel (listed.setIfInBounds i true) a' w') a w):eY P md ops Q S ds (fuel+1) listed a w :=
  ⟨fun h0=>absurd (hr ▸ h0) hne,hr ▸ h⟩
theorem zT {listed:Array Bool} {a:Act} {w:World} (hr:Region.ready md ops listed=[]) (h:Q .normal a w) :
    ∀ fuel,eY P md ops Q S ds fuel listed a w
  | 0=>⟨hr,h⟩
  | _+1=>⟨fun _=>h,by rw [hr];simp⟩
theorem zU {id:Nat} {a:Act} {w:World} (hm:P.follows .mixedOrders=true)
    (h:eY P .any ops Q S ds ops.size (Array.replicate ops.size false) a { w with drawn:=w.drawn+1 }):(Code.region id ops true).wp P Q a w :=
  wp_region_any hm (qN _ _ _ _ h)
end
section
variable {P:Program} {ops:Array Oper} {Q:Exit→Act→World→Prop} {md:Region.Mode} {S:World→Prop} {ds:List Nat}
def jX (P:Program) (md:Region.Mode) (ops:Array Oper) (Q:Exit→Act→World→Prop) (S:World→Prop) (ds:List Nat) (fuel:Nat) (listed:Array Bool) (a:Act) (w:World) (rs:List Nat):Prop :=
  ∀ i ∈ rs,wpOp P ops Q i (fun a' w'=>(i ∉ ds→S w→S w')∧eY P md ops Q S ds fuel (listed.setIfInBounds i true) a' w') a w
theorem jX.nil {fuel:Nat} {listed:Array Bool} {a:Act} {w:World}:jX P md ops Q S ds fuel listed a w []:=fun _ h=>by cases h
theorem jX.cons {fuel:Nat} {listed:Array Bool} {a:Act} {w:World} {i:Nat} {o:Oper} {rs:List Nat} (ho:ops[i]?=some o) (hd:i ∉ ds)
    (h:∀ K':Act→World→Prop,Shut (∀ a w,S w→(S w→eY P md ops Q S ds fuel (listed.setIfInBounds i true) a w)→K' a w)→if Region.wanted o (yielded ops a.tmps)=true then Oper.wp P o a w K' Q else K' (a.put o.dst undef) w)
    (hs:jX P md ops Q S ds fuel listed a w rs):jX P md ops Q S ds fuel listed a w (i :: rs):=fun j hj=>by
  rcases List.mem_cons.1 hj with rfl|hj
  · exact wpOp_step ho (fun K' hK=>h K' (fun a w hS hW=>hK a w ⟨fun _ _=>hS,hW hS⟩))
  · exact hs j hj
theorem jX.Jf {fuel:Nat} {listed:Array Bool} {a:Act} {w:World} {i:Nat} {o:Oper} {rs:List Nat} (ho:ops[i]?=some o) (hd:i ∈ ds)
    (h:∀ K':Act→World→Prop,Shut (∀ a w,eY P md ops Q S ds fuel (listed.setIfInBounds i true) a w→K' a w)→if Region.wanted o (yielded ops a.tmps)=true then Oper.wp P o a w K' Q else K' (a.put o.dst undef) w)
    (hs:jX P md ops Q S ds fuel listed a w rs):jX P md ops Q S ds fuel listed a w (i :: rs):=fun j hj=>by
  rcases List.mem_cons.1 hj with rfl|hj
  · exact wpOp_step ho (fun K' hK=>h K' (fun a w hW=>hK a w ⟨fun hn=>absurd hd hn,hW⟩))
  · exact hs j hj
theorem sN {rs:List Nat} {fuel:Nat} {listed:Array Bool} {a:Act} {w:World} (hr:Region.ready md ops listed=rs) (hne:rs≠[])
    (h:jX P md ops Q S ds fuel listed a w rs):eY P md ops Q S ds (fuel+1) listed a w:=Ak hr hne h
theorem pO {id n:Nat} {a:Act} {w:World} (l:Array Bool) (hm:P.follows .mixedOrders=true) (hn:ops.size=n) (hl:Array.replicate n false=l) (hS:S w.drew)
    (h:S w.drew→eY P .any ops Q S ds n l a w.drew):(Code.region id ops true).wp P Q a w:=by
  subst hn
  subst hl
  exact zU hm (h hS)
def takeB (md:Region.Mode) (ops:Array Oper) (ds:List Nat) (l l':Array Bool) (i:Nat):Bool :=
  Region.noSelect ops&&Region.free md ops l i&&(Region.ready md ops l).contains i&&Region.wQ md ops l&&Region.lastB md ops l ds i&&(l.setIfInBounds i true==l')
theorem kT {i:Nat} {N:Option Tmp} {oi:Oper} {v:Value} {fuel:Nat} {l:Array Bool} {a:Act} {w:World} (l':Array Bool) (hi:ops[i]?=some oi) (hN:oi.dst=N) (hc:takeB md ops ds l l' i=true)
    (hQ:∀ c a w,Q (.panic c) (a.put oi.dst v) w→Q (.panic c) a w) (hy:YieldsIf P ops S oi v a) (hS:S w) {a':Act} (ha:a.put N v=a')
    (h:eY P md ops Q S ds fuel l' a' w):eY P md ops Q S ds (fuel+1) l a w:=by
  subst ha
  subst hN
  simp only [takeB,Bool.and_eq_true,beq_iff_eq] at hc
  obtain ⟨⟨⟨⟨⟨h1,h2⟩,h3⟩,h4⟩,h5⟩,h6⟩:=hc
  subst h6
  exact zS hi h1 h2 h3 h4 h5 hQ hy hS h
def OI (md:Region.Mode) (ops:Array Oper) (l l':Array Bool) (i:Nat):Bool :=
  Region.noSelect ops&&Region.free md ops l i&&(Region.ready md ops l).contains i&&(l.setIfInBounds i true==l')
theorem dZ {i:Nat} {N:Option Tmp} {oi:Oper} {v:Value} {fuel:Nat} {l:Array Bool} {a:Act} {w:World} (l':Array Bool) (hi:ops[i]?=some oi) (hN:oi.dst=N) (hc:OI md ops l l' i=true)
    (hQ:∀ c a w,Q (.panic c) (a.put oi.dst v) w→Q (.panic c) a w) (hy:Yields P ops oi v a) {a':Act} (ha:a.put N v=a')
    (h:eY P md ops Q S ds fuel l' a' w):eY P md ops Q S ds (fuel+1) l a w:=by
  subst ha
  subst hN
  simp only [OI,Bool.and_eq_true,beq_iff_eq] at hc
  obtain ⟨⟨⟨h1,h2⟩,h3⟩,h6⟩:=hc
  subst h6
  exact Aj hi (Region.noSelect_spec h1) hQ fuel l a w (Region.free_spec hi h2) (by simpa using h3) hy h
def xH (md:Region.Mode) (ops:Array Oper) (l l':Array Bool) (i:Nat):Bool:=(Region.ready md ops l==[i])&&(l.setIfInBounds i true==l')
theorem xW {i:Nat} {N:Option Tmp} {oi:Oper} {fuel:Nat} {l:Array Bool} {a:Act} {w:World} (l':Array Bool) (hi:ops[i]?=some oi) (hN:oi.dst=N) (hc:xH md ops l l' i=true) (hd:i ∉ ds)
    (h:∀ K:Act→World→Prop,Shut (∀ a' w',S w'→(S w'→eY P md ops Q S ds fuel l' a' w')→K a' w')→if Region.wanted oi (yielded ops a.tmps)=true then Oper.wp P oi a w K Q else K (a.put N undef) w) :
    eY P md ops Q S ds (fuel+1) l a w:=by
  subst hN
  simp only [xH,Bool.and_eq_true,beq_iff_eq] at hc
  obtain ⟨h1,h2⟩:=hc
  subst h2
  exact sN h1 (by simp) (jX.cons hi hd (fun K hK=>h K hK) jX.nil)
theorem KC {i:Nat} {N:Option Tmp} {oi:Oper} {fuel:Nat} {l:Array Bool} {a:Act} {w:World} (l':Array Bool) (hi:ops[i]?=some oi) (hN:oi.dst=N) (hc:xH md ops l l' i=true) (hd:i ∈ ds)
    (h:∀ K:Act→World→Prop,Shut (∀ a' w',eY P md ops Q S ds fuel l' a' w'→K a' w')→if Region.wanted oi (yielded ops a.tmps)=true then Oper.wp P oi a w K Q else K (a.put N undef) w) :
    eY P md ops Q S ds (fuel+1) l a w:=by
  subst hN
  simp only [xH,Bool.and_eq_true,beq_iff_eq] at hc
  obtain ⟨h1,h2⟩:=hc
  subst h2
  exact sN h1 (by simp) (jX.Jf hi hd (fun K hK=>h K hK) jX.nil)
theorem sG {l:Array Bool} {a:Act} {w:World} {n:Nat} (hr:(Region.ready md ops l==[])=true) (h:Q .normal a w):eY P md ops Q S ds n l a w:=zT (by simpa using hr) h n
theorem vW {fuel:Nat} {l:Array Bool} {a a':Act} {w:World} (ha:a=a') (h:eY P md ops Q S ds fuel l a' w):eY P md ops Q S ds fuel l a w:=by
  subst ha
  exact h
theorem call_ {oi:Oper} {N:Option Tmp} {a:Act} {w:World} {K:Act→World→Prop} (f:FuncId) (args:Array Value) (hw:Region.wanted oi (yielded ops a.tmps)=true) (hN:oi.dst=N) (hrun:(execOp a.eval oi).run P w=.ok (.enter f args) w)
    (h:Calls P f args w fun e w'=>∃ v,e=.returned v∧K (a.put N v) w'):if Region.wanted oi (yielded ops a.tmps)=true then Oper.wp P oi a w K Q else K (a.put N undef) w:=by
  rw [if_pos hw]
  subst hN
  unfold Oper.wp
  rw [hrun,Oper.upon_enter]
  refine h.mono fun e w'' hh=>?_
  obtain ⟨v,rfl,hk⟩:=hh
  exact hk
theorem wH {f : FuncId} {fn : Func} (hf : P.funcs[f]? = some fn) (hname : (fn.name == "runtime.NumGoroutine") = false) (hb : fn.body.isSome = true) (args : Array Value) (w : World) : (callFunc f args).run P w = .ok (.enter f args) w := by
  have h1 : fn.name ≠ "runtime.NumGoroutine" := by simpa using hname
  obtain ⟨c,hc⟩:=Option.isSome_iff_exists.1 hb
  simp [callFunc,hf,h1,hc]
theorem DI {oi : Oper} {N : Option Tmp} {a : Act} {w : World} {K : Act → World → Prop} {f : FuncId} {fn : Func} {as : Array Operand} {ts : Array TypeId} (hf : P.funcs[f]? = some fn) (hname : (fn.name == "runtime.NumGoroutine") = false) (hb : fn.body.isSome = true) (args : Array Value)
    (hw:Region.wanted oi (yielded ops a.tmps)=true) (hN:oi.dst=N) (hop:oi.op=.call { callee:=.value (.func f),args:=as,argTypes:=ts }) (hargs:as.map a.eval=args)
    (h:Calls P f args w fun e w'=>∃ v,e=.returned v∧K (a.put N v) w'):if Region.wanted oi (yielded ops a.tmps)=true then Oper.wp P oi a w K Q else K (a.put N undef) w:=by
  refine call_ f args hw hN ?_ h
  have he:=wH hf hname hb args w
  unfold execOp
  simp [hop,resolve,Deferred.ofValue,invoke,Act.eval,hargs,he]
theorem gQ {rest : List Oper} {oi : Oper} {a : Act} {w : World} (N : Option Tmp) (hd : oi.dst = N) (hg : oi.guard = none) {f : FuncId} {fn : Func} {as : Array Operand} {ts : Array TypeId} (hf : P.funcs[f]? = some fn) (hname : (fn.name == "runtime.NumGoroutine") = false) (hb : fn.body.isSome = true) (args : Array Value)
    (hop:oi.op=.call { callee:=.value (.func f),args:=as,argTypes:=ts }) (hargs:as.map a.eval=args)
    (h:Calls P f args w fun e w'=>∃ v,e=.returned v∧wpList P ops Q rest (a.put N v) w'):wpList P ops Q (oi :: rest) a w:=by
  refine wpList_plain hg fun K hK=>?_
  have he:=wH hf hname hb args w
  have hrun:(execOp a.eval oi).run P w=.ok (.enter f args) w:=by
    unfold execOp
    simp [hop,resolve,Deferred.ofValue,invoke,Act.eval,hargs,he]
  unfold Oper.wp
  rw [hrun,Oper.upon_enter]
  refine h.mono fun e w'' hh=>?_
  obtain ⟨v,rfl,hk⟩:=hh
  subst hd
  exact hK _ _ hk
theorem KA {oi:Oper} {N:Option Tmp} {a:Act} {w w1:World} {v:Value} {K:Act→World→Prop} (hw:Region.wanted oi (yielded ops a.tmps)=true) (hN:oi.dst=N) (hrun:(execOp a.eval oi).run P w=.ok (.value v) w1)
    (h:K (a.put N v) w1):if Region.wanted oi (yielded ops a.tmps)=true then Oper.wp P oi a w K Q else K (a.put N undef) w:=by
  rw [if_pos hw]
  subst hN
  unfold Oper.wp
  rw [hrun]
  exact h
theorem AY {oi:Oper} {a:Act} {w w1:World} {K:Act→World→Prop} (hw:Region.wanted oi (yielded ops a.tmps)=true) (hN:oi.dst=none) (hrun:(execOp a.eval oi).run P w=.ok .skip w1)
    (h:K a w1):if Region.wanted oi (yielded ops a.tmps)=true then Oper.wp P oi a w K Q else K (a.put none undef) w:=by
  rw [if_pos hw]
  unfold Oper.wp
  rw [hrun]
  show K (a.put oi.dst undef) w1
  rw [hN]
  exact h
theorem lK (n:Int):IntKind.i64.wrap n=Go.RowKit.wrap64 n:=by unfold Go.RowKit.wrap64;exact IntKind.wrap_i64 n
theorem lM (n:Int):IntKind.i32.wrap n=Go.RowKit.wrap32 n:=by unfold Go.RowKit.wrap32;exact IntKind.wrap_i32 n
end
end Go.Proofs.YtipjpdiianopcaaW.dQ
section
namespace Go.Proofs.YtipjpdiianopcaaW.aZ
open Go.RowKit
namespace Kd
def tag {α:Type} (f:Nat→Nat) (d:Kd α):Kd (α × Nat) where
  sz:=d.sz
  E:=d.E
  K:=fun w x cs=>d.K w x.1 cs
  M:=fun w base ok x cs=>d.M w base (fun k=>ok k∧f k=x.2) x.1 cs
  mZ:=fun h=>d.mZ h
  nC:=fun h=>d.nC h
  lW:=fun hb h=>d.lW hb h
  jJ:=fun h=>d.jJ h
  iO:=fun hok h=>d.iO (fun k hk=>⟨hok k hk.1,hk.2⟩) h
  jV:=fun h=>d.iO (fun _ hk=>⟨⟨hk.1.1,hk.2⟩,hk.1.2⟩) (d.jV h)
  lI:=fun hm h=>d.lI (fun k hk=>hm k hk.1) h
  lX:=fun hb h=>d.lX hb h
def raw (sz:Nat):Kd (List Value) where
  sz:=sz
  E:=[]
  K:=fun _ x cs=>cs=x∧cs.length=sz∧∀ u ∈ cs,u.oneCell'=true
  M:=fun _ _ _ x cs=>cs=x∧cs.length=sz∧∀ u ∈ cs,u.oneCell'=true
  mZ:=fun h=>h.2.1
  nC:=fun h=>h.2.2
  lW:=fun _ h=>h
  jJ:=fun h=>h
  iO:=fun _ h=>h
  jV:=fun h=>h
  lI:=fun _ h=>h
  lX:=fun _ h=>h
def S {α:Type} (d:Kd α) (e:Nat) (w:World) (base:Nat) (ok:Nat→Prop) (v:Value) (xs:List α):Prop:=∃ f,(tag f d).R e w base ok v xs.zipIdx
section
variable {α β:Type} {d:Kd α} {d':Kd β} {e e':Nat} {w w1 W:World} {base b:Nat} {ok ok' Tv oku:Nat→Prop} {u v:Value} {xs:List α} {ys:List β}
theorem tV {xs:List α} {j:Nat} {p:α} (h:xs[j]?=some p):xs.zipIdx[j]?=some (p,j):=by rw [List.getElem?_zipIdx,h,Nat.zero_add];rfl
theorem Tz (h:S d e w base ok v xs):d.R e w base ok v xs:=by
  obtain ⟨f,h0,inner,ho,hr⟩:=h
  rw [List.length_zipIdx] at ho
  exact ⟨h0,inner,ho,by have:=hr.1;rw [List.length_zipIdx] at this;exact this,fun j p hj=>d.iO (fun _ hk=>hk.1) (hr.2 j (p,j) (tV hj))⟩
theorem SB {ad:Addr} {n cap:Nat} (h:d.R e w base ok (.slice (some ad) n cap) xs):∃ g,ad=⟨g,0,none⟩:=by
  obtain ⟨_,inner,ho,hr⟩:=h
  rcases ho.2 with ⟨hv,_⟩|⟨g,cap',cur,hv,_⟩
  · cases hv
  · injection hv with ha _ _
    injection ha with ha
    exact ⟨g,ha⟩
theorem OJ (hE:d.E=[]) (h:d.R e w base ok v xs):d.R e w base (fun k=>some k=v.ownBlock) v xs:=by
  obtain ⟨h0,inner,ho,hr⟩:=h
  refine ⟨fun k hk=>hk.symm,inner,ho,hr.xB (fun p c hp=>d.iO (fun k hk=>?_) (d.jV hp))⟩
  obtain ⟨_,_,_,q,hq,_⟩:=hk
  rw [hE] at hq
  cases hq
theorem PY (d:Kd α) (e:Nat) (w:World) (base:Nat) (ok:Nat→Prop):S d e w base ok (.slice none 0 0) []:=⟨fun _=>0,DV _ _ _ _ _⟩
theorem zL (h:S d e w base ok v xs) (hok:∀ k,ok k→ok' k):S d e w base ok' v xs:=by
  obtain ⟨f,h⟩:=h
  exact ⟨f,mD h hok⟩
theorem Ce (h:S d e w base ok v xs):S d e w base (fun k=>ok k∧base≤k∧k<w.heap.size∧∃ q,q ∈ e :: d.E∧∃ cells,w.heap[k]?=some (.cells cells q (0,0))) v xs:=by
  obtain ⟨f,h⟩:=h
  exact ⟨f,pK h⟩
theorem SC (h:S d e w base ok v xs) (hm:∀ k,ok k→w1.heap[k]?=w.heap[k]?):S d e w1 base ok v xs:=by
  obtain ⟨f,h⟩:=h
  exact ⟨f,Dc h hm⟩
theorem FV (h:S d e w base ok v xs) (hm:∀ k,ok k→k<w.heap.size→w1.heap[k]?=w.heap[k]?):S d e w1 base ok v xs :=
  zL (SC (Ce h) (fun k hk=>hm k hk.1 hk.2.2.1)) (fun _ hk=>hk.1)
theorem Df (h:S d e w base ok v xs) (hb:Below w.heap.size w w1):S d e w1 base ok v xs:=FV h (fun k _ hk=>hb.block k hk)
theorem yO (h:S d e w base ok v xs) (o:Obj):S d e (w.alloc o) base ok v xs:=Df h (iG (Below.refl _ _) o)
theorem Kz (h:S d e w base ok v xs):S d e w.drew base ok v xs:=Df h (pX (Below.refl _ _))
theorem CB (h:S d e w base ok v xs) (m:Nat):S d e (w.drewN m) base ok v xs:=Df h (gB (Below.refl _ _) m)
theorem NW (h:S d e w base ok v xs) {row:Option Nat} (hg:w.grownBy w1 row) (hok:∀ k,ok k→some k≠row):S d e w1 base ok v xs:=FV h (fun k ho hk=>hg.block k hk (hok k ho))
theorem Vy (h:S d e w base ok v xs) {p:Addr} (hok:∀ k,ok k→k≠p.block) (u:Value):S d e (w.setCell p u) base ok v xs:=FV h (fun k ho _=>Below.heap_setCell w p u k (hok k ho))
theorem OL (h:S d e w base ok v xs) {g t:Nat} {cells:Array Value} (hb:w.heap[g]?=some (.cells cells t (0,0))) (ht:∀ q,q ∈ e :: d.E→q≠t):S d e w base (fun k=>ok k∧k≠g) v xs:=by
  obtain ⟨f,h⟩:=h
  exact ⟨f,Iy h hb ht⟩
theorem UX (h:S d e w base ok v xs) {g t:Nat} {cells:Array Value} (hb:w.heap[g]?=some (.cells cells t (0,0))) (ht:∀ q,q ∈ e :: d.E→q≠t) (j:Nat) (u:Value):S d e (w.setCell ⟨g,j,none⟩ u) base ok v xs :=
  zL (Vy (p:=⟨g,j,none⟩) (OL h hb ht) (fun _ hk=>hk.2) u) (fun _ hk=>hk.1)
theorem Ob (h:S d e w base ok v xs):∀ k,v.ownBlock=some k→∃ cells,w.heap[k]?=some (.cells cells e (0,0)):=yP (Tz h)
theorem Vz {f f':Nat→Nat} {zs:List (α × Nat)} (h:(tag f d).R e w base ok v zs) (hf:∀ k,ok k→k<w.heap.size→f' k=f k):(tag f' d).R e w base ok v zs:=by
  obtain ⟨h0,inner,ho,hr⟩:=pK h
  exact ⟨fun k hk=>(h0 k hk).1,inner,ho,hr.1,fun j p hj=>d.iO (fun k hk=>⟨⟨hk.1.1.1,hk.1.2⟩,(hf k hk.1.1.1 hk.1.1.2.2.1).trans hk.2⟩) (hr.2 j p hj)⟩
end
section
variable {α β:Type} {d:Kd α} {d':Kd β} {e e' g:Nat} {w w1 W:World} {base b:Nat} {ok ok' Tv oku:Nat→Prop} {u v:Value} {xs:List α} {ys:List β}
theorem UW (h:S d e w base ok v xs) {t:Nat} {cells:Array Value} (hb:w.heap[g]?=some (.cells cells t (0,0))) (ht:e≠t):some g≠v.ownBlock:=Oc (Tz h) hb ht
theorem RJ (h:S d e w base ok v xs) (hp:0<xs.length):∃ g cap,v=.slice (some ⟨g,0,none⟩) xs.length cap∧base≤g∧g<w.heap.size∧∃ cells,w.heap[g]?=some (.cells cells e (0,0)):=SE (Tz h) hp
theorem NY (h:S d e w base ok v xs):∃ A c,v=.slice A xs.length c:=qF (Tz h)
theorem LK (xs:List α) (p:α):(xs ++ [p]).zipIdx=xs.zipIdx ++ [(p,xs.length)]:=by rw [List.zipIdx_append];simp
end
section
open Classical in
theorem VA {α:Type} {d:Kd α} {e base:Nat} {Tv:Nat→Prop} {w:World} {v:Value} {xs:List α} (h:S d e w base Tv v xs) (m:Nat) (jC:Nat→Prop) (hap:∀ k,jC k→¬ Tv k):∃ f,(∀ k,jC k→f k=m)∧(tag f d).R e w base Tv v xs.zipIdx:=by
  obtain ⟨f,h⟩:=h
  exact ⟨fun k=>if jC k then m else f k,fun k hk=>if_pos hk,Vz h (fun k hk _=>if_neg (fun h2=>hap k h2 hk))⟩
variable {P:Program} {ops:Array Oper} {rest:List Oper} {o:Oper} {a:Act} {Q:Exit→Act→World→Prop} {Kc:Act→World→Prop} {α:Type}
theorem Ky (d:Kd α) {w0 W:World} (base:Nat) (hgd:o.guard=none) (s x:Operand) (t e:TypeId) (z:Value) (bytes:Nat)
    (ho:o.op=.call { callee:=.builtin .append,args:=#[s,x],argTypes:=#[t,t] })
    (ht:P.underlying t=some (.slice e)) (hinfo:(P.info? e).map (fun i=>(i.zero,i.size,i.bytes))=some (some z,d.sz,bytes)) (hz:z.cells.size=d.sz) (hs0:0<d.sz) (hb0:0<bytes)
    (v:Value) (xs:List α) (p:α) (cs:List Value) (ok jC:Nat→Prop) (hs:a.eval s=v) (hx:a.eval x=.slice (some ⟨W.heap.size,0,none⟩) 1 1) (hp:d.M W base jC p cs) (qZ:∀ k,jC k→ok k∧some k≠v.ownBlock) (hfresh:∀ k,W.heap.size≤k→ok k)
    (HO:S d e W base (fun k=>ok k∧¬ jC k) v xs) (HB:Below base w0 W) (hbase:base≤W.heap.size) (hl:(xs.length+1)*bytes≤140737488355328)
    (h:∀ v1 w1,S d e w1 base ok v1 (xs ++ [p])→Below base w0 w1→W.grownBy w1 v.ownBlock→(v1.ownBlock=v.ownBlock∨∃ b,v1.ownBlock=some b∧W.heap.size≤b)→wpList P ops Q rest (a.put o.dst v1) w1) :
    wpList P ops Q (o :: rest) a (W.alloc (.cells cs.toArray e)):=by
  obtain ⟨f,hf,hR⟩:=VA HO xs.length jC (fun _ hk h2=>h2.2 hk)
  refine LM (tag f d) base hgd s x t e z bytes ho ht hinfo hz hs0 hb0 v xs.zipIdx (p,xs.length) cs ok jC hs hx (d.iO (fun k hk=>⟨hk,hf k hk⟩) hp) qZ hfresh (mD hR (fun _ hk=>hk.1)) HB hbase (by rw [List.length_zipIdx];exact hl) ?_
  intro v1 w1 hr
  rw [← LK] at hr
  exact h v1 w1 ⟨f,hr⟩
end
def gap {α:Type} (f:Nat→Nat) (d:Kd α) (i:Nat) (c:List Value):Kd (α × Nat) where
  sz:=d.sz
  E:=d.E
  K:=fun w x cs=>(x.2=i→cs=c∧cs.length=d.sz∧∀ u ∈ cs,u.oneCell'=true)∧(x.2≠i→d.K w x.1 cs)
  M:=fun w base ok x cs=>(x.2=i→cs=c∧cs.length=d.sz∧∀ u ∈ cs,u.oneCell'=true)∧(x.2≠i→d.M w base (fun k=>ok k∧f k=x.2) x.1 cs)
  mZ:=fun {w x cs} h=>by
    by_cases hx:x.2=i
    · exact (h.1 hx).2.1
    · exact d.mZ (h.2 hx)
  nC:=fun {w x cs} h=>by
    by_cases hx:x.2=i
    · exact (h.1 hx).2.2
    · exact d.nC (h.2 hx)
  lW:=fun hb h=>⟨h.1,fun hx=>d.lW hb (h.2 hx)⟩
  jJ:=fun h=>⟨h.1,fun hx=>d.jJ (h.2 hx)⟩
  iO:=fun hok h=>⟨h.1,fun hx=>d.iO (fun k hk=>⟨hok k hk.1,hk.2⟩) (h.2 hx)⟩
  jV:=fun h=>⟨h.1,fun hx=>d.iO (fun _ hk=>⟨⟨hk.1.1,hk.2⟩,hk.1.2⟩) (d.jV (h.2 hx))⟩
  lI:=fun hm h=>⟨h.1,fun hx=>d.lI (fun k hk=>hm k hk.1) (h.2 hx)⟩
  lX:=fun hb h=>⟨h.1,fun hx=>d.lX hb (h.2 hx)⟩
def H {α:Type} (d:Kd α) (e:Nat) (w:World) (base:Nat) (ok:Nat→Prop) (v:Value) (xs:List α) (i:Int) (qX:Nat→Prop) (c:List Value):Prop :=
  (∀ k,qX k→ok k)∧∃ f,(gap f d i.toNat c).R e w base (fun k=>ok k∧¬ qX k) v xs.zipIdx
section
variable {α β:Type} {d:Kd α} {e e' g n cap:Nat} {w w1 W:World} {base:Nat} {ok ok' qX jC:Nat→Prop} {u v:Value} {xs:List α} {i:Int} {c:List Value}
theorem SG (h:S d e W base ok (.slice (some ⟨g,0,none⟩) n cap) xs) (z:α) (i:Int) (h0:0≤i) (h1:i<n) :
    ∃ (qX:Nat→Prop) (c:List Value),c.length=d.sz∧d.M W base qX (xs.getD i.toNat z) c∧(∀ j u,c[j]?=some u→W.cell? ⟨g,i.toNat*d.sz+j,none⟩=some u)∧(∀ k,qX k→ok k∧k≠g)∧H d e W base ok (.slice (some ⟨g,0,none⟩) n cap) xs i qX c:=by
  obtain ⟨f,hR⟩:=h
  have hn:=(lN hR).1
  rw [List.length_zipIdx] at hn
  have hgo:some g=(Value.slice (some ⟨g,0,none⟩) n cap).ownBlock:=by simp [Value.ownBlock]
  obtain ⟨hok0,inner,ho,hr⟩:=hR
  have hil:i.toNat<xs.length:=by omega
  have hlen:inner.length=xs.length*d.sz:=by have:=hr.1;rw [List.length_zipIdx] at this;exact this
  have hseg:i.toNat*d.sz+d.sz≤inner.length:=by rw [hlen,← Nat.succ_mul];exact Nat.mul_le_mul_right _ hil
  have hM:=hr.2 i.toNat _ (tV (List.getElem?_eq_getElem hil))
  have hkg:∀ k,some k≠(Value.slice (some ⟨g,0,none⟩) n cap).ownBlock→k≠g:=fun k hk he=>hk (by rw [he];exact hgo)
  refine ⟨fun k=>(ok k∧k≠g)∧f k=i.toNat,(inner.drop (i.toNat*d.sz)).take d.sz,by rw [List.length_take,List.length_drop];omega,?_,fun j u hu=>?_,fun k hk=>hk.1,fun k hk=>hk.1.1,f,fun k hk=>⟨hok0 k hk,fun h2=>h2.1.2 ?_⟩,inner,ho,hr.1,fun m p hm=>?_⟩
  · rw [List.getD_eq_getElem?_getD,List.getElem?_eq_getElem hil]
    exact d.iO (fun k hk=>⟨⟨hk.1.1,hkg k hk.1.2⟩,hk.2⟩) hM
  · rw [List.getElem?_take] at hu
    split at hu
    · rw [List.getElem?_drop] at hu
      have:=ho.cells (g:=g) hgo.symm _ u hu
      rwa [add_plain] at this
    · cases hu
  · rw [← hgo] at hk;injection hk with hk;exact hk.symm
  · have hold:=hr.2 m p hm
    have hp2:p.2=m:=by
      rw [List.getElem?_zipIdx,Nat.zero_add] at hm
      obtain ⟨q,_,rfl⟩:=Option.map_eq_some_iff.1 hm
      rfl
    refine ⟨fun hx=>?_,fun hx=>d.iO (fun k hk=>⟨⟨⟨hk.1.1,fun h2=>hx ?_⟩,hk.1.2⟩,hk.2⟩) hold⟩
    · have Qg:m=i.toNat:=by omega
      subst Qg
      exact ⟨rfl,d.mZ (d.jJ hM),d.nC (d.jJ hM)⟩
    · rw [← hk.2];exact h2.2
open Classical in
theorem SH (h:H d e w base ok v xs i qX c) {x':α} (hM:d.M w base jC x' c) (hok:∀ k,jC k→qX k):S d e w base ok v (xs.set i.toNat x'):=by
  obtain ⟨ho,f,h0,inner,hown,hr⟩:=h
  refine ⟨fun k=>if qX k then i.toNat else f k,fun k hk=>(h0 k hk).1,inner,by rw [List.length_zipIdx,List.length_set];rw [List.length_zipIdx] at hown;exact hown,by have:=hr.1;rw [List.length_zipIdx] at this;rw [List.length_zipIdx,List.length_set];exact this,fun m p hm=>?_⟩
  rw [List.getElem?_zipIdx,Nat.zero_add] at hm
  obtain ⟨q,hq,rfl⟩:=Option.map_eq_some_iff.1 hm
  have hml:m<xs.length:=by
    have:=(List.getElem?_eq_some_iff.1 hq).1
    rwa [List.length_set] at this
  by_cases Qg:m=i.toNat
  · subst Qg
    rw [List.getElem?_set_self hml] at hq
    injection hq with hq
    subst hq
    have hc:=((hr.2 i.toNat _ (tV (List.getElem?_eq_getElem hml))).1 rfl).1
    show d.M w base _ x' ((inner.drop (i.toNat*d.sz)).take d.sz)
    rw [show (inner.drop (i.toNat*d.sz)).take d.sz=c from hc]
    exact d.iO (fun k hk=>⟨⟨ho k (hok k hk),fun he=>(h0 k he.symm).2 (hok k hk)⟩,if_pos (hok k hk)⟩) hM
  · rw [List.getElem?_set_ne (Ne.symm Qg)] at hq
    exact d.iO (fun k hk=>⟨⟨hk.1.1.1,hk.1.2⟩,(if_neg hk.1.1.2).trans hk.2⟩) ((hr.2 m (q,m) (tV hq)).2 Qg)
theorem Oh (h:H d e w base ok v xs i qX c):H d e w base ok v xs i (fun k=>qX k∨ok k∧w.heap.size≤k) c:=by
  obtain ⟨ho,f,h⟩:=h
  exact ⟨fun k hk=>hk.elim (ho k) (fun h2=>h2.1),f,mD (pK h) (fun k hk=>⟨hk.1.1,fun h2=>h2.elim hk.1.2 (fun h3=>by have:=hk.2.2.1;omega)⟩)⟩
theorem SI (h:H d e w base ok v xs i qX c) (hm:∀ k,ok k→¬ qX k→k<w.heap.size→w1.heap[k]?=w.heap[k]?):H d e w1 base ok v xs i qX c:=by
  obtain ⟨ho,f,h⟩:=h
  exact ⟨ho,f,zV h (fun k hk hlt=>hm k hk.1 hk.2 hlt)⟩
theorem Og (h:H d e w base ok v xs i qX c) {row:Option Nat} (hg:w.grownBy w1 row) (hrow:∀ k,row=some k→qX k):H d e w1 base ok v xs i qX c :=
  SI h (fun k _ hn hlt=>hg.block k hlt (fun he=>hn (hrow k he.symm)))
theorem SK (h:H d e w base ok v xs i qX c) (hok:∀ k,ok k→ok' k):H d e w base ok' v xs i qX c:=by
  obtain ⟨ho,f,h⟩:=h
  exact ⟨fun k hk=>hok k (ho k hk),f,mD h (fun k hk=>⟨hok k hk.1,hk.2⟩)⟩
theorem SL {OM:Nat→Prop} (h:H d e w base (fun k=>ok k∧¬ OM k) v xs i qX c) (hg:∀ k,OM k→ok k):H d e w base ok v xs i (fun k=>qX k∨OM k) c:=by
  obtain ⟨ho,f,h⟩:=h
  exact ⟨fun k hk=>hk.elim (fun h2=>(ho k h2).1) (hg k),f,mD h (fun k hk=>⟨hk.1.1,fun h2=>h2.elim hk.2 hk.1.2⟩)⟩
theorem RP (h:S d e W base ok (.slice (some ⟨g,0,none⟩) n cap) xs) (z:α) (i:Int) (h0:0≤i) (h1:i<n) :
    ∃ (qX:Nat→Prop) (c:List Value),c.length=d.sz∧d.M W base qX (xs.getD i.toNat z) c∧(∀ j u,c[j]?=some u→W.cell? ⟨g,i.toNat*d.sz+j,none⟩=some u)∧(∀ j,W.frozen? ⟨g,i.toNat*d.sz+j,none⟩=false)∧(∀ k,qX k→ok k∧k≠g)∧H d e W base ok (.slice (some ⟨g,0,none⟩) n cap) xs i qX c:=by
  obtain ⟨_,_,_,_,hfr⟩:=LP (Tz h) z i h0 h1
  obtain ⟨qX,c,hcl,hM,hcc,UZ,hH⟩:=SG h z i h0 h1
  exact ⟨qX,c,hcl,hM,hcc,hfr,UZ,hH⟩
theorem VB (h:H d e W base ok (.slice (some ⟨g,0,none⟩) n cap) xs i qX c) (h0:0≤i) (h1:i<n) :
    ∃ rows:List (List Value),rows.length=xs.length∧(raw d.sz).R e W base (fun _=>True) (.slice (some ⟨g,0,none⟩) n cap) rows∧c.length=d.sz∧(∀ u ∈ c,u.oneCell'=true)∧(∀ j u,c[j]?=some u→W.cell? ⟨g,i.toNat*d.sz+j,none⟩=some u) ∧
      ∀ w1 c',W.grownBy w1 (some g)→(raw d.sz).R e w1 base (fun _=>True) (.slice (some ⟨g,0,none⟩) n cap) (rows.set i.toNat c')→H d e w1 base ok (.slice (some ⟨g,0,none⟩) n cap) xs i qX c':=by
  obtain ⟨hoo,f,hR⟩:=h
  have hn:=(lN hR).1
  rw [List.length_zipIdx] at hn
  have hgo:some g=(Value.slice (some ⟨g,0,none⟩) n cap).ownBlock:=by simp [Value.ownBlock]
  obtain ⟨hok0,inner,ho,hr⟩:=hR
  have hil:i.toNat<xs.length:=by omega
  have hlen:inner.length=xs.length*d.sz:=by have:=hr.1;rw [List.length_zipIdx] at this;exact this
  have hkg:∀ k,some k≠(Value.slice (some ⟨g,0,none⟩) n cap).ownBlock→k≠g:=fun k hk he=>hk (by rw [he];exact hgo)
  have hci:=(hr.2 i.toNat _ (tV (List.getElem?_eq_getElem hil))).1 rfl
  rw [hci.1] at hci
  have hc:=((hr.2 i.toNat _ (tV (List.getElem?_eq_getElem hil))).1 rfl).1
  refine ⟨(List.range xs.length).map fun j=>(inner.drop (j*d.sz)).take d.sz,by rw [List.length_map,List.length_range],⟨fun _ _=>trivial,inner,?_,?_,fun j p hj=>?_⟩,hci.2.1,hci.2.2,fun j u hu=>?_,fun w1 c' hg hraw=>?_⟩
  · rw [List.length_map,List.length_range];rw [List.length_zipIdx] at ho;exact ho
  · rw [List.length_map,List.length_range];exact hlen
  · rw [List.getElem?_map] at hj
    obtain ⟨j',hj',rfl⟩:=Option.map_eq_some_iff.1 hj
    obtain ⟨hl,he⟩:=List.getElem?_eq_some_iff.1 hj'
    rw [List.getElem_range] at he
    subst he
    rw [List.length_range] at hl
    have hm:=(gap f d i.toNat c).jJ (hr.2 j _ (tV (List.getElem?_eq_getElem hl)))
    exact ⟨rfl,(gap f d i.toNat c).mZ hm,(gap f d i.toNat c).nC hm⟩
  · rw [← hc,List.getElem?_take] at hu
    split at hu
    · rw [List.getElem?_drop] at hu
      have:=ho.cells (g:=g) hgo.symm _ u hu
      rwa [add_plain] at this
    · cases hu
  · obtain ⟨_,inner',ho',hr'⟩:=hraw
    have hl':inner'.length=xs.length*d.sz:=by have:=hr'.1;rw [List.length_set,List.length_map,List.length_range] at this;exact this
    rw [List.length_set,List.length_map,List.length_range] at ho'
    refine ⟨hoo,f,hok0,inner',by rw [List.length_zipIdx];exact ho',by rw [List.length_zipIdx];exact hl',fun m p hm=>?_⟩
    rw [List.getElem?_zipIdx,Nat.zero_add] at hm
    obtain ⟨q,hq,rfl⟩:=Option.map_eq_some_iff.1 hm
    have hml:m<xs.length:=(List.getElem?_eq_some_iff.1 hq).1
    have hold:=hr.2 m (q,m) (tV hq)
    refine ⟨fun hx=>?_,fun hx=>?_⟩
    · have hx':m=i.toNat:=hx
      subst hx'
      exact hr'.2 i.toNat c' (List.getElem?_set_self (by rw [List.length_map,List.length_range];exact hml))
    · have hx':m≠i.toNat:=hx
      have hcm:=(hr'.2 m ((inner.drop (m*d.sz)).take d.sz) (by
        rw [List.getElem?_set_ne (Ne.symm hx'),List.getElem?_map,List.getElem?_eq_getElem (by rw [List.length_range];exact hml),List.getElem_range]
        rfl)).1
      show d.M w1 base _ q ((inner'.drop (m*d.sz)).take d.sz)
      rw [show (inner'.drop (m*d.sz)).take d.sz=_ from hcm]
      exact d.iO (fun k hk=>hk.1) (d.lI (w1:=w1) (fun k hk=>hg.block k hk.2.2.1 (fun he=>hkg k hk.1.1.2 (by injection he))) (d.jV (hold.2 hx)))
theorem VC (h:H d e W base ok (.slice (some ⟨g,0,none⟩) n cap) xs i qX c) (h0:0≤i) (h1:i<n) {seg:List Value} {j:Nat} (hj:j+seg.length≤d.sz) (hone:∀ q ∈ seg,q.oneCell'=true) :
    H d e (W.setCells g (i.toNat*d.sz+j) seg) base ok (.slice (some ⟨g,0,none⟩) n cap) xs i qX (c.take j ++ seg ++ c.drop (j+seg.length))∧W.grownBy (W.setCells g (i.toNat*d.sz+j) seg) (some g):=by
  obtain ⟨rows,_,hraw,hcl,hco,hcc,hback⟩:=VB h h0 h1
  obtain ⟨h2,h3⟩:=VD hraw i h0 h1 (c:=c) (seg:=seg) (j:=j) (x':=c.take j ++ seg ++ c.drop (j+seg.length)) (jC:=fun _=>False) hcl hcc hj
    ⟨rfl,by
      show (c.take j ++ seg ++ c.drop (j+seg.length)).length=d.sz
      simp only [List.length_append,List.length_take,List.length_drop];omega,fun u hu=>by
      rcases List.mem_append.1 hu with hu|hu
      · rcases List.mem_append.1 hu with hu|hu
        · exact hco u (List.mem_of_mem_take hu)
        · exact hone u hu
      · exact hco u (List.mem_of_mem_drop hu)⟩ (fun _ hk=>hk.elim)
  exact ⟨hback _ _ h3 h2,h3⟩
theorem VE {OM:Nat→Prop} (hH:H d e W base (fun k=>ok k∧¬ OM k) (.slice (some ⟨g,0,none⟩) n cap) xs i qX c) (h0:0≤i) (h1:i<n) {seg:List Value} {j:Nat} (hj:j+seg.length≤d.sz)
    {x':α} (hM:d.M W base jC x' (c.take j ++ seg ++ c.drop (j+seg.length))) (qZ:∀ k,jC k→qX k∨OM k) (hg:∀ k,OM k→ok k∧k≠g) :
    S d e (W.setCells g (i.toNat*d.sz+j) seg) base ok (.slice (some ⟨g,0,none⟩) n cap) (xs.set i.toNat x')∧W.grownBy (W.setCells g (i.toNat*d.sz+j) seg) (some g):=by
  have hne:∀ k,qX k∨OM k→k≠g:=by
    intro k hk he
    subst he
    rcases hk with hk|hk
    · obtain ⟨_,f,hR⟩:=hH
      exact (hR.1 k (by simp [Value.ownBlock])).2 hk
    · exact (hg k hk).2 rfl
  obtain ⟨h2,h3⟩:=VC (SL hH (fun k hk=>(hg k hk).1)) h0 h1 hj (fun q hq=>d.nC (d.jJ hM) q (List.mem_append_left _ (List.mem_append_right _ hq)))
  exact ⟨SH h2 (FW hM (fun k hk hlt=>h3.block k hlt (fun he=>hne k (qZ k hk) (by injection he)))) qZ,h3⟩
end
section
variable {P:Program} {ops:Array Oper} {rest:List Oper} {o:Oper} {a:Act} {Q:Exit→Act→World→Prop} {α:Type}
end
end Kd
end Go.Proofs.YtipjpdiianopcaaW.aZ
end
section
namespace Go.Proofs.YtipjpdiianopcaaW.aZ
open Go.RowKit
namespace Kd
section
variable {α:Type} {n:Nat} {d:Kd α} {hs:0<d.sz} {w:World} {base:Nat} {ok:Nat→Prop} {xs:List α} {cs:List Value}
end
section
variable {α:Type} {n:Nat} {enc:α→Value} {h1:∀ x,(enc x).oneCell'=true} {hs:0<(scalar enc h1).sz} {w:World} {base:Nat} {ok:Nat→Prop} {xs:List α} {cs:List Value}
end
end Kd
end Go.Proofs.YtipjpdiianopcaaW.aZ
end
section
namespace Go.Proofs.YtipjpdiianopcaaW.aZ
open Go.RowKit
namespace Kd
structure Heap {α:Type} (d:Kd α):Prop where
  K:∀ {w w1:World} {x:α} {cs:List Value},(∀ k,k<w.heap.size→w1.heap[k]?=w.heap[k]?)→d.K w x cs→d.K w1 x cs
theorem Jg {w w1:World} (hb:∀ k,k<w.heap.size→w1.heap[k]?=w.heap[k]?) {a:Addr} {v:Value} (h:w.cell? a=some v):w1.cell? a=some v:=by
  have:=hb a.block (World.block_lt_of_cell? w a h)
  simpa [World.cell?,this] using h
theorem Heap.C {α:Type} {d:Kd α} (hd:Heap d) {w w1:World} {A:Option Addr} {n:Nat} {xs:List α} (hb:∀ k,k<w.heap.size→w1.heap[k]?=w.heap[k]?) (h:d.C w A n xs):d.C w1 A n xs :=
  ⟨h.1,h.2.1,fun hn=>by
    obtain ⟨ad,e,hc⟩:=h.2.2 hn
    refine ⟨ad,e,fun j p hj=>?_⟩
    obtain ⟨c,hs,hr,hcell⟩:=hc j p hj
    exact ⟨c,hs,hd.K hb hr,fun i u hu=>Jg hb (hcell i u hu)⟩⟩
section
variable {α:Type} {d:Kd α} {e base g n c:Nat} {ok:Nat→Prop} {w w0 W:World} {A:Option Addr} {xs:List α}
end
end Kd
end Go.Proofs.YtipjpdiianopcaaW.aZ
end
section
namespace Go.Proofs.YtipjpdiianopcaaW.aZ
open Go.RowKit
section
variable {w W W2:World} {S S2 S':Nat→Prop}
end
namespace Kd
section
variable {α:Type} {d:Kd α} {e base n c:Nat} {ok qX S S2:Nat→Prop} {w w0 W W1 W2:World} {v:Value} {A:Option Addr} {xs:List α} {i:Int} {cs:List Value}
end
end Kd
end Go.Proofs.YtipjpdiianopcaaW.aZ
end
section
namespace Go.Proofs.YtipjpdiianopcaaW.aZ
open Go.RowKit
def qC (P:World→Prop) (W:World) (ok:Nat→Prop):Prop:=∀ W':World,(∀ k,ok k→k<W.heap.size→W'.heap[k]?=W.heap[k]?)→P W'
theorem OO {W W1:World} {k:Nat} (h:W1.heap[k]?=W.heap[k]?) (hlt:k<W.heap.size):k<W1.heap.size:=by
  rw [Array.getElem?_eq_getElem hlt] at h
  exact (Array.getElem?_eq_some_iff.1 h).1
namespace qC
variable {P Q:World→Prop} {W W1:World} {ok ok':Nat→Prop}
theorem now (h:qC P W ok):P W:=h W (fun _ _ _=>rfl)
theorem mono (h:qC P W ok) (hok:∀ k,ok k→ok' k):qC P W ok':=fun W' hW=>h W' (fun k hk hlt=>hW k (hok k hk) hlt)
theorem bound (h:qC P W ok):qC P W (fun k=>ok k∧k<W.heap.size):=fun W' hW=>h W' (fun k hk hlt=>hW k ⟨hk,hlt⟩ hlt)
theorem step (h:qC P W ok) (hm:∀ k,ok k→k<W.heap.size→W1.heap[k]?=W.heap[k]?):qC P W1 ok:=fun W' hW=>h W' (fun k hk hlt=>(hW k hk (OO (hm k hk hlt) hlt)).trans (hm k hk hlt))
theorem old (h:qC P W ok) (hb:Below W.heap.size W W1):qC P W1 (fun k=>ok k∧k<W.heap.size):=(h.bound).step (fun k _ hlt=>hb.block k hlt)
end qC
namespace Kd
def F {α:Type} (d:Kd α) (W:World) (ok:Nat→Prop) (A:Option Addr) (n:Nat) (xs:List α):Prop:=qC (fun W=>d.C W A n xs) W ok
def FK {α:Type} (d:Kd α) (W:World) (ok:Nat→Prop) (x:α) (c:List Value):Prop:=qC (fun W=>d.K W x c) W ok
section
variable {α β:Type} {d:Kd α} {e base n n' cc g N:Nat} {ok ok' jC S:Nat→Prop} {w w0 w1 W W1:World} {A A':Option Addr} {u v v1:Value} {xs:List α} {xs':List β} {d':Kd β} {x:α} {c:List Value}
theorem VF (h:F d W ok A n xs):d.C W A n xs:=qC.now h
theorem LQ (h:F d W ok A n xs) (hok:∀ k,ok k→ok' k):F d W ok' A n xs:=qC.mono h hok
theorem OQ (h:F d W ok A n xs):F d W (fun k=>ok k∧k<W.heap.size) A n xs:=qC.bound h
theorem SN (h:F d W ok A n xs) (hm:∀ k,ok k→k<W.heap.size→W1.heap[k]?=W.heap[k]?):F d W1 ok A n xs:=qC.step h hm
theorem yT (h:F d W ok A n xs) (hb:Below W.heap.size W W1):F d W1 ok A n xs:=SN h (fun k _ hlt=>hb.block k hlt)
theorem OT (h:F d W ok A n xs) (o:Obj):F d (W.alloc o) ok A n xs:=yT h (iG (Below.refl _ _) o)
theorem SQ (h:F d W ok A n xs):F d W.drew ok A n xs:=yT h (pX (Below.refl _ _))
theorem OU (h:F d W ok A n xs) (m:Nat):F d (W.drewN m) ok A n xs:=yT h (gB (Below.refl _ _) m)
theorem PO (d:Kd α) (W:World) (ok:Nat→Prop):F d W ok none ([]:List α).length []:=fun W' _=>VG d W'
theorem OV (h:F d W (fun k=>ok k∧some k≠v.ownBlock) A n xs) (hg:W.grownBy W1 v.ownBlock) (hat:v1.ownBlock=v.ownBlock∨∃ b,v1.ownBlock=some b∧W.heap.size≤b):F d W1 (fun k=>ok k∧some k≠v1.ownBlock) A n xs:=by
  refine LQ (qC.step (OQ h) (fun k hk hlt=>hg.block k hlt hk.1.2)) (fun k hk=>⟨hk.1.1,?_⟩)
  rcases hat with hat|⟨b,hb,hle⟩
  · rw [hat];exact hk.1.2
  · rw [hb]
    intro he
    injection he with he
    have:=hk.2
    omega
theorem R_F (h:d.R e W base ok (.slice A n cc) xs):F d W ok A n xs:=fun W' hW=>by
  have h2:=lN (zV h hW)
  rw [h2.1]
  exact h2.2.2
theorem uS (h:FK d W ok x c):d.K W x c:=qC.now h
theorem uA (h:FK d W ok x c) (hok:∀ k,ok k→ok' k):FK d W ok' x c:=qC.mono h hok
theorem zW (h:FK d W ok x c):FK d W (fun k=>ok k∧k<W.heap.size) x c:=qC.bound h
theorem yU (h:FK d W ok x c) (hm:∀ k,ok k→k<W.heap.size→W1.heap[k]?=W.heap[k]?):FK d W1 ok x c:=qC.step h hm
theorem KD (h:FK d W ok x c) (hb:Below W.heap.size W W1):FK d W1 ok x c:=yU h (fun k _ hlt=>hb.block k hlt)
theorem OW (h:d.M W base ok x c):FK d W ok x c:=fun _ hW=>d.jJ (FW h hW)
end
end Kd
end Go.Proofs.YtipjpdiianopcaaW.aZ
end
section
namespace Go.Proofs.YtipjpdiianopcaaW.aZ
open Go.RowKit
section
variable {P:Program}
end
namespace Kd
section
variable {P:Program} {ops:Array Oper} {rest:List Oper} {o:Oper} {a:Act} {Q:Exit→Act→World→Prop} {Kc:Act→World→Prop} {α:Type}
end
section
variable {α:Type} {d:Kd α} {e:Nat} {w:World} {base:Nat} {ok:Nat→Prop} {v:Value} {xs:List α}
end
section
variable {P:Program} {ops:Array Oper} {rest:List Oper} {o:Oper} {a:Act} {Q:Exit→Act→World→Prop} {Kc:Act→World→Prop} {α:Type}
end
end Kd
end Go.Proofs.YtipjpdiianopcaaW.aZ
end
section
namespace Go.Proofs.YtipjpdiianopcaaW.aZ
open Go.RowKit
namespace Kd
def chunks (sz:Nat) (n:Nat) (inner:List Value):List (List Value):=(List.range n).map fun j=>(inner.drop (j*sz)).take sz
theorem jW (sz n:Nat) (inner:List Value):(chunks sz n inner).length=n:=by simp [chunks]
theorem Jh {sz n:Nat} {inner:List Value} {j:Nat} (hj:j<n):(chunks sz n inner)[j]?=some ((inner.drop (j*sz)).take sz):=by simp [chunks,hj]
theorem uZ {sz n:Nat} {inner:List Value} {j:Nat} {c:List Value} (h:(chunks sz n inner)[j]?=some c):c=(inner.drop (j*sz)).take sz:=by
  have hj:j<n:=by have:=(List.getElem?_eq_some_iff.1 h).1;rwa [jW] at this
  rw [Jh hj] at h
  injection h with h
  exact h.symm
theorem En {α:Type} {Rr:α→List Value→Prop} {sz:Nat} {xs:List α} {inner:List Value} (h:dY Rr sz xs inner) (hR:∀ x c,Rr x c→c.length=sz∧∀ u ∈ c,u.oneCell'=true):dY (fun x cs=>cs=x∧cs.length=sz∧∀ u ∈ cs,u.oneCell'=true) sz (chunks sz xs.length inner) inner:=by
  refine ⟨by rw [jW];exact h.1,fun j p hj=>?_⟩
  have hjl:j<xs.length:=by have:=(List.getElem?_eq_some_iff.1 hj).1;rwa [jW] at this
  have hp:=uZ hj
  exact ⟨hp.symm,hR _ _ (h.2 j _ (List.getElem?_eq_getElem hjl))⟩
section
variable {α:Type} {d:Kd α} {e base n cc g:Nat} {ok ok' jC S:Nat→Prop} {w w1 W W1:World} {A:Option Addr} {u v v1:Value} {xs:List α} {x:α} {c:List Value}
def N {α:Type} (d:Kd α) (e:Nat) (w:World) (base:Nat) (ok:Nat→Prop) (v:Value) (xs:List α):Prop :=
  (∀ k,v.ownBlock=some k→ok k)∧∃ rows:List (List Value),rows.length=xs.length∧(raw d.sz).R e w base (fun k=>some k=v.ownBlock) v rows∧∀ (j:Nat) (x:α) (c:List Value),xs[j]?=some x→rows[j]?=some c→FK d w (fun k=>ok k∧some k≠v.ownBlock) x c
theorem Bd {sz:Nat} {rows:List (List Value)} (h:(raw sz).R e w base ok v rows):(raw sz).R e w base (fun k=>some k=v.ownBlock) v rows:=OJ rfl h
theorem OX {sz:Nat} {rows:List (List Value)} (h:(raw sz).R e w base ok v rows):(raw sz).R e w base (fun _=>True) v rows:=mD h (fun _ _=>trivial)
theorem R_N (h:d.R e w base ok v xs):N d e w base ok v xs:=by
  obtain ⟨h0,inner,ho,hr⟩:=h
  refine ⟨h0,chunks d.sz xs.length inner,jW _ _ _,⟨fun k hk=>hk.symm,inner,by rw [jW];exact ho,En hr (fun x c hp=>⟨d.mZ (d.jJ hp),d.nC (d.jJ hp)⟩)⟩,fun j x c hx hc=>?_⟩
  rw [uZ hc]
  exact OW (hr.2 j x hx)
theorem S_N (h:Kd.S d e w base ok v xs):N d e w base ok v xs:=R_N (Tz h)
theorem Vd (d:Kd α) (e:Nat) (w:World) (base:Nat) (ok:Nat→Prop):N d e w base ok (.slice none 0 0) []:=R_N (DV _ _ _ _ _)
theorem gY (h:N d e w base ok v xs) (hok:∀ k,ok k→ok' k):N d e w base ok' v xs:=by
  obtain ⟨h0,rows,hl,hR,hf⟩:=h
  exact ⟨fun k hk=>hok k (h0 k hk),rows,hl,hR,fun j x c hx hc=>uA (hf j x c hx hc) (fun k hk=>⟨hok k hk.1,hk.2⟩)⟩
theorem IU (h:N d e w base ok v xs):∀ k,v.ownBlock=some k→k<w.heap.size:=by
  obtain ⟨_,rows,_,hR,_⟩:=h
  exact iT hR
theorem BO (h:N d e w base ok v xs):∀ k,v.ownBlock=some k→base≤k:=by
  obtain ⟨_,rows,_,hR,_⟩:=h
  exact CS hR
theorem Ou (h:N d e w base ok v xs):∀ k,v.ownBlock=some k→∃ cells,w.heap[k]?=some (.cells cells e (0,0)):=by
  obtain ⟨_,rows,_,hR,_⟩:=h
  exact yP hR
theorem Dh (h:N d e w base ok v xs):N d e w base (fun k=>ok k∧k<w.heap.size) v xs:=by
  have hlt:=IU h
  obtain ⟨h0,rows,hl,hR,hf⟩:=h
  exact ⟨fun k hk=>⟨h0 k hk,hlt k hk⟩,rows,hl,hR,fun j x c hx hc=>uA (zW (hf j x c hx hc)) (fun k hk=>⟨⟨hk.1.1,hk.2⟩,hk.1.2⟩)⟩
theorem oV {base':Nat} (h:N d e w base ok v xs) (hb:base'≤base):N d e w base' ok v xs:=by
  obtain ⟨h0,rows,hl,hR,hf⟩:=h
  exact ⟨h0,rows,hl,vJ hR hb,hf⟩
theorem FX (h:N d e w base ok v xs) (hm:∀ k,ok k→k<w.heap.size→w1.heap[k]?=w.heap[k]?):N d e w1 base ok v xs:=by
  obtain ⟨h0,rows,hl,hR,hf⟩:=h
  exact ⟨h0,rows,hl,zV hR (fun k hk hlt=>hm k (h0 k hk.symm) hlt),fun j x c hx hc=>yU (hf j x c hx hc) (fun k hk hlt=>hm k hk.1 hlt)⟩
theorem gJ (h:N d e w base ok v xs) (hb:Below w.heap.size w w1):N d e w1 base ok v xs:=FX h (fun k _ hk=>hb.block k hk)
theorem OY (h:N d e w base ok v xs) (o:Obj):N d e (w.alloc o) base ok v xs:=gJ h (iG (Below.refl _ _) o)
theorem uX (h:N d e w base ok v xs):N d e w.drew base ok v xs:=gJ h (pX (Below.refl _ _))
theorem OZ (h:N d e w base ok v xs) (m:Nat):N d e (w.drewN m) base ok v xs:=gJ h (gB (Below.refl _ _) m)
theorem mP (h:N d e w base ok v xs) {p:Addr} (hok:∀ k,ok k→k≠p.block) (u:Value):N d e (w.setCell p u) base ok v xs:=FX h (fun k ho _=>Below.heap_setCell w p u k (hok k ho))
theorem pV (h:N d e W base ok v xs) (hbase:∀ k,u.ownBlock=some k→W.heap.size≤k) (hb:Below W.heap.size W w1):N d e w1 base (fun k=>ok k∧some k≠u.ownBlock) v xs :=
  gY (gJ (Dh h) hb) (fun k hk=>⟨hk.1,fun he=>by have:=hbase k he.symm;have:=hk.2;omega⟩)
theorem oD (h:N d e w base ok v xs) (a:Nat) (ha:w.heap.size≤a):N d e w base (fun k=>ok k∧k≠a) v xs:=gY (Dh h) (fun k hk=>⟨hk.1,by have:=hk.2;omega⟩)
theorem Pg (h:N d e W base (fun k=>ok k∧some k≠u.ownBlock) v xs) {u1:Value} (hg:W.grownBy w1 u.ownBlock) (hat:u1.ownBlock=u.ownBlock∨∃ b,u1.ownBlock=some b∧W.heap.size≤b):N d e w1 base (fun k=>ok k∧some k≠u1.ownBlock) v xs:=by
  refine gY (FX (Dh h) (fun k hk hlt=>hg.block k hlt hk.1.2)) (fun k hk=>⟨hk.1.1,?_⟩)
  rcases hat with hat|⟨b,hb,hle⟩
  · rw [hat];exact hk.1.2
  · rw [hb]
    intro he
    injection he with he
    have:=hk.2
    omega
theorem kQ (h:N d e w base ok v xs):∃ A c,v=.slice A xs.length c:=by
  obtain ⟨_,rows,hl,hR,_⟩:=h
  obtain ⟨A,c,he⟩:=qF hR
  exact ⟨A,c,by rw [he,hl]⟩
theorem iK {n c:Nat} (h:N d e w base ok (.slice A n c) xs):n=xs.length∧n≤c∧d.C w A xs.length xs:=by
  obtain ⟨_,rows,hl,hR,hf⟩:=h
  obtain ⟨hn,hc,hC⟩:=lN hR
  refine ⟨by omega,hc,?_⟩
  rw [hl] at hC
  refine ⟨rfl,hC.2.1,fun hp=>?_⟩
  obtain ⟨ad,he,hcell⟩:=hC.2.2 hp
  refine ⟨ad,he,fun j p hj=>?_⟩
  have hjl:j<rows.length:=by have:=(List.getElem?_eq_some_iff.1 hj).1;omega
  obtain ⟨c',hcl,hK,hcc⟩:=hcell j _ (List.getElem?_eq_getElem hjl)
  have hk:=uS (hf j p _ hj (List.getElem?_eq_getElem hjl))
  refine ⟨c',hcl,?_,hcc⟩
  rw [show c'=rows[j] from hK.1]
  exact hk
theorem SS {n cap:Nat} (h:N d e W base ok (.slice (some ⟨g,0,none⟩) n cap) xs) (z:α) (i:Int) (h0:0≤i) (h1:i<n) :
    ∃ c,c.length=d.sz∧FK d W (fun k=>ok k∧k≠g) (xs.getD i.toNat z) c∧(∀ j u,c[j]?=some u→W.cell? ⟨g,i.toNat*d.sz+j,none⟩=some u)∧∀ j,W.frozen? ⟨g,i.toNat*d.sz+j,none⟩=false:=by
  obtain ⟨_,rows,hl,hR,hf⟩:=h
  have hn:=(lN hR).1
  obtain ⟨c,hcl,hM,hcc,hfr⟩:=LP hR [] i h0 h1
  have hil:i.toNat<rows.length:=by omega
  have VH:i.toNat<xs.length:=by omega
  have hc:c=rows[i.toNat]:=by
    have h2:=hM.1
    rwa [List.getD_eq_getElem?_getD,List.getElem?_eq_getElem hil] at h2
  refine ⟨c,hcl,?_,hcc,hfr⟩
  rw [List.getD_eq_getElem?_getD,List.getElem?_eq_getElem VH]
  exact uA (hf _ _ _ (List.getElem?_eq_getElem VH) (by rw [hc];exact List.getElem?_eq_getElem hil)) (fun k hk=>⟨hk.1,fun he=>hk.2 (by rw [he];simp [Value.ownBlock])⟩)
theorem xO {ad:Addr} {n cap:Nat} (h:N d e W base ok (.slice (some ad) n cap) xs) (z:α) (i:Int) (h0:0≤i) (h1:i<n) :
    ∃ c,c.length=d.sz∧FK d W (fun k=>ok k∧some k≠(Value.slice (some ad) n cap).ownBlock) (xs.getD i.toNat z) c∧∀ j u,c[j]?=some u→W.cell? (ad.add (i.toNat*d.sz+j))=some u:=by
  obtain ⟨g,rfl⟩:∃ g,ad=⟨g,0,none⟩:=by
    obtain ⟨_,rows,_,hR,_⟩:=h
    exact SB hR
  obtain ⟨c,hcl,hM,hcc,_⟩:=SS h z i h0 h1
  refine ⟨c,hcl,uA hM (fun k hk=>⟨hk.1,fun he=>hk.2 (by simpa [Value.ownBlock] using he)⟩),fun j u hu=>?_⟩
  rw [SV,Nat.zero_add]
  exact hcc j u hu
end
end Kd
end Go.Proofs.YtipjpdiianopcaaW.aZ
end
section
namespace Go.Proofs.YtipjpdiianopcaaW.aZ
open Go.RowKit
namespace Kd
section
variable {α:Type} {d:Kd α} {W:World} {g n:Nat} {S ok:Nat→Prop} {A:Option Addr} {ad:Addr} {xs:List α}
end
end Kd
end Go.Proofs.YtipjpdiianopcaaW.aZ
end
section
namespace Go.Proofs.YtipjpdiianopcaaW.aZ
open Go.RowKit
section
variable {w w' u:World} {m B g:Nat} {o:Obj} {row:Option Nat} {S:Nat→Prop} {a:Addr} {v:Value}
end
namespace Kd
section
variable {α:Type} {d:Kd α} {e base n m:Nat} {ok:Nat→Prop} {w w':World} {v:Value} {A:Option Addr} {xs:List α}
end
end Kd
end Go.Proofs.YtipjpdiianopcaaW.aZ
end
section
namespace Go.Proofs.YtipjpdiianopcaaW.aZ
open Go.RowKit
section
variable {P:Program} {d:Nat} {xs ys:Array Value} {f:Field} {fs:List Field} {a b:Value} {r s:Bool} {w:World}
theorem Ed (hn : (f.name == "_") = false) (ha : (part f.type xs f.offset).run P w = .ok a w) (hb : (part f.type ys f.offset).run P w = .ok b w) (he : (Op.equalIn d f.type a b).run P w = .ok r w) : (Op.eqFields d xs ys [f]).run P w = .ok r w := by
  have hn' : f.name ≠ "_" := by simpa using hn
  simp only [Op.eqFields,if_pos hn',Sem.run_bind,ha,hb,he,Result.andThen_ok]
  cases r <;> simp
theorem Ec (hn : (f.name == "_") = false) (ha : (part f.type xs f.offset).run P w = .ok a w) (hb : (part f.type ys f.offset).run P w = .ok b w) (he : (Op.equalIn d f.type a b).run P w = .ok r w) (hr : (Op.eqFields d xs ys fs).run P w = .ok s w) : (Op.eqFields d xs ys (f :: fs)).run P w = .ok (r && s) w := by
  have hn' : f.name ≠ "_" := by simpa using hn
  rw [Op.eqFields]
  simp only [if_pos hn',Sem.run_bind,ha,hb,he,Result.andThen_ok]
  cases r
  · simp
  · simpa using hr
theorem KX {t:TypeId} {fs:Array Field} (hu:P.underlying t=some (.struct fs)) (hp:P.stoodInHeld t=false) (h:(Op.eqFields d xs ys fs.toList).run P w=.ok r w):(Op.equalIn (d+1) t (.agg xs) (.agg ys)).run P w=.ok r w:=by
  have hf:P.fieldsOf t=fs:=by simp [Program.fieldsOf,hu]
  rw [run_equalIn_struct (P:=P) w d t xs ys (by rw [hf];exact hu) hp,hf]
  exact h
end
end Go.Proofs.YtipjpdiianopcaaW.aZ
end
section
namespace Go.Proofs.YtipjpdiianopcaaW.dQ
open Go.Proofs.YtipjpdiianopcaaW.aZ (aA)
def uB (md:Region.Mode) (o:Oper):List Nat:=(o.after.toList.filter (fun e=>Region.binds md e)).map (fun e=>e.on)
def Di (md:Region.Mode) (ops:Array Oper) (i:Nat) (oi:Oper):List Nat:=(List.range ops.size).filter fun j=>!(j==i)&&match ops[j]? with
  | some oj=>!(oj.after.any (fun e=>Region.binds md e&&e.on==i) || oi.apart ops oj)
  | none=>false
def oP (md:Region.Mode) (ops:Array Oper):Bool × List (List Nat × List Nat):=(Region.noSelect ops,(List.range ops.size).map fun i=>match ops[i]? with
  | some o=>(uB md o,Di md ops i o)
  | none=>([],[]))
def qL (T:List (List Nat × List Nat)) (l:List Bool) (i:Nat):Bool:=!l.getD i true&&match T[i]? with
  | some r=>r.1.all (fun j=>l.getD j false)
  | none=>false
def zX (T:List (List Nat × List Nat)) (l:List Bool):List Nat:=(List.range T.length).filter (qL T l)
def Eo (T:List (List Nat × List Nat)) (l:List Bool) (i:Nat):Bool:=match T[i]? with
  | some r=>r.2.all (fun j=>l.getD j true)
  | none=>false
def yV (T:List (List Nat × List Nat)) (l:List Bool):Bool:=(List.range T.length).all fun j=>!l.getD j false || match T[j]? with
  | some r=>r.1.all (fun k=>l.getD k false)
  | none=>true
def xI (T:List (List Nat × List Nat)) (i:Nat):Nat→Nat→Bool
  | 0,_=>false
  | fuel+1,d=>match T[d]? with
    | some r=>r.1.any fun j=>j==i || xI T i fuel j
    | none=>false
def lastT (T:List (List Nat × List Nat)) (l:List Bool) (ds:List Nat) (i:Nat):Bool:=ds.all fun d=>l.getD d true || xI T i T.length d
section
variable {md:Region.Mode} {ops:Array Oper} {T:Bool × List (List Nat × List Nat)} {l l' li lj lk:Array Bool} {ds:List Nat} {i j k:Nat}
theorem gd (l:Array Bool) (j:Nat) (b:Bool):l.getD j b=l.toList.getD j b:=by simp [Array.getD_eq_getD_getElem?,List.getD_eq_getElem?_getD]
theorem Be (o:Oper) (p:Nat→Bool):o.after.all (fun e=>!Region.binds md e || p e.on)=(uB md o).all p:=by
  unfold uB
  rw [← Array.all_toList]
  induction o.after.toList with
  | nil=>rfl
  | cons e r ih =>
    rw [List.all_cons,ih,List.filter_cons]
    cases h:Region.binds md e <;> simp
theorem Ji (o:Oper) (p:Nat→Bool):o.after.any (fun e=>Region.binds md e&&p e.on)=(uB md o).any p:=by
  unfold uB
  rw [← Array.any_toList]
  induction o.after.toList with
  | nil=>rfl
  | cons e r ih =>
    rw [List.any_cons,ih,List.filter_cons]
    cases h:Region.binds md e <;> simp
theorem qM:(oP md ops).2.length=ops.size:=by simp [oP]
theorem uC {o:Oper} (h:ops[i]?=some o):(oP md ops).2[i]?=some (uB md o,Di md ops i o):=by
  have hi:=(Array.getElem?_eq_some_iff.1 h).1
  unfold oP
  rw [List.getElem?_map,List.getElem?_range hi,Option.map_some,h]
theorem uD (h:ops[i]?=none):(oP md ops).2[i]?=none:=by
  have hi:ops.size≤i:=Array.getElem?_eq_none_iff.1 h
  exact List.getElem?_eq_none (by rw [qM];exact hi)
theorem FY:qL (oP md ops).2 l.toList i=(!l.getD i true&&((ops[i]?).map (·.after.all fun e=>!Region.binds md e || l.getD e.on false)).getD false):=by
  unfold qL
  rw [gd]
  cases h:ops[i]? with
  | none=>rw [uD h];rfl
  | some o =>
    rw [uC h]
    simp only [Option.map_some,Option.getD_some]
    rw [← Be]
    simp only [gd]
theorem ready_eq:Region.ready md ops l=zX (oP md ops).2 l.toList:=by
  unfold Region.ready zX
  rw [qM]
  refine List.filter_congr (fun i _=>?_)
  rw [FY]
theorem free_eq:Region.free md ops l i=Eo (oP md ops).2 l.toList i:=by
  unfold Region.free Eo
  cases h:ops[i]? with
  | none=>rw [uD h]
  | some oi =>
    rw [uC h]
    simp only [Di]
    rw [List.all_filter]
    congr 1
    funext j
    rw [gd]
    cases hj:ops[j]? with
    | none=>cases (j==i) <;> cases (l.toList.getD j true) <;> simp
    | some oj =>
      cases (j==i) <;> cases (l.toList.getD j true) <;> cases (oj.after.any (fun e=>Region.binds md e&&e.on==i) || oi.apart ops oj) <;> simp_all
theorem closed_eq:Region.wQ md ops l=yV (oP md ops).2 l.toList:=by
  unfold Region.wQ yV
  rw [qM]
  congr 1
  funext j
  rw [gd]
  cases h:ops[j]? with
  | none=>rw [uD h]
  | some o =>
    rw [uC h]
    simp only
    rw [← Be]
    simp only [gd]
theorem reach_eq:∀ (fuel d:Nat),Region.oQ md ops i fuel d=xI (oP md ops).2 i fuel d
  | 0,_=>rfl
  | fuel+1,d=>by
    unfold Region.oQ xI
    cases h:ops[d]? with
    | none=>rw [uD h]
    | some o =>
      rw [uC h]
      simp only
      rw [← Ji]
      congr 1
      funext e
      rw [reach_eq fuel]
theorem last_eq:Region.lastB md ops l ds i=lastT (oP md ops).2 l.toList ds i:=by
  unfold Region.lastB lastT
  rw [qM]
  congr 1
  funext d
  rw [gd,reach_eq]
theorem xR (h:qL T.2 l.toList i=true) (hT:oP md ops=T):(Region.ready md ops l).contains i=true:=by
  subst hT
  rw [ready_eq]
  unfold zX
  rw [List.contains_iff_mem,List.mem_filter,List.mem_range]
  refine ⟨?_,h⟩
  unfold qL at h
  rw [Bool.and_eq_true] at h
  cases hq:(oP md ops).2[i]? with
  | none=>rw [hq] at h;simp at h
  | some r=>exact (List.getElem?_eq_some_iff.1 hq).1
theorem FZ (h:(l.toList.set i true==l'.toList)=true):(l.setIfInBounds i true==l')=true:=by
  rw [beq_iff_eq] at h ⊢
  apply Array.ext'
  rw [Array.toList_setIfInBounds]
  exact h
def VI (T:Bool × List (List Nat × List Nat)) (l l':List Bool) (i:Nat):Bool:=T.1&&Eo T.2 l i&&qL T.2 l i&&(l.set i true==l')
theorem dR (hT:oP md ops=T) (h:VI T l.toList l'.toList i=true):OI md ops l l' i=true:=by
  simp only [VI,Bool.and_eq_true] at h
  obtain ⟨⟨⟨h1,h2⟩,h3⟩,h4⟩:=h
  have h5:=xR h3 hT
  have h6:=FZ h4
  subst hT
  simp only [OI,Bool.and_eq_true]
  exact ⟨⟨⟨h1,by rw [free_eq];exact h2⟩,h5⟩,h6⟩
def LU (T:Bool × List (List Nat × List Nat)) (ds:List Nat) (l l':List Bool) (i:Nat):Bool:=T.1&&Eo T.2 l i&&qL T.2 l i&&yV T.2 l&&lastT T.2 l ds i&&(l.set i true==l')
theorem Ph (hT:oP md ops=T) (h:LU T ds l.toList l'.toList i=true):takeB md ops ds l l' i=true:=by
  simp only [LU,Bool.and_eq_true] at h
  obtain ⟨⟨⟨⟨⟨h1,h2⟩,h3⟩,h4⟩,h5⟩,h6⟩:=h
  have h7:=xR h3 hT
  have h8:=FZ h6
  subst hT
  simp only [takeB,Bool.and_eq_true]
  exact ⟨⟨⟨⟨⟨h1,by rw [free_eq];exact h2⟩,h7⟩,by rw [closed_eq];exact h4⟩,by rw [last_eq];exact h5⟩,h8⟩
theorem sZ (hT:oP md ops=T) (h:(zX T.2 l.toList==[i]&&l.toList.set i true==l'.toList)=true):xH md ops l l' i=true:=by
  simp only [Bool.and_eq_true] at h
  obtain ⟨h1,h2⟩:=h
  subst hT
  simp only [xH,Bool.and_eq_true]
  exact ⟨by rw [ready_eq];exact h1,FZ h2⟩
theorem rO (hT:oP md ops=T) (h:(zX T.2 l.toList==[])=true):(Region.ready md ops l==[])=true:=by
  subst hT
  rw [ready_eq]
  exact h
def SX (B:List Nat) (d:Nat):List Nat→Nat
  | []=>0
  | n :: r=>(2 ^ n ||| (if n<d then B.getD n 0 else 0)) ||| SX B d r
def oZ (T:List (List Nat × List Nat)) (B:List Nat):Bool:=(List.range T.length).all fun d=>match T[d]? with
  | some r=>(B.getD d 0 ||| SX B d r.1)==SX B d r.1
  | none=>false
theorem IE {B:List Nat} {d i:Nat}:∀ {ns:List Nat},(SX B d ns).testBit i=true→∃ n ∈ ns,n=i∨(n<d∧(B.getD n 0).testBit i=true)
  | [],h=>by simp [SX] at h
  | n :: r,h=>by
    unfold SX at h
    rw [Nat.testBit_or,Nat.testBit_or,Bool.or_eq_true,Bool.or_eq_true] at h
    rcases h with (h|h)|h
    · rw [Nat.testBit_two_pow] at h
      exact ⟨n,List.mem_cons_self,.inl (by simpa using h)⟩
    · by_cases hn:n<d
      · rw [if_pos hn] at h
        exact ⟨n,List.mem_cons_self,.inr ⟨hn,h⟩⟩
      · rw [if_neg hn] at h
        simp at h
    · obtain ⟨m,hm,h2⟩:=IE h
      exact ⟨m,List.mem_cons_of_mem _ hm,h2⟩
theorem Bf {T:List (List Nat × List Nat)} {B:List Nat} (hB:oZ T B=true):∀ (fuel d:Nat),d<fuel→d<T.length→(B.getD d 0).testBit i=true→xI T i fuel d=true
  | 0,d,h,_,_=>by omega
  | fuel+1,d,h,hd,hb=>by
    have h1:=List.all_eq_true.1 hB d (List.mem_range.2 hd)
    cases hr:T[d]? with
    | none=>rw [hr] at h1;simp at h1
    | some r =>
      rw [hr] at h1
      simp only [beq_iff_eq] at h1
      have h2:(SX B d r.1).testBit i=true:=by rw [← h1,Nat.testBit_or,hb,Bool.true_or]
      obtain ⟨n,hn,h3⟩:=IE h2
      unfold xI
      rw [hr]
      simp only
      rw [List.any_eq_true]
      refine ⟨n,hn,?_⟩
      rcases h3 with rfl|⟨h4,h5⟩
      · simp
      · rw [Bf hB fuel n (by omega) (by omega) h5,Bool.or_true]
def Qh (T:List (List Nat × List Nat)) (B:List Nat) (l:List Bool) (ds:List Nat) (i:Nat):Bool:=ds.all fun d=>l.getD d true || (decide (d<T.length)&&(B.getD d 0).testBit i)
def Qi (T:Bool × List (List Nat × List Nat)) (B:List Nat) (ds:List Nat) (l l':List Bool) (i:Nat):Bool:=T.1&&Eo T.2 l i&&qL T.2 l i&&yV T.2 l&&Qh T.2 B l ds i&&(l.set i true==l')
theorem iY {B:List Nat} (hT:oP md ops=T) (hB:oZ T.2 B=true) (h:Qi T B ds l.toList l'.toList i=true):takeB md ops ds l l' i=true:=by
  refine Ph hT ?_
  simp only [Qi,LU,Bool.and_eq_true] at h ⊢
  obtain ⟨⟨⟨⟨⟨h1,h2⟩,h3⟩,h4⟩,h5⟩,h6⟩:=h
  refine ⟨⟨⟨⟨⟨h1,h2⟩,h3⟩,h4⟩,?_⟩,h6⟩
  unfold Qh at h5
  unfold lastT
  rw [List.all_eq_true] at h5 ⊢
  intro d hd
  have h7:=h5 d hd
  rw [Bool.or_eq_true,Bool.and_eq_true,decide_eq_true_eq] at h7
  rcases h7 with h7|⟨h8,h9⟩
  · rw [h7,Bool.true_or]
  · rw [Bf hB _ d h8 h8 h9,Bool.or_true]
theorem oJ {P:Program} {Q:Exit→Act→World→Prop} {S:World→Prop} {n:Nat} {a:Act} {w:World} {B:List Nat} (hT:oP md ops=T) (hB:oZ T.2 B=true) (h:aA (oP md ops=T)→aA (oZ T.2 B=true)→eY P md ops Q S ds n l a w):eY P md ops Q S ds n l a w:=h ⟨hT⟩ ⟨hB⟩
end
def uP:Code→Nat→Option (Array Oper)
  | .region id ops _,k=>if id==k then some ops else none
  | .seq a b,k=>match uP a k with
    | some o=>some o
    | none=>uP b k
  | .cond _ a b,k=>match uP a k with
    | some o=>some o
    | none=>uP b k
  | .block _ c,k=>uP c k
  | .loop c,k=>uP c k
  | .scope c,k=>uP c k
  | .rangeFunc _ _ a b,k=>match uP a k with
    | some o=>some o
    | none=>uP b k
  | _,_=>none
def opsOf (f:Func) (k:Nat):Array Oper:=((f.body.bind fun c=>uP c k)).getD #[]
end Go.Proofs.YtipjpdiianopcaaW.dQ
end
section
namespace Go.Proofs.YtipjpdiianopcaaW.dQ
section
variable {P:Program} {ops:Array Oper} {Q:Exit→Act→World→Prop} {md:Region.Mode} {S:World→Prop} {ds:List Nat} {T:Bool × List (List Nat × List Nat)}
end
end Go.Proofs.YtipjpdiianopcaaW.dQ
end
section
namespace Go.Proofs.YtipjpdiianopcaaW.aZ
open Go.RowKit
section
variable {P:Program} {ops:Array Oper} {rest:List Oper} {o:Oper} {a:Act} {Q:Exit→Act→World→Prop} {W:World}
theorem rW (hw:Region.wanted o (yielded ops a.tmps)=true) (h:wpList P ops Q ({ o with guard:=none } :: rest) a W):wpList P ops Q (o :: rest) a W:=by
  have h1:Region.wanted { o with guard:=none } (yielded ops a.tmps)=true:=rfl
  unfold wpList at h ⊢
  rw [if_pos h1] at h
  rw [if_pos hw]
  exact h
end
end Go.Proofs.YtipjpdiianopcaaW.aZ
end
section
namespace Go.Proofs.YtipjpdiianopcaaW.dQ
def up (b:Nat→Bool) (i:Nat):Nat→Bool:=fun j=>if j=i then true else b j
section
variable {P:Program} {ops:Array Oper} {Q:Exit→Act→World→Prop} {md:Region.Mode} {T:Bool × List (List Nat × List Nat)} {B:List Nat} {O:List Nat} {b:Nat→Bool} {i j n:Nat}
end
end Go.Proofs.YtipjpdiianopcaaW.dQ
end
namespace Go.Proofs.YtipjpdiianopcaaW.aZ
open Go.RowKit
end Go.Proofs.YtipjpdiianopcaaW.aZ
namespace Go.Proofs.YtipjpdiianopcaaW.dQ
section
variable {ops:Array Oper} {a:Act} {o og:Oper} {g:Nat} {t:Tmp} {u:Bool}
end
end Go.Proofs.YtipjpdiianopcaaW.dQ
section
namespace Go.Proofs.YtipjpdiianopcaaW.aZ
open Go.RowKit
namespace Kd
section
variable {α:Type} {d:Kd α} {e base g o n cap:Nat} {ok jC:Nat→Prop} {w W:World} {v:Value} {xs:List α}
end
section
variable {α:Type} {enc:α→Value} {h1:∀ x,(enc x).oneCell'=true} {e base g o n cap:Nat} {ok:Nat→Prop} {W:World} {xs:List α}
end
end Kd
end Go.Proofs.YtipjpdiianopcaaW.aZ
end
section
namespace Go.Proofs.YtipjpdiianopcaaW.aZ
open Go.RowKit
namespace Kd
section
variable {α:Type} {d:Kd α} {e base n cap g:Nat} {ok ok' jC:Nat→Prop} {w w1 W:World} {v v1:Value} {xs ys:List α}
theorem Gf {rows news:List (List Value)} (h0:∀ k,v.ownBlock=some k→ok k) (hl:rows.length=xs.length) (hf:∀ (j:Nat) (x:α) (c:List Value),xs[j]?=some x→rows[j]?=some c→FK d W (fun k=>ok k∧some k≠v.ownBlock) x c)
    (hl2:news.length=ys.length) (hf2:∀ (j:Nat) (x:α) (c:List Value),ys[j]?=some x→news[j]?=some c→FK d W jC x c) (qZ:∀ k,jC k→ok k∧some k≠v.ownBlock) (hfresh:∀ k,W.heap.size≤k→ok k)
    (hR:(raw d.sz).R e w1 base (fun _=>True) v1 (rows ++ news)) (hg:W.grownBy w1 v.ownBlock) (hat:v1.ownBlock=v.ownBlock∨∃ b,v1.ownBlock=some b∧W.heap.size≤b):N d e w1 base ok v1 (xs ++ ys):=by
  have hne:∀ k,some k≠v.ownBlock→k<W.heap.size→some k≠v1.ownBlock:=by
    intro k hk hlt
    rcases hat with hat|⟨b,hb,hle⟩
    · rw [hat];exact hk
    · rw [hb]
      intro he
      injection he with he
      omega
  have step:∀ {x:α} {c:List Value} {o:Nat→Prop},FK d W o x c→(∀ k,o k→ok k∧some k≠v.ownBlock)→FK d w1 (fun k=>ok k∧some k≠v1.ownBlock) x c:=by
    intro x c o hq ho
    exact uA (yU (zW hq) (fun k hk hlt=>hg.block k hlt (ho k hk.1).2)) (fun k hk=>⟨(ho k hk.1).1,hne k (ho k hk.1).2 hk.2⟩)
  refine ⟨fun k hk=>?_,rows ++ news,by rw [List.length_append,List.length_append,hl,hl2],Bd hR,fun j x c hx hc=>?_⟩
  · rcases hat with hat|⟨b,hb,hle⟩
    · exact h0 k (hat ▸ hk)
    · rw [hb] at hk
      injection hk with hk
      exact hfresh k (by omega)
  · rcases Nat.lt_or_ge j xs.length with hlt|hge
    · rw [List.getElem?_append_left hlt] at hx
      rw [List.getElem?_append_left (by omega)] at hc
      exact step (hf j x c hx hc) (fun _ hk=>hk)
    · rw [List.getElem?_append_right hge] at hx
      rw [List.getElem?_append_right (by omega),hl] at hc
      exact step (hf2 _ x c hx hc) qZ
theorem SY {x:α} {c:List Value} (h:FK d W ok x c):c=c∧c.length=d.sz∧∀ u ∈ c,u.oneCell'=true:=⟨rfl,d.mZ (uS h),d.nC (uS h)⟩
theorem Tc {rows:List (List Value)} (hR:(raw d.sz).R e w1 base (fun k=>k=W.heap.size) v1 rows) (hg:W.grownBy w1 none) (hat:∃ b,v1.ownBlock=some b∧W.heap.size≤b) (hl:rows.length=xs.length) (hf:∀ (j:Nat) (x:α) (c:List Value),xs[j]?=some x→rows[j]?=some c→FK d W jC x c)
    (hok:∀ k,jC k→ok k) (hfresh:ok W.heap.size):N d e w1 base ok v1 xs:=by
  obtain ⟨b,hb,hle⟩:=hat
  refine ⟨fun k hk=>by rw [hR.1 k hk];exact hfresh,rows,hl,Bd hR,fun j x c hx hc=>?_⟩
  refine uA (yU (zW (hf j x c hx hc)) (fun k hk hlt=>hg.block k hlt (by simp))) (fun k hk=>⟨hok k hk.1,fun he=>?_⟩)
  rw [hb] at he
  injection he with he
  have:=hk.2
  omega
end
section
variable {P:Program} {ops:Array Oper} {rest:List Oper} {o:Oper} {a:Act} {Q:Exit→Act→World→Prop} {Kc:Act→World→Prop} {α:Type}
theorem Ah (d:Kd α) {w0 W:World} (base:Nat) (hw:Region.wanted o (yielded ops a.tmps)=true) (s x:Operand) (t e:TypeId) (z:Value) (bytes:Nat)
    (ho:o.op=.call { callee:=.builtin .append,args:=#[s,x],argTypes:=#[t,t] })
    (ht:P.underlying t=some (.slice e)) (hinfo:(P.info? e).map (fun i=>(i.zero,i.size,i.bytes))=some (some z,d.sz,bytes)) (hz:z.cells.size=d.sz) (hs0:0<d.sz) (hb0:0<bytes)
    (v:Value) (xs:List α) (p:α) (cs:List Value) (ok jC:Nat→Prop) (hs:a.eval s=v) (hx:a.eval x=.slice (some ⟨W.heap.size,0,none⟩) 1 1) (hp:FK d W jC p cs) (qZ:∀ k,jC k→ok k∧some k≠v.ownBlock) (hfresh:∀ k,W.heap.size≤k→ok k)
    (HO:N d e W base ok v xs) (HB:Below base w0 W) (hbase:base≤W.heap.size) (hl:(xs.length+1)*bytes≤140737488355328)
    (h:∀ v1 w1,N d e w1 base ok v1 (xs ++ [p])→Below base w0 w1→W.grownBy w1 v.ownBlock→(v1.ownBlock=v.ownBlock∨∃ b,v1.ownBlock=some b∧W.heap.size≤b)→Kc (a.put o.dst v1) w1) :
    if Region.wanted o (yielded ops a.tmps)=true then Oper.wp P o a (W.alloc (.cells cs.toArray e)) Kc Q else Kc (a.put o.dst undef) (W.alloc (.cells cs.toArray e)):=by
  obtain ⟨h0,rows,hlr,hR,hf⟩:=HO
  refine uJ (raw d.sz) base hw s x t e z bytes ho ht hinfo hz hs0 hb0 v rows cs cs (fun _=>True) (fun _=>False) hs hx (SY hp) (fun _ hk=>hk.elim) (fun _ _=>trivial) (OX hR) HB hbase (by rw [hlr];exact hl) ?_
  intro v1 w1 hr hb hg hat
  exact h v1 w1 (Gf h0 hlr hf (ys:=[p]) (news:=[cs]) rfl (fun j y c hy hc=>by
    rcases j with _|j
    · simp only [List.getElem?_cons_zero,Option.some.injEq] at hy hc
      rw [← hy,← hc];exact hp
    · simp at hy) qZ hfresh hr hg hat) hb hg hat
theorem PN (d:Kd α) {w0 W:World} (base e:Nat) (hgd:o.guard=none) {N':Tmp} (_hd:o.dst=some N') {xs:List α} {inner:List Value} {ok jC:Nat→Prop}
    (hrun:(execOp a.eval o).run P W=.ok (.value (.slice (some ⟨W.heap.size,0,none⟩) xs.length xs.length)) (W.alloc (.cells inner.toArray e)))
    (hrep:dY (FK d W jC) d.sz xs inner) (hok:∀ k,jC k→ok k) (hfresh:ok W.heap.size) (HB:Below base w0 W) (hbase:base≤W.heap.size) (hm:xs.length≤9223372036854775807)
    (h:∀ v1 w1,N d e w1 base ok v1 xs→Below base w0 w1→W.grownBy w1 none→(∃ b,v1.ownBlock=some b∧W.heap.size≤b)→wpList P ops Q rest (a.put o.dst v1) w1) :
    wpList P ops Q (o :: rest) a W:=by
  refine fM (raw d.sz) base e hgd _hd (xs:=chunks d.sz xs.length inner) (inner:=inner) (ok:=fun k=>k=W.heap.size) (jC:=fun _=>False) (by rw [jW];exact hrun) (En hrep (fun y c hk=>⟨d.mZ (uS hk),d.nC (uS hk)⟩)) (fun _ hk=>hk.elim) rfl HB hbase (by rw [jW];exact hm) ?_
  intro v1 w1 hr hb hg hat
  exact h v1 w1 (Tc hr hg hat (jW _ _ _) (fun j y c hy hc=>by rw [uZ hc];exact hrep.2 j y hy) hok hfresh) hb hg hat
end
end Kd
end Go.Proofs.YtipjpdiianopcaaW.aZ
end
namespace Go.Proofs.YtipjpdiianopcaaW.gW
open Go.RowKit Go.Proofs.YtipjpdiianopcaaW.aZ
namespace Kd
open Go.Proofs.YtipjpdiianopcaaW.aZ.Kd
end Kd
namespace Kd
open Go.Proofs.YtipjpdiianopcaaW.aZ.Kd
section
variable {α:Type} {d:Kd α} {e base g N:Nat} {ok:Nat→Prop} {W w1:World} {u v:Value} {xs:List α}
end
end Kd
theorem jY (k k':IntKind) (x y:Int):Builtin.max2 (.int k x) (.int k' y)=pure (.int k (if x<y then y else x)):=by simp only [Builtin.max2,gt_iff_lt]
theorem jZ (k k':IntKind) (x y:Int):Builtin.min2 (.int k x) (.int k' y)=pure (.int k (if y<x then y else x)):=by simp only [Builtin.min2]
theorem kY (ats:Array TypeId) (ty:TypeId) (a b:Value):Builtin.max_ ats ty #[a,b]=(Builtin.max2 a b >>= fun s=>pure s):=by simp only [Builtin.max_,List.foldlM_cons,List.foldlM_nil]
theorem kZ (ats:Array TypeId) (ty:TypeId) (a b:Value):Builtin.min_ ats ty #[a,b]=(Builtin.min2 a b >>= fun s=>pure s):=by simp only [Builtin.min_,List.foldlM_cons,List.foldlM_nil]
theorem jD (ats:Array TypeId) (ty:TypeId) (a b c:Value):Builtin.max_ ats ty #[a,b,c]=(Builtin.max2 a b >>= fun s=>Builtin.max2 s c >>= fun s=>pure s):=by simp only [Builtin.max_,List.foldlM_cons,List.foldlM_nil]
theorem jE (ats:Array TypeId) (ty:TypeId) (a b c:Value):Builtin.min_ ats ty #[a,b,c]=(Builtin.min2 a b >>= fun s=>Builtin.min2 s c >>= fun s=>pure s):=by simp only [Builtin.min_,List.foldlM_cons,List.foldlM_nil]
theorem kC (ats:Array TypeId) (ty:TypeId) (a b c d:Value):Builtin.max_ ats ty #[a,b,c,d]=(Builtin.max2 a b >>= fun s=>Builtin.max2 s c >>= fun s=>Builtin.max2 s d >>= fun s=>pure s):=by simp only [Builtin.max_,List.foldlM_cons,List.foldlM_nil]
theorem kD (ats:Array TypeId) (ty:TypeId) (a b c d:Value):Builtin.min_ ats ty #[a,b,c,d]=(Builtin.min2 a b >>= fun s=>Builtin.min2 s c >>= fun s=>Builtin.min2 s d >>= fun s=>pure s):=by simp only [Builtin.min_,List.foldlM_cons,List.foldlM_nil]
end Go.Proofs.YtipjpdiianopcaaW.gW
namespace Go.Proofs.YtipjpdiianopcaaW.aZ
open Go.RowKit
section
variable {P:Program} {ops:Array Oper} {rest:List Oper} {o:Oper} {a:Act} {Q:Exit→Act→World→Prop} {W:World}
theorem cZ {f:FuncId} {as:Array Operand} {ts:Array TypeId} (_ho:o.op=.call { callee:=.value (.func f),args:=as,argTypes:=ts }) (h:wpList P ops Q (o :: rest) a W):wpList P ops Q (o :: rest) a W:=h
theorem Cm {b:Builtin} {xs:Array Operand} {ts:Array TypeId} (_ho:o.op=.call { callee:=.builtin b,args:=xs,argTypes:=ts }) (h:wpList P ops Q (o :: rest) a W):wpList P ops Q (o :: rest) a W:=h
end
theorem zH (w:World) (n:Nat):w.drewN n=w.drewN n:=rfl
namespace Kd
section
variable {α:Type} {d:Kd α} {e base:Nat} {ok:Nat→Prop} {W w1:World} {v:Value} {xs:List α}
end
section
variable {α:Type} {d:Kd α} {e base g n cap:Nat} {ok qX jC:Nat→Prop} {W:World} {xs:List α} {i:Int} {c:List Value}
theorem RQ (hH:H d e W base ok (.slice (some ⟨g,0,none⟩) n cap) xs i qX c) (h0:0≤i) (h1:i<n) {seg:List Value} {j:Nat} (hj:j+seg.length≤d.sz)
    {x':α} (hM:d.M W base jC x' (c.take j ++ seg ++ c.drop (j+seg.length))) (qZ:∀ k,jC k→qX k) :
    S d e (W.setCells g (i.toNat*d.sz+j) seg) base ok (.slice (some ⟨g,0,none⟩) n cap) (xs.set i.toNat x')∧W.grownBy (W.setCells g (i.toNat*d.sz+j) seg) (some g) :=
  VE (OM:=fun _=>False) (SK hH (fun _ hk=>⟨hk,fun h=>h⟩)) h0 h1 hj hM (fun k hk=>.inl (qZ k hk)) (fun _ hk=>hk.elim)
end
section
variable {α:Type} {d:Kd α} {e base b b' g N:Nat} {ok ok1:Nat→Prop} {W W2 w1:World} {u v:Value} {xs ys:List α} {S:Nat→Prop}
end
end Kd
end Go.Proofs.YtipjpdiianopcaaW.aZ
namespace Go.Proofs.YtipjpdiianopcaaW.aZ
open Go.RowKit
namespace Kd
def V {α:Type} (d:Kd α) (_e:Nat) (W:World) (_base:Nat) (ok:Nat→Prop) (v:Value) (xs:List α):Prop:=∃ A c,v=.slice A xs.length c∧xs.length≤c∧F d W ok A xs.length xs
section
variable {α β:Type} {d:Kd α} {e base base' n m c g N' lo hi:Nat} {ok ok' S:Nat→Prop} {w W w1:World} {A:Option Addr} {ad:Addr} {u v v1:Value} {xs:List α}
theorem Bg (h:V d e W base ok v xs) (hF:∀ A,F d W ok A xs.length xs→F d w1 ok' A xs.length xs):V d e w1 base' ok' v xs:=by
  obtain ⟨A,c,hv,hl,hf⟩:=h
  exact ⟨A,c,hv,hl,hF A hf⟩
theorem DJ (hl:xs.length≤c) (hf:F d W ok A xs.length xs):V d e W base ok (.slice A xs.length c) xs:=⟨A,c,rfl,hl,hf⟩
theorem Pj (h:V d e W base ok (.slice A n c) xs):n=xs.length∧n≤c∧F d W ok A xs.length xs:=by
  obtain ⟨A',c',hv,hl,hf⟩:=h
  injection hv with ha hn hc
  subst ha;subst hc
  exact ⟨hn,by rw [hn];exact hl,hf⟩
theorem KJ (h:V d e W base ok (.slice A n c) xs):n=xs.length∧n≤c∧d.C W A xs.length xs:=⟨(Pj h).1,(Pj h).2.1,VF (Pj h).2.2⟩
theorem V_F (h:V d e W base ok (.slice A n c) xs):F d W ok A n xs:=by
  obtain ⟨hn,_,hf⟩:=Pj h
  rw [hn]
  exact hf
theorem Ve (d:Kd α) (e:Nat) (W:World) (base:Nat) (ok:Nat→Prop):V d e W base ok (.slice none 0 0) []:=⟨none,0,rfl,Nat.le_refl _,PO d W ok⟩
theorem Fv (h:V d e W base ok v xs) (hok:∀ k,ok k→ok' k):V d e W base ok' v xs:=Bg h (fun _ hf=>LQ hf hok)
theorem yN (h:V d e W base ok v xs) (hb:Below W.heap.size W w1):V d e w1 base ok v xs:=Bg h (fun _ hf=>yT hf hb)
theorem Pm (h:V d e W base ok v xs) (o:Obj):V d e (W.alloc o) base ok v xs:=Bg h (fun _ hf=>OT hf o)
theorem Td (h:V d e W base ok v xs):V d e W.drew base ok v xs:=Bg h (fun _ hf=>SQ hf)
theorem Pn (h:V d e W base ok v xs) (m:Nat):V d e (W.drewN m) base ok v xs:=Bg h (fun _ hf=>OU hf m)
theorem Po (h:V d e W base (fun k=>ok k∧some k≠u.ownBlock) v xs) (hg:W.grownBy w1 u.ownBlock) (hat:v1.ownBlock=u.ownBlock∨∃ b,v1.ownBlock=some b∧W.heap.size≤b):V d e w1 base (fun k=>ok k∧some k≠v1.ownBlock) v xs:=Bg h (fun _ hf=>OV hf hg hat)
theorem KO (h:V d e W base (fun k=>ok k∧some k≠v.ownBlock) u xs) (hg:W.grownBy w1 v.ownBlock) (hat:v1.ownBlock=v.ownBlock∨∃ b,v1.ownBlock=some b∧W.heap.size≤b):V d e w1 base (fun k=>ok k∧some k≠v1.ownBlock) u xs:=Po h hg hat
theorem KN (h:N d e W base (fun k=>ok k∧some k≠v.ownBlock) u xs) (hg:W.grownBy w1 v.ownBlock) (hat:v1.ownBlock=v.ownBlock∨∃ b,v1.ownBlock=some b∧W.heap.size≤b):N d e w1 base (fun k=>ok k∧some k≠v1.ownBlock) u xs:=Pg h hg hat
theorem Ae {l:List α} {cs:List Value} (h:FK (Kd.slice e d) W ok l cs):∃ A c,cs=[.slice A l.length c]∧l.length≤c∧F d W ok A l.length l:=by
  obtain ⟨A,c,rfl,hl,_⟩:=uS h
  refine ⟨A,c,rfl,hl,fun W' hW=>?_⟩
  obtain ⟨A',c',he,_,g'⟩:=h W' hW
  injection he with he _
  injection he with ha _ _
  rw [ha]
  exact g'
theorem DW {l:List α} (hl:l.length≤c) (hf:F d W ok A l.length l):FK (Kd.slice e d) W ok l [.slice A l.length c]:=fun W' hW=>⟨A,c,rfl,hl,hf W' hW⟩
theorem JH {M:Nat→Prop} (h:d.R e w1 W.heap.size ok v xs) (hle:w.heap.size≤W.heap.size) (hM:∀ k,w.heap.size≤k→M k):d.R e w1 W.heap.size (fun k=>M k∧ok k) v xs:=mD (pK h) (fun k hk=>⟨hM k (Nat.le_trans hle hk.2.1),hk.1⟩)
end
end Kd
end Go.Proofs.YtipjpdiianopcaaW.aZ
section
namespace Go.Proofs.YtipjpdiianopcaaW.aZ
theorem dY.one {α:Type} {R:α→List Value→Prop} {ps:List α} {cs:List Value} {p:α} {v:Value} (hp:R p [v]) (h:dY R 1 ps cs):dY R 1 (p :: ps) (v :: cs):=by
  refine ⟨by simp [h.1],fun j q hq=>?_⟩
  cases j with
  | zero =>
    simp only [List.getElem?_cons_zero,Option.some.injEq] at hq
    subst hq
    simpa using hp
  | succ j =>
    simp only [List.getElem?_cons_succ] at hq
    have h1:=h.2 j q hq
    simpa [Nat.mul_one] using h1
theorem dY.front {α:Type} {R:α→List Value→Prop} {size:Nat} {ps:List α} {cs c all:List Value} {p:α} (hp:R p c) (hc:c.length=size) (h:dY R size ps cs) (ha:c ++ cs=all):dY R size (p :: ps) all:=by
  subst ha
  refine ⟨by rw [List.length_append,hc,h.1,List.length_cons,Nat.succ_mul,Nat.add_comm],fun j q hq=>?_⟩
  cases j with
  | zero =>
    simp only [List.getElem?_cons_zero,Option.some.injEq] at hq
    subst hq
    rw [Nat.zero_mul,List.drop_zero,List.take_append_of_le_length (by omega),List.take_of_length_le (by omega)]
    exact hp
  | succ j =>
    simp only [List.getElem?_cons_succ] at hq
    have h1:=h.2 j q hq
    rw [Nat.succ_mul,List.drop_append,List.drop_of_length_le (by rw [hc];exact Nat.le_add_left _ _),List.nil_append,hc,Nat.add_sub_cancel]
    exact h1
theorem dY.c2 {α:Type} {R:α→List Value→Prop} {ps:List α} {cs:List Value} {p:α} {va vb:Value} (hp:R p [va,vb]) (h:dY R 2 ps cs):dY R 2 (p :: ps) (va :: vb :: cs):=dY.front hp rfl h rfl
theorem dY.c3 {α:Type} {R:α→List Value→Prop} {ps:List α} {cs:List Value} {p:α} {va vb vc:Value} (hp:R p [va,vb,vc]) (h:dY R 3 ps cs):dY R 3 (p :: ps) (va :: vb :: vc :: cs):=dY.front hp rfl h rfl
theorem dY.c4 {α:Type} {R:α→List Value→Prop} {ps:List α} {cs:List Value} {p:α} {va vb vc vd:Value} (hp:R p [va,vb,vc,vd]) (h:dY R 4 ps cs):dY R 4 (p :: ps) (va :: vb :: vc :: vd :: cs):=dY.front hp rfl h rfl
theorem dY.c5 {α:Type} {R:α→List Value→Prop} {ps:List α} {cs:List Value} {p:α} {va vb vc vd ve:Value} (hp:R p [va,vb,vc,vd,ve]) (h:dY R 5 ps cs):dY R 5 (p :: ps) (va :: vb :: vc :: vd :: ve :: cs):=dY.front hp rfl h rfl
theorem dY.c6 {α:Type} {R:α→List Value→Prop} {ps:List α} {cs:List Value} {p:α} {va vb vc vd ve vf:Value} (hp:R p [va,vb,vc,vd,ve,vf]) (h:dY R 6 ps cs):dY R 6 (p :: ps) (va :: vb :: vc :: vd :: ve :: vf :: cs):=dY.front hp rfl h rfl
theorem dY.c7 {α:Type} {R:α→List Value→Prop} {ps:List α} {cs:List Value} {p:α} {va vb vc vd ve vf vg:Value} (hp:R p [va,vb,vc,vd,ve,vf,vg]) (h:dY R 7 ps cs):dY R 7 (p :: ps) (va :: vb :: vc :: vd :: ve :: vf :: vg :: cs):=dY.front hp rfl h rfl
theorem dY.c8 {α:Type} {R:α→List Value→Prop} {ps:List α} {cs:List Value} {p:α} {va vb vc vd ve vf vg vh:Value} (hp:R p [va,vb,vc,vd,ve,vf,vg,vh]) (h:dY R 8 ps cs):dY R 8 (p :: ps) (va :: vb :: vc :: vd :: ve :: vf :: vg :: vh :: cs):=dY.front hp rfl h rfl
theorem dY.c9 {α:Type} {R:α→List Value→Prop} {ps:List α} {cs:List Value} {p:α} {va vb vc vd ve vf vg vh vi:Value} (hp:R p [va,vb,vc,vd,ve,vf,vg,vh,vi]) (h:dY R 9 ps cs):dY R 9 (p :: ps) (va :: vb :: vc :: vd :: ve :: vf :: vg :: vh :: vi :: cs):=dY.front hp rfl h rfl
theorem dY.c10 {α:Type} {R:α→List Value→Prop} {ps:List α} {cs:List Value} {p:α} {va vb vc vd ve vf vg vh vi vj:Value} (hp:R p [va,vb,vc,vd,ve,vf,vg,vh,vi,vj]) (h:dY R 10 ps cs):dY R 10 (p :: ps) (va :: vb :: vc :: vd :: ve :: vf :: vg :: vh :: vi :: vj :: cs):=dY.front hp rfl h rfl
end Go.Proofs.YtipjpdiianopcaaW.aZ
end
namespace Go.Proofs.YtipjpdiianopcaaW.aZ
open Go.ChangeShapes Go.WideShapes
end Go.Proofs.YtipjpdiianopcaaW.aZ
namespace Go.Proofs.Ytipjpdiianopcaa
open Go.RowKit Go.Proofs.YtipjpdiianopcaaW.aZ Go.Proofs.YtipjpdiianopcaaW.dQ Go.Proofs.YtipjpdiianopcaaW.gW
theorem aU {p q:Prop} (a:p) (h:p→q:=by intro h;(with_reducible repeat (first|refine oK ?_ _|refine iQ ?_|refine lS ?_ _));exact h):q:=h a
theorem xP {p q:Prop} (a:p) (h:p→q:=by intro h;(with_reducible repeat (first|apply Kd.Pq|apply Kd.Pv|apply Kd.KF));exact h):q:=h a
theorem fG {p q:Prop} (a:p) (h:p→q:=by intro h;(with_reducible repeat (first|apply Kd.OY|apply Kd.OZ|apply Kd.uX));exact h):q:=h a
theorem DK {p q:Prop} (a:p) (h:p→q:=by intro h;(with_reducible repeat (first|apply Kd.Pm|apply Kd.Pn|apply Kd.Td));exact h):q:=h a
theorem aDN {p q:Prop} (a:p) (h:p→q:=by intro h;(with_reducible repeat (first|apply Kd.YV|apply Kd.YW|apply Kd.aCF));exact h):q:=h a
theorem aDO {p q:Prop} (a:p) (h:p→q:=by intro h;(with_reducible repeat (first|apply Kd.gZ|apply Kd.iC|apply Kd.iU));exact h):q:=h a
theorem aDP {p q:Prop} (a:p) (h:p→q:=by intro h;(with_reducible repeat (first|apply Kd.yO|apply Kd.CB|apply Kd.Kz));exact h):q:=h a
theorem fU {p:Prop} (h:p:=by (try simp only [List.map_toArray,List.map_cons,List.map_nil]);first|done|rfl|(simp only [List.length_drop,List.length_take];rfl)):p:=h
theorem dX {p:Prop} (h:p:=by first|(with_reducible assumption)|assumption):p:=h
theorem fB {p:Prop} (h:p:=by first|rfl|(simp;done)|(simp [*];done)):p:=h
theorem aV {p:Prop} (h:p:=by kernel_rfl):p:=h
theorem aDQ {p:Prop} (h:p:=by first|rfl|(simp [aX,aY] <;> rfl)|(simp [*,aX,aY] <;> rfl)):p:=h
theorem aDR {p:Prop} (h:p:=by repeat (first|exact dH.refl _|apply dH.step)):p:=h
theorem aEt {p:Prop} (h:p:=by first|omega|exact Nat.le_refl _):p:=h
theorem dO {p q r:Prop} (b:q) (a:p:=by rfl):(p∧q)∨r:=Or.inl ⟨a,b⟩
theorem dD:(∀ (l:List Value) (i:Nat) (a:Value),l.toArray.setIfInBounds i a=(l.set i a).toArray)∧(∀ (x a:Value) (l:List Value),(x :: l).set 0 a=a :: l)∧(∀ (x a:Value) (l:List Value) (i:Nat),(x :: l).set (i+1) a=x :: l.set i a)∧(∀ n:Int,IntKind.i64.wrap n=Go.RowKit.wrap64 n)∧(∀ n:Int,IntKind.i32.wrap n=Go.RowKit.wrap32 n):=⟨fun _ _ _=>List.setIfInBounds_toArray ..,fun _ _ _=>List.set_cons_zero ..,fun _ _ _ _=>List.set_cons_succ ..,lK,lM⟩
theorem bM {p q:Prop} (b:p) (h:p→q:=by intro b;repeat (first|(with_reducible first|exact b|apply iG|apply gB|apply fZ)|exact b)):q:=h b
theorem dA {p q s0:Prop} (b:p) (x0:s0) (h:p→s0→q:=by intro b x0;repeat (first|(with_reducible first|exact b|apply iG|apply gB|apply fZ|refine lT ?_ x0)|exact b)):q:=h b x0
theorem fJ {p q s0 s1:Prop} (b:p) (x0:s0) (x1:s1) (h:p→s0→s1→q:=by intro b x0 x1;repeat (first|(with_reducible first|exact b|apply iG|apply gB|apply fZ|refine lT ?_ x0|refine lT ?_ x1)|exact b)):q:=h b x0 x1
theorem CO {p q s0 s1 s2:Prop} (b:p) (x0:s0) (x1:s1) (x2:s2) (h:p→s0→s1→s2→q:=by intro b x0 x1 x2;repeat (first|(with_reducible first|exact b|apply iG|apply gB|apply fZ|refine lT ?_ x0|refine lT ?_ x1|refine lT ?_ x2)|exact b)):q:=h b x0 x1 x2
theorem qP {p q s0 s1 s2 s3:Prop} (b:p) (x0:s0) (x1:s1) (x2:s2) (x3:s3) (h:p→s0→s1→s2→s3→q:=by intro b x0 x1 x2 x3;repeat (first|(with_reducible first|exact b|apply iG|apply gB|apply fZ|refine lT ?_ x0|refine lT ?_ x1|refine lT ?_ x2|refine lT ?_ x3)|exact b)):q:=h b x0 x1 x2 x3
theorem Aq:type_of% @List.setIfInBounds_toArray:=@List.setIfInBounds_toArray
theorem Ar:type_of% @List.set_cons_zero:=@List.set_cons_zero
theorem Au:type_of% @List.set_cons_succ:=@List.set_cons_succ
theorem dW:type_of% @of_decide_eq_true:=@of_decide_eq_true
theorem dJ:type_of% @World.block_lt_of_cell?:=@World.block_lt_of_cell?
theorem eH:type_of% @decide_eq_true:=@decide_eq_true
theorem Vo:type_of% @beq_eq_false_iff_ne:=@beq_eq_false_iff_ne
theorem Vm:type_of% @bne_eq_false_iff_eq:=@bne_eq_false_iff_eq
theorem aDS:type_of% @Option.bind_eq_some_iff:=@Option.bind_eq_some_iff
theorem iE:type_of% @decide_eq_false:=@decide_eq_false
theorem KU:type_of% @List.length_take:=@List.length_take
theorem aDT:type_of% @List.length_drop:=@List.length_drop
theorem Eb:type_of% @List.getElem?_eq_getElem:=@List.getElem?_eq_getElem
theorem aDU:type_of% @World.drewN_drewN:=@World.drewN_drewN
end Go.Proofs.Ytipjpdiianopcaa
