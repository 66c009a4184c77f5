/- Words and contracts for the laws of encode. -/
import Derived.OrdersHeld
import Derived.Deep.RegionHeld3
import Derived.Laws.BitsLemmas
import Derived.RowKit
import Derived.Test.YtipjpdiianopcaaqWWords
import Derived.Laws.StructEq
import Derived.SizedLaws
import Derived.ChangeSlices
set_option linter.unusedVariables false
set_option linter.unusedSimpArgs false
namespace Go.Proofs.YtipjpdiianopcaaW.fO
section
variable {P:Program} {ops:Array Oper} {Q:Exit→Act→World→Prop} {md:Region.Mode} {S:World→Prop} {ds:List Nat}
def Region.Ir (md:Region.Mode) (ops:Array Oper) (i:Nat):Nat→Nat→Bool
  | 0,_=>false
  | fuel+1,d=>match ops[d]? with
    | some o=>o.after.any fun e=>Region.binds md e&&(e.on==i || Region.Ir md ops i fuel e.on)
    | none=>false
def Region.TL (md:Region.Mode) (ops:Array Oper) (listed:Array Bool):Bool :=
  (List.range ops.size).all fun j=>!listed.getD j false || match ops[j]? with
    | some o=>o.after.all fun e=>!Region.binds md e || listed.getD e.on false
    | none=>true
def Region.lastB (md:Region.Mode) (ops:Array Oper) (listed:Array Bool) (ds:List Nat) (i:Nat):Bool :=
  ds.all fun d=>listed.getD d true || Region.Ir md ops i ops.size d
def AX (md:Region.Mode) (ops:Array Oper) (listed:Array Bool):Prop :=
  ∀ j oj,ops[j]?=some oj→listed.getD j false=true→∀ e ∈ oj.after,Region.binds md e=true→listed.getD e.on false=true
theorem Region.aBz {listed:Array Bool} (h:Region.TL md ops listed=true):AX md ops listed:=by
  intro j oj hj hl e he hb
  have hlt:j<ops.size:=(Array.getElem?_eq_some_iff.1 hj).1
  have h1:=List.all_eq_true.1 h j (List.mem_range.2 hlt)
  simp only [hl,hj,Bool.not_true,Bool.false_or] at h1
  have h2:=Array.all_eq_true_iff_forall_mem.1 h1 e he
  simpa [hb] using h2
theorem AX.set {listed:Array Bool} {i:Nat} (h:AX md ops listed) (hi:i ∈ Region.ready md ops listed):AX md ops (listed.setIfInBounds i true):=by
  obtain ⟨_,oi,hoi,hall⟩:=mem_ready.1 hi
  intro j oj hj hl e he hb
  by_cases hij:i=j
  · subst hij
    have:oj=oi:=Option.some.inj (hj.symm.trans hoi)
    subst this
    exact getD_set_true (hall e he hb)
  · rw [getD_set_ne false hij] at hl
    exact getD_set_true (h j oj hj hl e he hb)
theorem Region.TM {listed:Array Bool} {i:Nat} (hc:AX md ops listed):∀ (fuel d:Nat),Region.Ir md ops i fuel d=true→listed.getD d false=true→listed.getD i false=true
  | 0,_,h,_=>by simp [Region.Ir] at h
  | fuel+1,d,h,hl=>by
    unfold Region.Ir at h
    cases ho:ops[d]? with
    | none=>rw [ho] at h;simp at h
    | some o =>
      rw [ho] at h
      obtain ⟨e,he,h1⟩:=Array.any_eq_true'.1 h
      simp only [Bool.and_eq_true,Bool.or_eq_true,beq_iff_eq] at h1
      have hle:=hc d o ho hl e he h1.1
      rcases h1.2 with h2|h2
      · rw [← h2];exact hle
      · exact Region.TM hc fuel e.on h2 hle
theorem Region.VV {listed:Array Bool} {i d fuel:Nat} (hc:AX md ops listed) (hr:Region.Ir md ops i fuel d=true) (hun:listed.getD i true=false):d ∉ Region.ready md ops listed:=by
  intro hd
  obtain ⟨_,o,ho,hall⟩:=mem_ready.1 hd
  have hi:listed.getD i false=true:=by
    cases fuel with
    | zero=>simp [Region.Ir] at hr
    | succ n =>
      unfold Region.Ir at hr
      rw [ho] at hr
      obtain ⟨e,he,h1⟩:=Array.any_eq_true'.1 hr
      simp only [Bool.and_eq_true,Bool.or_eq_true,beq_iff_eq] at h1
      have hle:=hall e he h1.1
      rcases h1.2 with h2|h2
      · rw [← h2];exact hle
      · exact Region.TM hc n e.on h2 hle
  rcases Nat.lt_or_ge i listed.size with h'|h'
  · simp [h'] at hun hi
    rw [hun] at hi
    cases hi
  · simp [Array.getElem?_eq_none h'] at hun
def jR (P:Program) (md:Region.Mode) (ops:Array Oper) (Q:Exit→Act→World→Prop) (S:World→Prop) (ds:List Nat):Nat→Array Bool→Act→World→Prop
  | 0,listed,a,w=>Region.ready md ops listed=[]∧Q .normal a w
  | fuel+1,listed,a,w =>
    (Region.ready md ops listed=[]→Q .normal a w) ∧
    ∀ i ∈ Region.ready md ops listed,wpOp P ops Q i (fun a' w'=>(i ∉ ds→S w→S w')∧jR P md ops Q S ds fuel (listed.setIfInBounds i true) a' w') a w
theorem GY:∀ (fuel:Nat) (listed:Array Bool) (a:Act) (w:World),jR P md ops Q S ds fuel listed a w→wpAny P md ops Q fuel listed a w
  | 0,_,_,_,h=>h
  | fuel+1,_,_,_,h=>⟨h.1,fun i hi=>wpOp_mono (fun a' w' h'=>GY fuel _ a' w' h'.2) (h.2 i hi)⟩
theorem VW {i:Nat} {oi:Oper} {v:Value} (hi:ops[i]?=some oi) (hsel:∀ (j:Nat) (o:Oper) cs b,ops[j]?=some o→o.op≠.select cs b)
    (hQ:∀ c a w,Q (.panic c) (a.put oi.dst v) w→Q (.panic c) a w) (n:Nat) :
    ∀ (fuel:Nat) (listed:Array Bool) (a:Act) (w:World),
      (∀ j oj,ops[j]?=some oj→j≠i→listed.getD j true=false→(∀ e ∈ oj.after,Region.binds md e=true→e.on≠i)→oi.apart ops oj=true) →
      AX md ops listed→(∀ d ∈ ds,listed.getD d true=false→Region.Ir md ops i n d=true) →
      i ∈ Region.ready md ops listed→YieldsIf P ops S oi v a→S w →
      jR P md ops Q S ds fuel (listed.setIfInBounds i true) (a.put oi.dst v) w→jR P md ops Q S ds (fuel+1) listed a w:=by
  intro fuel
  induction fuel with
  | zero =>
    intro listed a w _ _ _ hr hy hS H
    refine ⟨fun h=>(by rw [h] at hr;cases hr),fun j hj=>?_⟩
    by_cases hji:j=i
    · subst hji;exact hy.wpOp hi hS ⟨fun _ h=>h,H⟩
    · have:=ready_mono hj hji
      rw [H.1] at this
      cases this
  | succ fuel ih =>
    intro listed a w hfree hc hd hr hy hS H
    refine ⟨fun h=>(by rw [h] at hr;cases hr),fun j hj=>?_⟩
    by_cases hji:j=i
    · subst hji;exact hy.wpOp hi hS ⟨fun _ h=>h,H⟩
    · have h1:=H.2 j (ready_mono hj hji)
      obtain ⟨hjun,oj,hoj,hall⟩:=mem_ready.1 hj
      have aIy:=(mem_ready.1 hr).1
      have hnot:∀ e ∈ oj.after,Region.binds md e=true→e.on≠i:=fun e he hb heq=>by
        have h1:=hall e he hb
        rw [heq] at h1
        rcases Nat.lt_or_ge i listed.size with h'|h'
        · simp [h'] at aIy h1;rw [aIy] at h1;cases h1
        · simp [Array.getElem?_eq_none h'] at h1
      have hjd:j ∉ ds:=fun hm=>Region.VV hc (hd j hm hjun) aIy hj
      have h2:=wpOp_putIf hoj (hfree j oj hoj hji hjun hnot) (fun cs b=>hsel i oi cs b hi) (fun cs b=>hsel j oj cs b hoj) hQ hy h1
      have hfree':∀ k ok,ops[k]?=some ok→k≠i→(listed.setIfInBounds j true).getD k true=false →
          (∀ e ∈ ok.after,Region.binds md e=true→e.on≠i)→oi.apart ops ok=true:=fun k ok hk hki hun hno=>by
        refine hfree k ok hk hki ?_ hno
        by_cases hjk:j=k
        · subst hjk;exact hjun
        · rw [getD_set_ne true hjk] at hun;exact hun
      have hd':∀ d ∈ ds,(listed.setIfInBounds j true).getD d true=false→Region.Ir md ops i n d=true:=fun d hm hun=>by
        refine hd d hm ?_
        by_cases hjk:j=d
        · subst hjk;exact hjun
        · rw [getD_set_ne true hjk] at hun;exact hun
      refine wpOp_mono (fun a' w' h3=>⟨h3.2.1,ih (listed.setIfInBounds j true) a' w' hfree' (hc.set hj) hd' (ready_mono hr (Ne.symm hji)) h3.1 (h3.2.1 hjd hS) ?_⟩) h2
      rw [Array.setIfInBounds_comm _ _ hji]
      exact h3.2.2
theorem ZI {i:Nat} {oi:Oper} {v:Value} (hi:ops[i]?=some oi) (hsel:∀ (j:Nat) (o:Oper) cs b,ops[j]?=some o→o.op≠.select cs b)
    (hQ:∀ c a w,Q (.panic c) (a.put oi.dst v) w→Q (.panic c) a w) :
    ∀ (fuel:Nat) (listed:Array Bool) (a:Act) (w:World),
      (∀ j oj,ops[j]?=some oj→j≠i→listed.getD j true=false→(∀ e ∈ oj.after,Region.binds md e=true→e.on≠i)→oi.apart ops oj=true) →
      i ∈ Region.ready md ops listed→Yields P ops oi v a →
      jR P md ops Q S ds fuel (listed.setIfInBounds i true) (a.put oi.dst v) w→jR P md ops Q S ds (fuel+1) listed a w:=by
  intro fuel
  induction fuel with
  | zero =>
    intro listed a w _ hr hy H
    refine ⟨fun h=>(by rw [h] at hr;cases hr),fun j hj=>?_⟩
    by_cases hji:j=i
    · subst hji;exact (hy.yieldsIf (S:=fun _=>True)).wpOp hi trivial ⟨fun _ h=>h,H⟩
    · have:=ready_mono hj hji
      rw [H.1] at this
      cases this
  | succ fuel ih =>
    intro listed a w hfree hr hy H
    refine ⟨fun h=>(by rw [h] at hr;cases hr),fun j hj=>?_⟩
    by_cases hji:j=i
    · subst hji;exact (hy.yieldsIf (S:=fun _=>True)).wpOp hi trivial ⟨fun _ h=>h,H⟩
    · have h1:=H.2 j (ready_mono hj hji)
      obtain ⟨hjun,oj,hoj,hall⟩:=mem_ready.1 hj
      have aIy:=(mem_ready.1 hr).1
      have hnot:∀ e ∈ oj.after,Region.binds md e=true→e.on≠i:=fun e he hb heq=>by
        have h1:=hall e he hb
        rw [heq] at h1
        rcases Nat.lt_or_ge i listed.size with h'|h'
        · simp [h'] at aIy h1;rw [aIy] at h1;cases h1
        · simp [Array.getElem?_eq_none h'] at h1
      have h2:=wpOp_put hoj (hfree j oj hoj hji hjun hnot) (fun cs b=>hsel i oi cs b hi) (fun cs b=>hsel j oj cs b hoj) hQ hy h1
      have hfree':∀ k ok,ops[k]?=some ok→k≠i→(listed.setIfInBounds j true).getD k true=false →
          (∀ e ∈ ok.after,Region.binds md e=true→e.on≠i)→oi.apart ops ok=true:=fun k ok hk hki hun hno=>by
        refine hfree k ok hk hki ?_ hno
        by_cases hjk:j=k
        · subst hjk;exact hjun
        · rw [getD_set_ne true hjk] at hun;exact hun
      refine wpOp_mono (fun a' w' h3=>⟨h3.2.1,ih (listed.setIfInBounds j true) a' w' hfree' (ready_mono hr (Ne.symm hji)) h3.1 ?_⟩) h2
      rw [Array.setIfInBounds_comm _ _ hji]
      exact h3.2.2
theorem YU {i:Nat} {oi:Oper} {v:Value} {fuel:Nat} {listed:Array Bool} {a:Act} {w:World} (hi:ops[i]?=some oi)
    (hs:Region.noSelect ops=true) (hf:Region.free md ops listed i=true) (hr:(Region.ready md ops listed).contains i=true)
    (hc:Region.TL md ops listed=true) (hl:Region.lastB md ops listed ds i=true)
    (hQ:∀ c a w,Q (.panic c) (a.put oi.dst v) w→Q (.panic c) a w) (hy:YieldsIf P ops S oi v a) (hS:S w)
    (h:jR P md ops Q S ds fuel (listed.setIfInBounds i true) (a.put oi.dst v) w):jR P md ops Q S ds (fuel+1) listed a w :=
  VW hi (Region.noSelect_spec hs) hQ ops.size fuel listed a w (Region.free_spec hi hf) (Region.aBz hc)
    (fun d hm hun=>by have:=List.all_eq_true.1 hl d hm;rw [hun] at this;simpa using this) (by simpa using hr) hy hS h
theorem ZJ {rs:List Nat} {fuel:Nat} {listed:Array Bool} {a:Act} {w:World} (hr:Region.ready md ops listed=rs) (hne:rs≠[])
    (h:∀ i ∈ rs,wpOp P ops Q i (fun a' w'=>(i ∉ ds→S w→S w')∧jR P md ops Q S ds fuel (listed.setIfInBounds i true) a' w') a w):jR P md ops Q S ds (fuel+1) listed a w :=
  ⟨fun h0=>absurd (hr ▸ h0) hne,hr ▸ h⟩
theorem YV {listed:Array Bool} {a:Act} {w:World} (hr:Region.ready md ops listed=[]) (h:Q .normal a w) :
    ∀ fuel,jR P md ops Q S ds fuel listed a w
  | 0=>⟨hr,h⟩
  | _+1=>⟨fun _=>h,by rw [hr];simp⟩
theorem YW {id:Nat} {a:Act} {w:World} (hm:P.follows .mixedOrders=true)
    (h:jR P .any ops Q S ds ops.size (Array.replicate ops.size false) a { w with drawn:=w.drawn+1 }):(Code.region id ops true).wp P Q a w :=
  wp_region_any hm (GY _ _ _ _ h)
end
section
variable {P:Program} {ops:Array Oper} {Q:Exit→Act→World→Prop} {md:Region.Mode} {S:World→Prop} {ds:List Nat}
def uT (P:Program) (md:Region.Mode) (ops:Array Oper) (Q:Exit→Act→World→Prop) (S:World→Prop) (ds:List Nat) (fuel:Nat) (listed:Array Bool) (a:Act) (w:World) (rs:List Nat):Prop :=
  ∀ i ∈ rs,wpOp P ops Q i (fun a' w'=>(i ∉ ds→S w→S w')∧jR P md ops Q S ds fuel (listed.setIfInBounds i true) a' w') a w
theorem uT.nil {fuel:Nat} {listed:Array Bool} {a:Act} {w:World}:uT P md ops Q S ds fuel listed a w []:=fun _ h=>by cases h
theorem uT.cons {fuel:Nat} {listed:Array Bool} {a:Act} {w:World} {i:Nat} {o:Oper} {rs:List Nat} (ho:ops[i]?=some o) (hd:i ∉ ds)
    (h:∀ K':Act→World→Prop,Shut (∀ a w,S w→(S w→jR P md ops Q S ds fuel (listed.setIfInBounds i true) a w)→K' a w)→if Region.wanted o (yielded ops a.tmps)=true then Oper.wp P o a w K' Q else K' (a.put o.dst undef) w)
    (hs:uT P md ops Q S ds fuel listed a w rs):uT P md ops Q S ds fuel listed a w (i :: rs):=fun j hj=>by
  rcases List.mem_cons.1 hj with rfl|hj
  · exact wpOp_step ho (fun K' hK=>h K' (fun a w hS hW=>hK a w ⟨fun _ _=>hS,hW hS⟩))
  · exact hs j hj
theorem uT.aIz {fuel:Nat} {listed:Array Bool} {a:Act} {w:World} {i:Nat} {o:Oper} {rs:List Nat} (ho:ops[i]?=some o) (hd:i ∈ ds)
    (h:∀ K':Act→World→Prop,Shut (∀ a w,jR P md ops Q S ds fuel (listed.setIfInBounds i true) a w→K' a w)→if Region.wanted o (yielded ops a.tmps)=true then Oper.wp P o a w K' Q else K' (a.put o.dst undef) w)
    (hs:uT P md ops Q S ds fuel listed a w rs):uT P md ops Q S ds fuel listed a w (i :: rs):=fun j hj=>by
  rcases List.mem_cons.1 hj with rfl|hj
  · exact wpOp_step ho (fun K' hK=>h K' (fun a w hW=>hK a w ⟨fun hn=>absurd hd hn,hW⟩))
  · exact hs j hj
theorem Iu {rs:List Nat} {fuel:Nat} {listed:Array Bool} {a:Act} {w:World} (hr:Region.ready md ops listed=rs) (hne:rs≠[])
    (h:uT P md ops Q S ds fuel listed a w rs):jR P md ops Q S ds (fuel+1) listed a w:=ZJ hr hne h
theorem qZ {id n:Nat} {a:Act} {w:World} (l:Array Bool) (hm:P.follows .mixedOrders=true) (hn:ops.size=n) (hl:Array.replicate n false=l) (hS:S w.drew)
    (h:S w.drew→jR P .any ops Q S ds n l a w.drew):(Code.region id ops true).wp P Q a w:=by
  subst hn
  subst hl
  exact YW hm (h hS)
def takeB (md:Region.Mode) (ops:Array Oper) (ds:List Nat) (l l':Array Bool) (i:Nat):Bool :=
  Region.noSelect ops&&Region.free md ops l i&&(Region.ready md ops l).contains i&&Region.TL md ops l&&Region.lastB md ops l ds i&&(l.setIfInBounds i true==l')
theorem iQ {i:Nat} {N:Option Tmp} {oi:Oper} {v:Value} {fuel:Nat} {l:Array Bool} {a:Act} {w:World} (l':Array Bool) (hi:ops[i]?=some oi) (hN:oi.dst=N) (hc:takeB md ops ds l l' i=true)
    (hQ:∀ c a w,Q (.panic c) (a.put oi.dst v) w→Q (.panic c) a w) (hy:YieldsIf P ops S oi v a) (hS:S w) {a':Act} (ha:a.put N v=a')
    (h:jR P md ops Q S ds fuel l' a' w):jR P md ops Q S ds (fuel+1) l a w:=by
  subst ha
  subst hN
  simp only [takeB,Bool.and_eq_true,beq_iff_eq] at hc
  obtain ⟨⟨⟨⟨⟨h1,h2⟩,h3⟩,h4⟩,h5⟩,h6⟩:=hc
  subst h6
  exact YU hi h1 h2 h3 h4 h5 hQ hy hS h
def aOm (md:Region.Mode) (ops:Array Oper) (l l':Array Bool) (i:Nat):Bool :=
  Region.noSelect ops&&Region.free md ops l i&&(Region.ready md ops l).contains i&&(l.setIfInBounds i true==l')
theorem bQ {i:Nat} {N:Option Tmp} {oi:Oper} {v:Value} {fuel:Nat} {l:Array Bool} {a:Act} {w:World} (l':Array Bool) (hi:ops[i]?=some oi) (hN:oi.dst=N) (hc:aOm md ops l l' i=true)
    (hQ:∀ c a w,Q (.panic c) (a.put oi.dst v) w→Q (.panic c) a w) (hy:Yields P ops oi v a) {a':Act} (ha:a.put N v=a')
    (h:jR P md ops Q S ds fuel l' a' w):jR P md ops Q S ds (fuel+1) l a w:=by
  subst ha
  subst hN
  simp only [aOm,Bool.and_eq_true,beq_iff_eq] at hc
  obtain ⟨⟨⟨h1,h2⟩,h3⟩,h6⟩:=hc
  subst h6
  exact ZI hi (Region.noSelect_spec h1) hQ fuel l a w (Region.free_spec hi h2) (by simpa using h3) hy h
def UX (md:Region.Mode) (ops:Array Oper) (l l':Array Bool) (i:Nat):Bool:=(Region.ready md ops l==[i])&&(l.setIfInBounds i true==l')
theorem wL {i:Nat} {N:Option Tmp} {oi:Oper} {fuel:Nat} {l:Array Bool} {a:Act} {w:World} (l':Array Bool) (hi:ops[i]?=some oi) (hN:oi.dst=N) (hc:UX md ops l l' i=true) (hd:i ∉ ds)
    (h:∀ K:Act→World→Prop,Shut (∀ a' w',S w'→(S w'→jR P md ops Q S ds fuel l' a' w')→K a' w')→if Region.wanted oi (yielded ops a.tmps)=true then Oper.wp P oi a w K Q else K (a.put N undef) w) :
    jR P md ops Q S ds (fuel+1) l a w:=by
  subst hN
  simp only [UX,Bool.and_eq_true,beq_iff_eq] at hc
  obtain ⟨h1,h2⟩:=hc
  subst h2
  exact Iu h1 (by simp) (uT.cons hi hd (fun K hK=>h K hK) uT.nil)
theorem NP {i:Nat} {N:Option Tmp} {oi:Oper} {fuel:Nat} {l:Array Bool} {a:Act} {w:World} (l':Array Bool) (hi:ops[i]?=some oi) (hN:oi.dst=N) (hc:UX md ops l l' i=true) (hd:i ∈ ds)
    (h:∀ K:Act→World→Prop,Shut (∀ a' w',jR P md ops Q S ds fuel l' a' w'→K a' w')→if Region.wanted oi (yielded ops a.tmps)=true then Oper.wp P oi a w K Q else K (a.put N undef) w) :
    jR P md ops Q S ds (fuel+1) l a w:=by
  subst hN
  simp only [UX,Bool.and_eq_true,beq_iff_eq] at hc
  obtain ⟨h1,h2⟩:=hc
  subst h2
  exact Iu h1 (by simp) (uT.aIz hi hd (fun K hK=>h K hK) uT.nil)
theorem sG {l:Array Bool} {a:Act} {w:World} {n:Nat} (hr:(Region.ready md ops l==[])=true) (h:Q .normal a w):jR P md ops Q S ds n l a w:=YV (by simpa using hr) h n
theorem bHj {i j:Nat} {Ni Nj:Option Tmp} {oi oj:Oper} {fuel:Nat} {l:Array Bool} {a:Act} {w:World} (li lj:Array Bool) (hi:ops[i]?=some oi) (hj:ops[j]?=some oj) (hNi:oi.dst=Ni) (hNj:oj.dst=Nj)
    (hc:(Region.ready md ops l==[i,j]&&l.setIfInBounds i true==li&&l.setIfInBounds j true==lj)=true) (hdi:i ∉ ds) (hdj:j ∉ ds)
    (h1:∀ K:Act→World→Prop,Shut (∀ a' w',S w'→(S w'→jR P md ops Q S ds fuel li a' w')→K a' w')→if Region.wanted oi (yielded ops a.tmps)=true then Oper.wp P oi a w K Q else K (a.put Ni undef) w)
    (h2:∀ K:Act→World→Prop,Shut (∀ a' w',S w'→(S w'→jR P md ops Q S ds fuel lj a' w')→K a' w')→if Region.wanted oj (yielded ops a.tmps)=true then Oper.wp P oj a w K Q else K (a.put Nj undef) w) :
    jR P md ops Q S ds (fuel+1) l a w:=by
  subst hNi
  subst hNj
  simp only [Bool.and_eq_true,beq_iff_eq] at hc
  obtain ⟨⟨h3,h4⟩,h5⟩:=hc
  subst h4
  subst h5
  exact Iu h3 (by simp) (uT.cons hi hdi (fun K hK=>h1 K hK) (uT.cons hj hdj (fun K hK=>h2 K hK) uT.nil))
def UO:Act→List (Tmp × Value)→Act
  | a,[]=>a
  | a,(n,v) :: r=>UO (a.put (some n) v) r
theorem aY4 {σ:Type} {fuel:Nat} {l:Array Bool} {a:Act} {w:World} (fuel':Nat) (l':Array Bool) (ns:σ→List (Tmp × Value)) (F:σ→World→Prop)
    (hcont:∀ s w',F s w'→jR P md ops Q S ds fuel' l' (UO a (ns s)) w')
    (h:(∀ s w',F s w'→jR P md ops Q S ds fuel' l' (UO a (ns s)) w')→jR P md ops Q S ds fuel l a w):jR P md ops Q S ds fuel l a w:=h hcont
theorem sJ {fuel:Nat} {l:Array Bool} {a a':Act} {w:World} (ha:a=a') (h:jR P md ops Q S ds fuel l a' w):jR P md ops Q S ds fuel l a w:=by
  subst ha
  exact h
theorem call_ {oi:Oper} {N:Option Tmp} {a:Act} {w:World} {K:Act→World→Prop} (f:FuncId) (args:Array Value) (hw:Region.wanted oi (yielded ops a.tmps)=true) (hN:oi.dst=N) (hrun:(execOp a.eval oi).run P w=.ok (.enter f args) w)
    (h:Calls P f args w fun e w'=>∃ v,e=.returned v∧K (a.put N v) w'):if Region.wanted oi (yielded ops a.tmps)=true then Oper.wp P oi a w K Q else K (a.put N undef) w:=by
  rw [if_pos hw]
  subst hN
  unfold Oper.wp
  rw [hrun,Oper.upon_enter]
  refine h.mono fun e w'' hh=>?_
  obtain ⟨v,rfl,hk⟩:=hh
  exact hk
theorem Xt {f : FuncId} {fn : Func} (hf : P.funcs[f]? = some fn) (hname : (fn.name == "runtime.NumGoroutine") = false) (hb : fn.body.isSome = true) (args : Array Value) (w : World) : (callFunc f args).run P w = .ok (.enter f args) w := by
  have h1 : fn.name ≠ "runtime.NumGoroutine" := by simpa using hname
  obtain ⟨c,hc⟩:=Option.isSome_iff_exists.1 hb
  simp [callFunc,hf,h1,hc]
theorem xR {oi : Oper} {N : Option Tmp} {a : Act} {w : World} {K : Act → World → Prop} {f : FuncId} {fn : Func} {as : Array Operand} {ts : Array TypeId} (hf : P.funcs[f]? = some fn) (hname : (fn.name == "runtime.NumGoroutine") = false) (hb : fn.body.isSome = true) (args : Array Value)
    (hw:Region.wanted oi (yielded ops a.tmps)=true) (hN:oi.dst=N) (hop:oi.op=.call { callee:=.value (.func f),args:=as,argTypes:=ts }) (hargs:as.map a.eval=args)
    (h:Calls P f args w fun e w'=>∃ v,e=.returned v∧K (a.put N v) w'):if Region.wanted oi (yielded ops a.tmps)=true then Oper.wp P oi a w K Q else K (a.put N undef) w:=by
  refine call_ f args hw hN ?_ h
  have he:=Xt hf hname hb args w
  unfold execOp
  simp [hop,resolve,Deferred.ofValue,invoke,Act.eval,hargs,he]
theorem gI {rest : List Oper} {oi : Oper} {a : Act} {w : World} (N : Option Tmp) (hd : oi.dst = N) (hg : oi.guard = none) {f : FuncId} {fn : Func} {as : Array Operand} {ts : Array TypeId} (hf : P.funcs[f]? = some fn) (hname : (fn.name == "runtime.NumGoroutine") = false) (hb : fn.body.isSome = true) (args : Array Value)
    (hop:oi.op=.call { callee:=.value (.func f),args:=as,argTypes:=ts }) (hargs:as.map a.eval=args)
    (h:Calls P f args w fun e w'=>∃ v,e=.returned v∧wpList P ops Q rest (a.put N v) w'):wpList P ops Q (oi :: rest) a w:=by
  refine wpList_plain hg fun K hK=>?_
  have he:=Xt hf hname hb args w
  have hrun:(execOp a.eval oi).run P w=.ok (.enter f args) w:=by
    unfold execOp
    simp [hop,resolve,Deferred.ofValue,invoke,Act.eval,hargs,he]
  unfold Oper.wp
  rw [hrun,Oper.upon_enter]
  refine h.mono fun e w'' hh=>?_
  obtain ⟨v,rfl,hk⟩:=hh
  subst hd
  exact hK _ _ hk
theorem aDM {oi:Oper} {N:Option Tmp} {a:Act} {w w1:World} {v:Value} {K:Act→World→Prop} (hw:Region.wanted oi (yielded ops a.tmps)=true) (hN:oi.dst=N) (hrun:(execOp a.eval oi).run P w=.ok (.value v) w1)
    (h:K (a.put N v) w1):if Region.wanted oi (yielded ops a.tmps)=true then Oper.wp P oi a w K Q else K (a.put N undef) w:=by
  rw [if_pos hw]
  subst hN
  unfold Oper.wp
  rw [hrun]
  exact h
theorem BP {oi:Oper} {a:Act} {w w1:World} {K:Act→World→Prop} (hw:Region.wanted oi (yielded ops a.tmps)=true) (hN:oi.dst=none) (hrun:(execOp a.eval oi).run P w=.ok .skip w1)
    (h:K a w1):if Region.wanted oi (yielded ops a.tmps)=true then Oper.wp P oi a w K Q else K (a.put none undef) w:=by
  rw [if_pos hw]
  unfold Oper.wp
  rw [hrun]
  show K (a.put oi.dst undef) w1
  rw [hN]
  exact h
theorem bHg {oi:Oper} {N:Option Tmp} {a:Act} {w:World} {K:Act→World→Prop} (hw:Region.wanted oi (yielded ops a.tmps)=false) (h:K (a.put N undef) w):if Region.wanted oi (yielded ops a.tmps)=true then Oper.wp P oi a w K Q else K (a.put N undef) w:=by
  rw [hw,if_neg (by simp)]
  exact h
theorem nX (n:Int):IntKind.i64.wrap n=Go.RowKit.wrap64 n:=by unfold Go.RowKit.wrap64;exact IntKind.wrap_i64 n
theorem tY (n:Int):IntKind.i32.wrap n=Go.RowKit.wrap32 n:=by unfold Go.RowKit.wrap32;exact IntKind.wrap_i32 n
end
end Go.Proofs.YtipjpdiianopcaaW.fO
section
namespace Go.Proofs.YtipjpdiianopcaaW.dF
open Go.RowKit
namespace Kd
def tag {α:Type} (f:Nat→Nat) (d:Kd α):Kd (α × Nat) where
  sz:=d.sz
  E:=d.E
  K:=fun w x cs=>d.K w x.1 cs
  M:=fun w base ok x cs=>d.M w base (fun k=>ok k∧f k=x.2) x.1 cs
  FY:=fun h=>d.FY h
  Ea:=fun h=>d.Ea h
  BL:=fun hb h=>d.BL hb h
  xQ:=fun h=>d.xQ h
  wB:=fun hok h=>d.wB (fun k hk=>⟨hok k hk.1,hk.2⟩) h
  vH:=fun h=>d.wB (fun _ hk=>⟨⟨hk.1.1,hk.2⟩,hk.1.2⟩) (d.vH h)
  AY:=fun hm h=>d.AY (fun k hk=>hm k hk.1) h
  BM:=fun hb h=>d.BM hb h
def raw (sz:Nat):Kd (List Value) where
  sz:=sz
  E:=[]
  K:=fun _ x cs=>cs=x∧cs.length=sz∧∀ u ∈ cs,u.oneCell'=true
  M:=fun _ _ _ x cs=>cs=x∧cs.length=sz∧∀ u ∈ cs,u.oneCell'=true
  FY:=fun h=>h.2.1
  Ea:=fun h=>h.2.2
  BL:=fun _ h=>h
  xQ:=fun h=>h
  wB:=fun _ h=>h
  vH:=fun h=>h
  AY:=fun _ h=>h
  BM:=fun _ h=>h
def S {α:Type} (d:Kd α) (e:Nat) (w:World) (base:Nat) (ok:Nat→Prop) (v:Value) (xs:List α):Prop:=∃ f,(tag f d).R e w base ok v xs.zipIdx
section
variable {α β:Type} {d:Kd α} {d':Kd β} {e e':Nat} {w w1 W:World} {base b:Nat} {ok ok' okv oku:Nat→Prop} {u v:Value} {xs:List α} {ys:List β}
theorem Xf (hE:d.E=[]) (h:d.R e w base ok v xs):d.R e w base (fun k=>some k=v.ownBlock) v xs:=by
  obtain ⟨h0,inner,ho,hr⟩:=h
  refine ⟨fun k hk=>hk.symm,inner,ho,hr.JC (fun p c hp=>d.wB (fun k hk=>?_) (d.vH hp))⟩
  obtain ⟨_,_,_,q,hq,_⟩:=hk
  rw [hE] at hq
  cases hq
theorem KH (d:Kd α) (e:Nat) (w:World) (base:Nat) (ok:Nat→Prop):S d e w base ok (.slice none 0 0) []:=⟨fun _=>0,BV _ _ _ _ _⟩
end
section
variable {α β:Type} {d:Kd α} {d':Kd β} {e e' g:Nat} {w w1 W:World} {base b:Nat} {ok ok' okv oku:Nat→Prop} {u v:Value} {xs:List α} {ys:List β}
end
section
variable {P:Program} {ops:Array Oper} {rest:List Oper} {o:Oper} {a:Act} {Q:Exit→Act→World→Prop} {Kc:Act→World→Prop} {α:Type}
end
def gap {α:Type} (f:Nat→Nat) (d:Kd α) (i:Nat) (c:List Value):Kd (α × Nat) where
  sz:=d.sz
  E:=d.E
  K:=fun w x cs=>(x.2=i→cs=c∧cs.length=d.sz∧∀ u ∈ cs,u.oneCell'=true)∧(x.2≠i→d.K w x.1 cs)
  M:=fun w base ok x cs=>(x.2=i→cs=c∧cs.length=d.sz∧∀ u ∈ cs,u.oneCell'=true)∧(x.2≠i→d.M w base (fun k=>ok k∧f k=x.2) x.1 cs)
  FY:=fun {w x cs} h=>by
    by_cases hx:x.2=i
    · exact (h.1 hx).2.1
    · exact d.FY (h.2 hx)
  Ea:=fun {w x cs} h=>by
    by_cases hx:x.2=i
    · exact (h.1 hx).2.2
    · exact d.Ea (h.2 hx)
  BL:=fun hb h=>⟨h.1,fun hx=>d.BL hb (h.2 hx)⟩
  xQ:=fun h=>⟨h.1,fun hx=>d.xQ (h.2 hx)⟩
  wB:=fun hok h=>⟨h.1,fun hx=>d.wB (fun k hk=>⟨hok k hk.1,hk.2⟩) (h.2 hx)⟩
  vH:=fun h=>⟨h.1,fun hx=>d.wB (fun _ hk=>⟨⟨hk.1.1,hk.2⟩,hk.1.2⟩) (d.vH (h.2 hx))⟩
  AY:=fun hm h=>⟨h.1,fun hx=>d.AY (fun k hk=>hm k hk.1) (h.2 hx)⟩
  BM:=fun hb h=>⟨h.1,fun hx=>d.BM hb (h.2 hx)⟩
def H {α:Type} (d:Kd α) (e:Nat) (w:World) (base:Nat) (ok:Nat→Prop) (v:Value) (xs:List α) (i:Int) (oki:Nat→Prop) (c:List Value):Prop :=
  (∀ k,oki k→ok k)∧∃ f,(gap f d i.toNat c).R e w base (fun k=>ok k∧¬ oki k) v xs.zipIdx
section
variable {α β:Type} {d:Kd α} {e e' g n cap:Nat} {w w1 W:World} {base:Nat} {ok ok' oki Io:Nat→Prop} {u v:Value} {xs:List α} {i:Int} {c:List Value}
end
section
variable {P:Program} {ops:Array Oper} {rest:List Oper} {o:Oper} {a:Act} {Q:Exit→Act→World→Prop} {α:Type}
end
end Kd
end Go.Proofs.YtipjpdiianopcaaW.dF
end
section
namespace Go.Proofs.YtipjpdiianopcaaW.dF
open Go.RowKit
namespace Kd
theorem aLC {α:Type} {R:α→List Value→Prop} {size:Nat} {ps:List α} {cs:List Value} (h:kW R size ps cs) (hs0:0<size) (hR:∀ p c,R p c→∀ u ∈ c,u.oneCell'=true):∀ u ∈ cs,u.oneCell'=true:=by
  intro u hu
  obtain ⟨q,hq,rfl⟩:=List.mem_iff_getElem.1 hu
  have hql:q / size<ps.length:=by
    rw [Nat.div_lt_iff_lt_mul hs0,← h.1]
    exact hq
  refine hR _ _ (h.2 (q / size) _ (List.getElem?_eq_getElem hql)) _ ?_
  rw [List.mem_iff_getElem?]
  refine ⟨q%size,?_⟩
  rw [List.getElem?_take,if_pos (Nat.mod_lt _ hs0),List.getElem?_drop,Nat.mul_comm,Nat.div_add_mod,List.getElem?_eq_getElem hq]
section
variable {α:Type} {n:Nat} {d:Kd α} {hs:0<d.sz} {w:World} {base:Nat} {ok:Nat→Prop} {xs:List α} {cs:List Value}
end
section
variable {α:Type} {n:Nat} {enc:α→Value} {h1:∀ x,(enc x).oneCell'=true} {hs:0<(scalar enc h1).sz} {w:World} {base:Nat} {ok:Nat→Prop} {xs:List α} {cs:List Value}
end
end Kd
end Go.Proofs.YtipjpdiianopcaaW.dF
end
section
namespace Go.Proofs.YtipjpdiianopcaaW.dF
open Go.RowKit
namespace Kd
structure Heap {α:Type} (d:Kd α):Prop where
  K:∀ {w w1:World} {x:α} {cs:List Value},(∀ k,k<w.heap.size→w1.heap[k]?=w.heap[k]?)→d.K w x cs→d.K w1 x cs
theorem aIA {w w1:World} (hb:∀ k,k<w.heap.size→w1.heap[k]?=w.heap[k]?) {a:Addr} {v:Value} (h:w.cell? a=some v):w1.cell? a=some v:=by
  have:=hb a.block (World.block_lt_of_cell? w a h)
  simpa [World.cell?,this] using h
theorem Heap.C {α:Type} {d:Kd α} (hd:Heap d) {w w1:World} {A:Option Addr} {n:Nat} {xs:List α} (hb:∀ k,k<w.heap.size→w1.heap[k]?=w.heap[k]?) (h:d.C w A n xs):d.C w1 A n xs :=
  ⟨h.1,h.2.1,fun hn=>by
    obtain ⟨ad,e,hc⟩:=h.2.2 hn
    refine ⟨ad,e,fun j p hj=>?_⟩
    obtain ⟨c,hs,hr,hcell⟩:=hc j p hj
    exact ⟨c,hs,hd.K hb hr,fun i u hu=>aIA hb (hcell i u hu)⟩⟩
theorem Js (k:IntKind):Heap (Kd.int k):=⟨fun _ h=>h⟩
section
variable {α:Type} {d:Kd α} {e base g n c:Nat} {ok:Nat→Prop} {w w0 W:World} {A:Option Addr} {xs:List α}
end
end Kd
end Go.Proofs.YtipjpdiianopcaaW.dF
end
section
namespace Go.Proofs.YtipjpdiianopcaaW.dF
open Go.RowKit
def Kept (w W:World) (S:Nat→Prop):Prop:=w.heap.size≤W.heap.size∧∀ i,i<w.heap.size→¬ S i→W.heap[i]?=w.heap[i]?
section
variable {w W W2:World} {S S2 S':Nat→Prop}
theorem Kept.refl (w:World) (S:Nat→Prop):Kept w w S:=⟨Nat.le_refl _,fun _ _ _=>rfl⟩
theorem Kept.of_below (h:Below w.heap.size w W) (S:Nat→Prop):Kept w W S:=⟨h.size,fun i hi _=>h.block i hi⟩
theorem Kept.aQD (h:Kept w W S) (k:Kept W W2 S2) (hs:∀ k,S2 k→S k∨w.heap.size≤k):Kept w W2 S :=
  ⟨Nat.le_trans h.1 k.1,fun i hi hn=>(k.2 i (Nat.lt_of_lt_of_le hi h.1) (fun h2=>(hs i h2).elim hn (fun h3=>by omega))).trans (h.2 i hi hn)⟩
theorem Kept.below (h:Kept w W S) (hb:Below W.heap.size W W2):Kept w W2 S:=h.aQD (Kept.of_below hb (fun _=>False)) (fun _ hk=>hk.elim)
theorem Kept.alloc (h:Kept w W S) (o:Obj):Kept w (W.alloc o) S:=h.below (iR (Below.refl _ _) o)
theorem Kept.drew (h:Kept w W S):Kept w W.drew S:=h
theorem Kept.drewN (h:Kept w W S) (m:Nat):Kept w (W.drewN m) S:=h
theorem Kept.setCell (h:Kept w W S) {p:Addr} (hp:S p.block∨w.heap.size≤p.block) (u:Value):Kept w (W.setCell p u) S :=
  h.aQD (S2:=fun k=>k=p.block) ⟨by simp [World.setCell],fun i _ hn=>Below.heap_setCell W p u i hn⟩ (fun k hk=>by rw [hk];exact hp)
end
namespace Kd
section
variable {α:Type} {d:Kd α} {e base n c:Nat} {ok oki S S2:Nat→Prop} {w w0 W W1 W2:World} {v:Value} {A:Option Addr} {xs:List α} {i:Int} {cs:List Value}
end
end Kd
end Go.Proofs.YtipjpdiianopcaaW.dF
end
section
namespace Go.Proofs.YtipjpdiianopcaaW.dF
open Go.RowKit
def Il (P:World→Prop) (W:World) (ok:Nat→Prop):Prop:=∀ W':World,(∀ k,ok k→k<W.heap.size→W'.heap[k]?=W.heap[k]?)→P W'
theorem aOn {W W1:World} {k:Nat} (h:W1.heap[k]?=W.heap[k]?) (hlt:k<W.heap.size):k<W1.heap.size:=by
  rw [Array.getElem?_eq_getElem hlt] at h
  exact (Array.getElem?_eq_some_iff.1 h).1
namespace Il
variable {P Q:World→Prop} {W W1:World} {ok ok':Nat→Prop}
theorem now (h:Il P W ok):P W:=h W (fun _ _ _=>rfl)
theorem mono (h:Il P W ok) (hok:∀ k,ok k→ok' k):Il P W ok':=fun W' hW=>h W' (fun k hk hlt=>hW k (hok k hk) hlt)
theorem bound (h:Il P W ok):Il P W (fun k=>ok k∧k<W.heap.size):=fun W' hW=>h W' (fun k hk hlt=>hW k ⟨hk,hlt⟩ hlt)
theorem step (h:Il P W ok) (hm:∀ k,ok k→k<W.heap.size→W1.heap[k]?=W.heap[k]?):Il P W1 ok:=fun W' hW=>h W' (fun k hk hlt=>(hW k hk (aOn (hm k hk hlt) hlt)).trans (hm k hk hlt))
theorem imp (h:Il P W ok) (hi:∀ W',P W'→Q W'):Il Q W ok:=fun W' hW=>hi W' (h W' hW)
theorem old (h:Il P W ok) (hb:Below W.heap.size W W1):Il P W1 (fun k=>ok k∧k<W.heap.size):=(h.bound).step (fun k _ hlt=>hb.block k hlt)
end Il
namespace Kd
def F {α:Type} (d:Kd α) (W:World) (ok:Nat→Prop) (A:Option Addr) (n:Nat) (xs:List α):Prop:=Il (fun W=>d.C W A n xs) W ok
def FK {α:Type} (d:Kd α) (W:World) (ok:Nat→Prop) (x:α) (c:List Value):Prop:=Il (fun W=>d.K W x c) W ok
section
variable {α β:Type} {d:Kd α} {e base n n' cc g N:Nat} {ok ok' Io S:Nat→Prop} {w w0 w1 W W1:World} {A A':Option Addr} {u v v1:Value} {xs:List α} {xs':List β} {d':Kd β} {x:α} {c:List Value}
theorem bAH (h:F d W ok A n xs):d.C W A n xs:=Il.now h
theorem aBA (h:F d W ok A n xs) (hok:∀ k,ok k→ok' k):F d W ok' A n xs:=Il.mono h hok
theorem aHg (h:F d W ok A n xs):F d W (fun k=>ok k∧k<W.heap.size) A n xs:=Il.bound h
theorem aLD (h:F d W ok A n xs) (hm:∀ k,ok k→k<W.heap.size→W1.heap[k]?=W.heap[k]?):F d W1 ok A n xs:=Il.step h hm
theorem aQE (h:F d W ok A n xs) (hi:∀ W',d.C W' A n xs→d'.C W' A' n' xs'):F d' W ok A' n' xs':=Il.imp h hi
theorem FD (h:F d W ok A n xs) (hb:Below W.heap.size W W1):F d W1 ok A n xs:=aLD h (fun k _ hlt=>hb.block k hlt)
theorem aOo (h:F d W ok A n xs) (o:Obj):F d (W.alloc o) ok A n xs:=FD h (iR (Below.refl _ _) o)
theorem aUl (h:F d W ok A n xs):F d W.drew ok A n xs:=FD h (MW (Below.refl _ _))
theorem aOp (h:F d W ok A n xs) (m:Nat):F d (W.drewN m) ok A n xs:=FD h (nV (Below.refl _ _) m)
theorem bAI (h:F d W ok A n xs) {p:Addr} (hok:∀ k,ok k→k≠p.block) (u:Value):F d (W.setCell p u) ok A n xs:=aLD h (fun k hk _=>Below.heap_setCell W p u k (hok k hk))
theorem aO_ (d:Kd α) (W:World) (ok:Nat→Prop):F d W ok none ([]:List α).length []:=fun W' _=>aKi d W'
theorem aLE (h:F d W ok A n xs) (hbase:∀ k,v.ownBlock=some k→W.heap.size≤k) (hb:Below W.heap.size W W1):F d W1 (fun k=>ok k∧some k≠v.ownBlock) A n xs :=
  aBA (Il.old h hb) (fun k hk=>⟨hk.1,fun he=>by have:=hbase k he.symm;have:=hk.2;omega⟩)
theorem aLF (h:F d W ok A n xs) (a:Nat) (ha:W.heap.size≤a):F d W (fun k=>ok k∧k≠a) A n xs:=aBA (aHg h) (fun k hk=>⟨hk.1,by have:=hk.2;omega⟩)
theorem aOq (h:F d W (fun k=>ok k∧some k≠v.ownBlock) A n xs) (hg:W.grownBy W1 v.ownBlock) (hat:v1.ownBlock=v.ownBlock∨∃ b,v1.ownBlock=some b∧W.heap.size≤b):F d W1 (fun k=>ok k∧some k≠v1.ownBlock) A n xs:=by
  refine aBA (Il.step (aHg h) (fun k hk hlt=>hg.block k hlt hk.1.2)) (fun k hk=>⟨hk.1.1,?_⟩)
  rcases hat with hat|⟨b,hb,hle⟩
  · rw [hat];exact hk.1.2
  · rw [hb]
    intro he
    injection he with he
    have:=hk.2
    omega
theorem C_F (hd:Heap d) (h:d.C w A n xs):F d w (fun k=>k<w.heap.size) A n xs:=fun _ hW=>hd.C (fun k hlt=>hW k hlt hlt) h
theorem R_F (h:d.R e W base ok (.slice A n cc) xs):F d W ok A n xs:=fun W' hW=>by
  have h2:=fM (YX h hW)
  rw [h2.1]
  exact h2.2.2
theorem YY (h:FK d W ok x c):d.K W x c:=Il.now h
theorem aBB (h:FK d W ok x c) (hok:∀ k,ok k→ok' k):FK d W ok' x c:=Il.mono h hok
theorem aDj (h:FK d W ok x c):FK d W (fun k=>ok k∧k<W.heap.size) x c:=Il.bound h
theorem aHh (h:FK d W ok x c) (hm:∀ k,ok k→k<W.heap.size→W1.heap[k]?=W.heap[k]?):FK d W1 ok x c:=Il.step h hm
theorem aOr (h:d.M W base ok x c):FK d W ok x c:=fun _ hW=>d.xQ (aLG h hW)
end
end Kd
end Go.Proofs.YtipjpdiianopcaaW.dF
end
section
namespace Go.Proofs.YtipjpdiianopcaaW.dF
open Go.RowKit
section
variable {P:Program}
theorem UY (w:World) (base:Nat) (t ti ty e:TypeId) (i:TypeInfo) (z:Value) (size bytes:Nat) (ht:P.underlying t=some (.slice e)) {k:IntKind} (hti:P.underlying ti=some (.int k)) (hi:P.info? e=some i) (hz:i.zero=some z)
    (hsize:i.size=size) (hby:i.bytes=bytes) (hzs:z.cells.size=size) (hsz:0<size) (hb0:0<bytes)
    (v:Value) (n:Nat) (xs:List Value) (hown:w.ownsRow base e size v n xs) (kx:IntKind) (m:Nat) (h1:∀ u ∈ (Builtin.zeroCells z.cells m).toList,u.oneCell'=true)
    (hbytes:(n+m)*bytes≤140737488355328) (hbase:base≤w.heap.size) :
    ∃ v' w',(Builtin.append_ #[t,ti] ty #[v,.int kx m]).run P w=.ok v' w'∧w'.ownsRow base e size v' (n+m) (xs ++ (Builtin.zeroCells z.cells m).toList)∧w.grownBy w' v.ownBlock ∧
      (v'.ownBlock=v.ownBlock∨v'.ownBlock=some w.heap.size):=by
  subst hsize
  subst hby
  have hle:n+m≤140737488355328:=Nat.le_trans (Nat.le_mul_of_pos_right _ hb0) hbytes
  have h63:n+m≤maxLen:=by simp only [maxLen];omega
  have hw:IntKind.i64.wrap (m:Int)=m:=by rw [IntKind.wrap_i64];omega
  have hw0:IntKind.i64.wrap 0=0:=by rw [IntKind.wrap_i64];rfl
  have hneg:¬ ((m:Int)<0):=by omega
  have hmb:m*i.bytes≤140737488355328:=Nat.le_trans (Nat.mul_le_mul_right _ (Nat.le_add_left m n)) hbytes
  have hbig:¬ (281474976710656<(m:Int)*(i.bytes:Int)):=by
    rw [← Int.natCast_mul]
    omega
  have hsn:i.size≠0:=by omega
  obtain ⟨news,hnews⟩:∃ news,news=(Builtin.zeroCells z.cells m).toList:=⟨_,rfl⟩
  rw [← hnews] at h1 ⊢
  have hl:news.length=m*i.size:=by rw [hnews,Array.length_toList,size_zeroCells,hzs]
  have hna:Builtin.zeroCells z.cells m=news.toArray:=by rw [hnews]
  have hlen:(xs ++ news).length=(n+m)*i.size:=by rw [List.length_append,hown.1,hl,Nat.add_mul]
  have hnil:m=0→news=[]:=fun h=>List.eq_nil_of_length_eq_zero (by rw [hl,h,Nat.zero_mul])
  have grown:∀ (old:Nat),old<n+m→∀ (row:Option Nat),
      (w.drew.alloc (.cells (xs.toArray ++ news.toArray ++ Builtin.zeroCells z.cells (grownCap w (n+m) old e-(n+m))) e)).ownsRow base e i.size
        (.slice (some ⟨w.heap.size,0,none⟩) (n+m) (grownCap w (n+m) old e)) (n+m) (xs ++ news) ∧
      w.grownBy (w.drew.alloc (.cells (xs.toArray ++ news.toArray ++ Builtin.zeroCells z.cells (grownCap w (n+m) old e-(n+m))) e)) row:=by
    intro old ho row
    have hge:=grownCap_ge w (n+m) old e
    have hcm:grownCap w (n+m) old e≤maxLen:=grownCap_le_maxLen w (n+m) old e h63
    refine ⟨⟨hlen,.inr ⟨w.heap.size,_,_,rfl,hbase,heap_alloc_new w.drew _,hge,hcm,?_,?_⟩⟩,⟨rfl,rfl,rfl,by simp,fun k hk _=>heap_alloc_old w.drew _ hk⟩⟩
    · simp only [Array.size_append,List.size_toArray,size_zeroCells,hzs,hown.1,hl,← Nat.add_mul]
      congr 1
      omega
    · simp only [Array.toList_append,List.append_assoc]
      rw [← List.append_assoc,← hlen]
      exact List.take_left
  have runs:∀ (A:Option Addr) (cap:Nat),cap<n+m→(Builtin.firstCells i.size n (.slice A n cap)).run P w.drew=.ok xs.toArray w.drew→(Builtin.append_ #[t,ti] ty #[.slice A n cap,.int kx m]).run P w =
      .ok (.slice (some ⟨w.heap.size,0,none⟩) (n+m) (grownCap w (n+m) cap e)) (w.drew.alloc (.cells (xs.toArray ++ news.toArray ++ Builtin.zeroCells z.cells (grownCap w (n+m) cap e-(n+m))) e)):=by
    intro A cap hcap hfo
    have hn:¬ (n+m≤cap):=by omega
    have h63':¬ (9223372036854775807<((n:Int)+(m:Int))):=by omega
    have hfit:=growslice_fits hcap hbytes
    have h48':¬ (281474976710656<Builtin.nextslicecap (n+m) cap*i.bytes):=by omega
    by_cases hm:m=0
    · have hnl:=hnil hm
      subst hm
      rw [hnl]
      simp only [Nat.add_zero] at hn h63' h48' ⊢
      have bAJ:¬ (9223372036854775807<(n:Int)):=by omega
      simp [Builtin.append_,run_underlying ht,run_underlying hti,sizeOf,typeInfo,zeroValue,hi,hz,asInt,asIntOf,hw0,hn,bAJ,h48',Question.forced,hfo,newRow,grownCap]
    · have hmz:¬ (m*i.size=0):=Nat.mul_ne_zero hm hsn
      simp [Builtin.append_,run_underlying ht,run_underlying hti,sizeOf,typeInfo,zeroValue,hi,hz,asInt,asIntOf,hw,hneg,hbig,hn,h63',h48',Question.forced,hfo,newRow,grownCap,hmz,hna]
      congr 2
      apply Array.ext'
      simp [List.append_assoc]
  rcases hown.2 with ⟨rfl,rfl⟩|⟨g,cap,cur,rfl,hbg,hg,hnc,hcm,hcs,htake⟩
  · have hx:xs=[]:=List.eq_nil_of_length_eq_zero (by simpa using hown.1)
    subst hx
    by_cases hm:m=0
    · have hnl:=hnil hm
      subst hm
      rw [hnl]
      refine ⟨.slice none 0 0,w,?_,World.ownsRow_nil w base e i.size,⟨rfl,rfl,rfl,Nat.le_refl _,fun _ _ _=>rfl⟩,Or.inl rfl⟩
      simp [Builtin.append_,run_underlying ht,run_underlying hti,sizeOf,typeInfo,hi,asInt,asIntOf,hw0]
    · have hgr:=grown 0 (by omega) (Value.ownBlock (.slice none 0 0))
      exact ⟨_,_,runs none 0 (by omega) (by simp [Builtin.firstCells]),hgr.1,hgr.2,Or.inr rfl⟩
  · by_cases hroom:n+m≤cap
    · have hfit:n*i.size+news.length≤cur.size:=by rw [hl,hcs,← Nat.add_mul];exact Nat.mul_le_mul_right _ hroom
      obtain ⟨cur',h3,h4,h5⟩:=TN news (n*i.size) w cur hg hfit
      obtain ⟨s1,s2,s3,s4⟩:=Qu g news (n*i.size) w
      have hst:=run_storeCells_cells (P:=P) g (n*i.size) news 0 w (fun j hj=>by rw [cell_of_row w g _ cur e (0,0) hg];simp;omega) (fun j _=>aG hg _) h1
      simp only [Nat.add_zero] at hst
      refine ⟨.slice (some ⟨g,0,none⟩) (n+m) cap,w.setCells g (n*i.size) news,?_,⟨hlen,.inr ⟨g,cap,cur',rfl,hbg,h3,hroom,hcm,by rw [h4,hcs],?_⟩⟩,⟨s1,s2,s3,by rw [s4];exact Nat.le_refl _,fun k _ hk=>TP news _ k (fun e=>hk (by simp [Value.ownBlock,e]))⟩,Or.inl rfl⟩
      · by_cases hm:m=0
        · have hnl:=hnil hm
          subst hm
          rw [hnl] at hst ⊢
          simp [Builtin.append_,run_underlying ht,run_underlying hti,sizeOf,typeInfo,hi,asInt,asIntOf,hw0,hnc,add_plain,hst]
        · have hmz:¬ (m*i.size=0):=Nat.mul_ne_zero hm hsn
          simp [Builtin.append_,run_underlying ht,run_underlying hti,sizeOf,typeInfo,zeroValue,hi,hz,asInt,asIntOf,hw,hneg,hbig,hroom,hmz,hna,add_plain,hst]
      · rw [h5]
        have h6:cur.toList.take (n*i.size)=xs:=htake
        rw [h6,← hlen]
        exact List.take_left
    · have holds:∀ j u,xs[j]?=some u→w.cell? ((⟨g,0,none⟩:Addr).add j)=some u:=hown.cells (g:=g) rfl
      have hgr:=grown cap (by omega) (Value.ownBlock (.slice (some ⟨g,0,none⟩) n cap))
      exact ⟨_,_,runs (some ⟨g,0,none⟩) cap (by omega) (run_firstCells_some (P:=P) w.drew i.size n _ n cap xs hown.1 (by simpa using holds)),hgr.1,hgr.2,Or.inr rfl⟩
end
namespace Kd
theorem aEJ {α:Type} {R:α→List Value→Prop} {z:Value} {size:Nat} {z0:α} (hz:z.cells.size=size) (hs:0<size) (h0:R z0 z.cells.toList) (m:Nat):kW R size (List.replicate m z0) (Builtin.zeroCells z.cells m).toList:=by
  have h:=aIB hz hs h0 m
  rw [show Builtin.zeroCells z.cells m=madeCells z.cells (m*size) by unfold Builtin.zeroCells madeCells;rw [hz]]
  exact h
section
variable {P:Program} {ops:Array Oper} {rest:List Oper} {o:Oper} {a:Act} {Q:Exit→Act→World→Prop} {Kc:Act→World→Prop} {α:Type}
theorem aDk (d:Kd α) {W:World} (base:Nat) (t ti ty e:TypeId) (z:Value) (bytes:Nat) (ht:P.underlying t=some (.slice e)) {k:IntKind} (hti:P.underlying ti=some (.int k)) (hinfo:(P.info? e).map (fun i=>(i.zero,i.size,i.bytes))=some (some z,d.sz,bytes)) (hz:z.cells.size=d.sz) (hs0:0<d.sz) (hb0:0<bytes)
    (v:Value) (xs:List α) (z0:α) {ok:Nat→Prop} (hzero:d.M W base (fun _=>False) z0 z.cells.toList) (hfresh:∀ k,W.heap.size≤k→ok k) (HO:d.R e W base ok v xs) (kx:IntKind) (n:Int) (h0:0≤n) (hl:(xs.length+n.toNat)*bytes≤140737488355328) (hbase:base≤W.heap.size) :
    ∃ v1 w1,(Builtin.append_ #[t,ti] ty #[v,.int kx n]).run P W=.ok v1 w1∧d.R e w1 base ok v1 (xs ++ List.replicate n.toNat z0)∧W.grownBy w1 v.ownBlock∧(v1.ownBlock=v.ownBlock∨∃ b,v1.ownBlock=some b∧W.heap.size≤b):=by
  obtain ⟨m,rfl⟩:=Int.eq_ofNat_of_zero_le h0
  simp only [Int.toNat_natCast] at hl ⊢
  obtain ⟨i0,hi,hzz⟩:=Option.map_eq_some_iff.1 hinfo
  simp only [Prod.mk.injEq] at hzz
  obtain ⟨hz0,hz1,hz2⟩:=hzz
  obtain ⟨hok,inner,hown,hr⟩:=HO
  have hnM:kW (d.M W base (fun _=>False)) d.sz (List.replicate m z0) (Builtin.zeroCells z.cells m).toList:=aEJ hz hs0 hzero m
  obtain ⟨v1,w1,hrun,h2,hg,hat⟩:=UY (P:=P) W base t ti ty e i0 z d.sz bytes ht hti hi hz0 hz1 hz2 hz hs0 hb0 v xs.length inner hown kx m (aLC hnM hs0 (fun _ _ hp=>d.Ea (d.xQ hp))) hl hbase
  have hat':v1.ownBlock=v.ownBlock∨∃ b,v1.ownBlock=some b∧W.heap.size≤b:=by
    rcases hat with hat|hat
    · exact .inl hat
    · exact .inr ⟨_,hat,Nat.le_refl _⟩
  have hne:∀ k,some k≠v.ownBlock→k<W.heap.size→some k≠v1.ownBlock:=by
    intro k hk hlt
    rcases hat' with hat|⟨b,hb,hle⟩
    · rw [hat];exact hk
    · rw [hb]
      intro he
      injection he with he
      omega
  have step:∀ {q:α} {c:List Value} {o:Nat→Prop},d.M W base o q c→(∀ k,o k→ok k∧some k≠v.ownBlock)→d.M w1 base (fun k=>ok k∧some k≠v1.ownBlock) q c:=by
    intro q c o hq ho
    have h1:=d.AY (w1:=w1) (fun k hk=>hg.block k hk.2.2.1 (ho k hk.1).2) (d.vH hq)
    exact d.wB (fun k hk=>⟨(ho k hk.1).1,hne k (ho k hk.1).2 hk.2.2.1⟩) h1
  refine ⟨v1,w1,hrun,⟨fun k hk=>?_,inner ++ (Builtin.zeroCells z.cells m).toList,by rw [List.length_append,List.length_replicate];exact h2,OG (hr.JC (fun _ _ hq=>step hq (fun _ hk=>hk))) (hnM.JC (fun _ _ hq=>step hq (fun _ hk=>hk.elim)))⟩,hg,hat'⟩
  rcases hat' with hat|⟨b,hb,hle⟩
  · exact hok k (hat ▸ hk)
  · rw [hb] at hk
    injection hk with hk
    exact hfresh k (by omega)
theorem YK (d:Kd α) {w0 W:World} (base:Nat) (hgd:o.guard=none) (s x:Operand) (t ti e:TypeId) (z:Value) (bytes:Nat)
    (ho:o.op=.call { callee:=.builtin .append,args:=#[s,x],argTypes:=#[t,ti] })
    (ht:P.underlying t=some (.slice e)) {k:IntKind} (hti:P.underlying ti=some (.int k)) (hinfo:(P.info? e).map (fun i=>(i.zero,i.size,i.bytes))=some (some z,d.sz,bytes)) (hz:z.cells.size=d.sz) (hs0:0<d.sz) (hb0:0<bytes)
    (v:Value) (xs:List α) (z0:α) {kx:IntKind} (n:Int) (ok:Nat→Prop) (hs:a.eval s=v) (hx:a.eval x=.int kx n) (hzero:d.M W base (fun _=>False) z0 z.cells.toList) (hfresh:∀ k,W.heap.size≤k→ok k)
    (HO:d.R e W base ok v xs) (h0:0≤n) (HB:Below base w0 W) (hbase:base≤W.heap.size) (hl:(xs.length+n.toNat)*bytes≤140737488355328)
    (h:∀ v1 w1,d.R e w1 base ok v1 (xs ++ List.replicate n.toNat z0)→Below base w0 w1→W.grownBy w1 v.ownBlock→(v1.ownBlock=v.ownBlock∨∃ b,v1.ownBlock=some b∧W.heap.size≤b)→wpList P ops Q rest (a.put o.dst v1) w1) :
    wpList P ops Q (o :: rest) a W:=by
  obtain ⟨v1,w1,hr1,h1,hg,hat⟩:=aDk (P:=P) d base t ti o.type e z bytes ht hti hinfo hz hs0 hb0 v xs z0 hzero hfresh HO kx n h0 hl hbase
  refine wpList_plain hgd fun K hK=>?_
  unfold Oper.wp execOp
  simp only [ho,resolve,invoke,builtin,Sem.run_bind,Sem.run_pure,Result.andThen_ok,List.map_toArray,List.map_cons,List.map_nil,hs,hx,hr1]
  exact hK _ _ (h v1 w1 h1 (HB.grown hg hbase (jY HO)) hg hat)
end
section
variable {α:Type} {d:Kd α} {e:Nat} {w:World} {base:Nat} {ok:Nat→Prop} {v:Value} {xs:List α}
end
section
variable {P:Program} {ops:Array Oper} {rest:List Oper} {o:Oper} {a:Act} {Q:Exit→Act→World→Prop} {Kc:Act→World→Prop} {α:Type}
end
end Kd
end Go.Proofs.YtipjpdiianopcaaW.dF
end
section
namespace Go.Proofs.YtipjpdiianopcaaW.dF
open Go.RowKit
namespace Kd
def chunks (sz:Nat) (n:Nat) (inner:List Value):List (List Value):=(List.range n).map fun j=>(inner.drop (j*sz)).take sz
theorem sW (sz n:Nat) (inner:List Value):(chunks sz n inner).length=n:=by simp [chunks]
theorem aIC {sz n:Nat} {inner:List Value} {j:Nat} (hj:j<n):(chunks sz n inner)[j]?=some ((inner.drop (j*sz)).take sz):=by simp [chunks,hj]
theorem MX {sz n:Nat} {inner:List Value} {j:Nat} {c:List Value} (h:(chunks sz n inner)[j]?=some c):c=(inner.drop (j*sz)).take sz:=by
  have hj:j<n:=by have:=(List.getElem?_eq_some_iff.1 h).1;rwa [sW] at this
  rw [aIC hj] at h
  injection h with h
  exact h.symm
theorem YZ {α:Type} {Rr:α→List Value→Prop} {sz:Nat} {xs:List α} {inner:List Value} (h:kW Rr sz xs inner) (hR:∀ x c,Rr x c→c.length=sz∧∀ u ∈ c,u.oneCell'=true):kW (fun x cs=>cs=x∧cs.length=sz∧∀ u ∈ cs,u.oneCell'=true) sz (chunks sz xs.length inner) inner:=by
  refine ⟨by rw [sW];exact h.1,fun j p hj=>?_⟩
  have hjl:j<xs.length:=by have:=(List.getElem?_eq_some_iff.1 hj).1;rwa [sW] at this
  have hp:=MX hj
  exact ⟨hp.symm,hR _ _ (h.2 j _ (List.getElem?_eq_getElem hjl))⟩
section
variable {α:Type} {d:Kd α} {e base n cc g:Nat} {ok ok' Io S:Nat→Prop} {w w1 W W1:World} {A:Option Addr} {u v v1:Value} {xs:List α} {x:α} {c:List Value}
def N {α:Type} (d:Kd α) (e:Nat) (w:World) (base:Nat) (ok:Nat→Prop) (v:Value) (xs:List α):Prop :=
  (∀ k,v.ownBlock=some k→ok k)∧∃ rows:List (List Value),rows.length=xs.length∧(raw d.sz).R e w base (fun k=>some k=v.ownBlock) v rows∧∀ (j:Nat) (x:α) (c:List Value),xs[j]?=some x→rows[j]?=some c→FK d w (fun k=>ok k∧some k≠v.ownBlock) x c
theorem aID {sz:Nat} {rows:List (List Value)} (h:(raw sz).R e w base ok v rows):(raw sz).R e w base (fun k=>some k=v.ownBlock) v rows:=Xf rfl h
theorem R_N (h:d.R e w base ok v xs):N d e w base ok v xs:=by
  obtain ⟨h0,inner,ho,hr⟩:=h
  refine ⟨h0,chunks d.sz xs.length inner,sW _ _ _,⟨fun k hk=>hk.symm,inner,by rw [sW];exact ho,YZ hr (fun x c hp=>⟨d.FY (d.xQ hp),d.Ea (d.xQ hp)⟩)⟩,fun j x c hx hc=>?_⟩
  rw [MX hc]
  exact aOr (hr.2 j x hx)
theorem KE (d:Kd α) (e:Nat) (w:World) (base:Nat) (ok:Nat→Prop):N d e w base ok (.slice none 0 0) []:=R_N (BV _ _ _ _ _)
theorem tV (h:N d e w base ok v xs) (hok:∀ k,ok k→ok' k):N d e w base ok' v xs:=by
  obtain ⟨h0,rows,hl,hR,hf⟩:=h
  exact ⟨fun k hk=>hok k (h0 k hk),rows,hl,hR,fun j x c hx hc=>aBB (hf j x c hx hc) (fun k hk=>⟨hok k hk.1,hk.2⟩)⟩
theorem aM5 (h:N d e w base ok v xs):∀ k,v.ownBlock=some k→k<w.heap.size:=by
  obtain ⟨_,rows,_,hR,_⟩:=h
  exact wK hR
theorem Uo (h:N d e w base ok v xs):∀ k,v.ownBlock=some k→base≤k:=by
  obtain ⟨_,rows,_,hR,_⟩:=h
  exact jY hR
theorem aA_ (h:N d e w base ok v xs):∀ k,v.ownBlock=some k→∃ cells,w.heap[k]?=some (.cells cells e (0,0)):=by
  obtain ⟨_,rows,_,hR,_⟩:=h
  exact yP hR
theorem aHi (h:N d e w base ok v xs):N d e w base (fun k=>ok k∧k<w.heap.size) v xs:=by
  have hlt:=aM5 h
  obtain ⟨h0,rows,hl,hR,hf⟩:=h
  exact ⟨fun k hk=>⟨h0 k hk,hlt k hk⟩,rows,hl,hR,fun j x c hx hc=>aBB (aDj (hf j x c hx hc)) (fun k hk=>⟨⟨hk.1.1,hk.2⟩,hk.1.2⟩)⟩
theorem RV {base':Nat} (h:N d e w base ok v xs) (hb:base'≤base):N d e w base' ok v xs:=by
  obtain ⟨h0,rows,hl,hR,hf⟩:=h
  exact ⟨h0,rows,hl,jV hR hb,hf⟩
theorem aLH (h:N d e w base ok v xs) (hm:∀ k,ok k→k<w.heap.size→w1.heap[k]?=w.heap[k]?):N d e w1 base ok v xs:=by
  obtain ⟨h0,rows,hl,hR,hf⟩:=h
  exact ⟨h0,rows,hl,YX hR (fun k hk hlt=>hm k (h0 k hk.symm) hlt),fun j x c hx hc=>aHh (hf j x c hx hc) (fun k hk hlt=>hm k hk.1 hlt)⟩
theorem Eg (h:N d e w base ok v xs) (hb:Below w.heap.size w w1):N d e w1 base ok v xs:=aLH h (fun k _ hk=>hb.block k hk)
theorem aOs (h:N d e w base ok v xs) (o:Obj):N d e (w.alloc o) base ok v xs:=Eg h (iR (Below.refl _ _) o)
theorem aUm (h:N d e w base ok v xs):N d e w.drew base ok v xs:=Eg h (MW (Below.refl _ _))
theorem aOt (h:N d e w base ok v xs) (m:Nat):N d e (w.drewN m) base ok v xs:=Eg h (nV (Below.refl _ _) m)
theorem AB (h:N d e w base ok v xs) {p:Addr} (hok:∀ k,ok k→k≠p.block) (u:Value):N d e (w.setCell p u) base ok v xs:=aLH h (fun k ho _=>Below.heap_setCell w p u k (hok k ho))
theorem pW (h:N d e W base ok v xs) (hbase:∀ k,u.ownBlock=some k→W.heap.size≤k) (hb:Below W.heap.size W w1):N d e w1 base (fun k=>ok k∧some k≠u.ownBlock) v xs :=
  tV (Eg (aHi h) hb) (fun k hk=>⟨hk.1,fun he=>by have:=hbase k he.symm;have:=hk.2;omega⟩)
theorem Ic (h:N d e w base ok v xs) (a:Nat) (ha:w.heap.size≤a):N d e w base (fun k=>ok k∧k≠a) v xs:=tV (aHi h) (fun k hk=>⟨hk.1,by have:=hk.2;omega⟩)
theorem Xe (h:N d e w base ok v xs):∃ A c,v=.slice A xs.length c:=by
  obtain ⟨_,rows,hl,hR,_⟩:=h
  obtain ⟨A,c,he⟩:=iK hR
  exact ⟨A,c,by rw [he,hl]⟩
theorem Ia {n c:Nat} (h:N d e w base ok (.slice A n c) xs):n=xs.length∧n≤c∧d.C w A xs.length xs:=by
  obtain ⟨_,rows,hl,hR,hf⟩:=h
  obtain ⟨hn,hc,hC⟩:=fM hR
  refine ⟨by omega,hc,?_⟩
  rw [hl] at hC
  refine ⟨rfl,hC.2.1,fun hp=>?_⟩
  obtain ⟨ad,he,hcell⟩:=hC.2.2 hp
  refine ⟨ad,he,fun j p hj=>?_⟩
  have hjl:j<rows.length:=by have:=(List.getElem?_eq_some_iff.1 hj).1;omega
  obtain ⟨c',hcl,hK,hcc⟩:=hcell j _ (List.getElem?_eq_getElem hjl)
  have hk:=YY (hf j p _ hj (List.getElem?_eq_getElem hjl))
  refine ⟨c',hcl,?_,hcc⟩
  rw [show c'=rows[j] from hK.1]
  exact hk
end
end Kd
end Go.Proofs.YtipjpdiianopcaaW.dF
end
section
namespace Go.Proofs.YtipjpdiianopcaaW.dF
open Go.RowKit
namespace Kd
section
variable {α:Type} {d:Kd α} {W:World} {g n:Nat} {S ok:Nat→Prop} {A:Option Addr} {ad:Addr} {xs:List α}
theorem aDl (h:d.C W (some ad) n xs) (hn:0<n) (hs:0<d.sz):W.cell? ad≠none:=by
  obtain ⟨ad',he,hc⟩:=h.2.2 hn
  injection he with he
  subst he
  obtain ⟨c,hcl,_,hcell⟩:=hc 0 _ (List.getElem?_eq_getElem (by rw [h.1];exact hn))
  have h1:=hcell 0 _ (List.getElem?_eq_getElem (by omega))
  rw [Nat.zero_mul,Nat.zero_add,Addr.add_zero'] at h1
  rw [h1]
  exact Option.some_ne_none _
theorem aIj (h:d.C W (some ad) n xs) (hn:0<n) (hs:0<d.sz):ad.block<W.heap.size:=by
  cases hc:W.cell? ad with
  | none=>exact absurd hc (aDl h hn hs)
  | some v=>exact World.block_lt_of_cell? W ad hc
end
end Kd
end Go.Proofs.YtipjpdiianopcaaW.dF
end
section
namespace Go.Proofs.YtipjpdiianopcaaW.dF
open Go.RowKit
section
variable {w w' u:World} {m B g:Nat} {o:Obj} {row:Option Nat} {S:Nat→Prop} {a:Addr} {v:Value}
end
namespace Kd
section
variable {α:Type} {d:Kd α} {e base n m:Nat} {ok:Nat→Prop} {w w':World} {v:Value} {A:Option Addr} {xs:List α}
end
end Kd
end Go.Proofs.YtipjpdiianopcaaW.dF
end
section
namespace Go.Proofs.YtipjpdiianopcaaW.dF
open Go.RowKit
section
variable {P:Program} {d:Nat} {xs ys:Array Value} {f:Field} {fs:List Field} {a b:Value} {r s:Bool} {w:World}
theorem aC6 (hn : (f.name == "_") = false) (ha : (part f.type xs f.offset).run P w = .ok a w) (hb : (part f.type ys f.offset).run P w = .ok b w) (he : (Op.equalIn d f.type a b).run P w = .ok r w) : (Op.eqFields d xs ys [f]).run P w = .ok r w := by
  have hn' : f.name ≠ "_" := by simpa using hn
  simp only [Op.eqFields,if_pos hn',Sem.run_bind,ha,hb,he,Result.andThen_ok]
  cases r <;> simp
theorem aC5 (hn : (f.name == "_") = false) (ha : (part f.type xs f.offset).run P w = .ok a w) (hb : (part f.type ys f.offset).run P w = .ok b w) (he : (Op.equalIn d f.type a b).run P w = .ok r w) (hr : (Op.eqFields d xs ys fs).run P w = .ok s w) : (Op.eqFields d xs ys (f :: fs)).run P w = .ok (r && s) w := by
  have hn' : f.name ≠ "_" := by simpa using hn
  rw [Op.eqFields]
  simp only [if_pos hn',Sem.run_bind,ha,hb,he,Result.andThen_ok]
  cases r
  · simp
  · simpa using hr
theorem aLg {t:TypeId} {fs:Array Field} (hu:P.underlying t=some (.struct fs)) (hp:P.stoodInHeld t=false) (h:(Op.eqFields d xs ys fs.toList).run P w=.ok r w):(Op.equalIn (d+1) t (.agg xs) (.agg ys)).run P w=.ok r w:=by
  have hf:P.fieldsOf t=fs:=by simp [Program.fieldsOf,hu]
  rw [run_equalIn_struct (P:=P) w d t xs ys (by rw [hf];exact hu) hp,hf]
  exact h
end
end Go.Proofs.YtipjpdiianopcaaW.dF
end
section
namespace Go.Proofs.YtipjpdiianopcaaW.fO
open Go.Proofs.YtipjpdiianopcaaW.dF (aA)
def PM (md:Region.Mode) (o:Oper):List Nat:=(o.after.toList.filter (fun e=>Region.binds md e)).map (fun e=>e.on)
def aBC (md:Region.Mode) (ops:Array Oper) (i:Nat) (oi:Oper):List Nat:=(List.range ops.size).filter fun j=>!(j==i)&&match ops[j]? with
  | some oj=>!(oj.after.any (fun e=>Region.binds md e&&e.on==i) || oi.apart ops oj)
  | none=>false
def Ap (md:Region.Mode) (ops:Array Oper):Bool × List (List Nat × List Nat):=(Region.noSelect ops,(List.range ops.size).map fun i=>match ops[i]? with
  | some o=>(PM md o,aBC md ops i o)
  | none=>([],[]))
def Kq (T:List (List Nat × List Nat)) (l:List Bool) (i:Nat):Bool:=!l.getD i true&&match T[i]? with
  | some r=>r.1.all (fun j=>l.getD j false)
  | none=>false
def Za (T:List (List Nat × List Nat)) (l:List Bool):List Nat:=(List.range T.length).filter (Kq T l)
def aDm (T:List (List Nat × List Nat)) (l:List Bool) (i:Nat):Bool:=match T[i]? with
  | some r=>r.2.all (fun j=>l.getD j true)
  | none=>false
def Xv (T:List (List Nat × List Nat)) (l:List Bool):Bool:=(List.range T.length).all fun j=>!l.getD j false || match T[j]? with
  | some r=>r.1.all (fun k=>l.getD k false)
  | none=>true
def UZ (T:List (List Nat × List Nat)) (i:Nat):Nat→Nat→Bool
  | 0,_=>false
  | fuel+1,d=>match T[d]? with
    | some r=>r.1.any fun j=>j==i || UZ T i fuel j
    | none=>false
def lastT (T:List (List Nat × List Nat)) (l:List Bool) (ds:List Nat) (i:Nat):Bool:=ds.all fun d=>l.getD d true || UZ T i T.length d
section
variable {md:Region.Mode} {ops:Array Oper} {T:Bool × List (List Nat × List Nat)} {l l' li lj lk:Array Bool} {ds:List Nat} {i j k:Nat}
theorem gd (l:Array Bool) (j:Nat) (b:Bool):l.getD j b=l.toList.getD j b:=by simp [Array.getD_eq_getD_getElem?,List.getD_eq_getElem?_getD]
theorem aAq (o:Oper) (p:Nat→Bool):o.after.all (fun e=>!Region.binds md e || p e.on)=(PM md o).all p:=by
  unfold PM
  rw [← Array.all_toList]
  induction o.after.toList with
  | nil=>rfl
  | cons e r ih =>
    rw [List.all_cons,ih,List.filter_cons]
    cases h:Region.binds md e <;> simp
theorem aIE (o:Oper) (p:Nat→Bool):o.after.any (fun e=>Region.binds md e&&p e.on)=(PM md o).any p:=by
  unfold PM
  rw [← Array.any_toList]
  induction o.after.toList with
  | nil=>rfl
  | cons e r ih =>
    rw [List.any_cons,ih,List.filter_cons]
    cases h:Region.binds md e <;> simp
theorem Kr:(Ap md ops).2.length=ops.size:=by simp [Ap]
theorem PN {o:Oper} (h:ops[i]?=some o):(Ap md ops).2[i]?=some (PM md o,aBC md ops i o):=by
  have hi:=(Array.getElem?_eq_some_iff.1 h).1
  unfold Ap
  rw [List.getElem?_map,List.getElem?_range hi,Option.map_some,h]
theorem PO (h:ops[i]?=none):(Ap md ops).2[i]?=none:=by
  have hi:ops.size≤i:=Array.getElem?_eq_none_iff.1 h
  exact List.getElem?_eq_none (by rw [Kr];exact hi)
theorem aEK:Kq (Ap md ops).2 l.toList i=(!l.getD i true&&((ops[i]?).map (·.after.all fun e=>!Region.binds md e || l.getD e.on false)).getD false):=by
  unfold Kq
  rw [gd]
  cases h:ops[i]? with
  | none=>rw [PO h];rfl
  | some o =>
    rw [PN h]
    simp only [Option.map_some,Option.getD_some]
    rw [← aAq]
    simp only [gd]
theorem ready_eq:Region.ready md ops l=Za (Ap md ops).2 l.toList:=by
  unfold Region.ready Za
  rw [Kr]
  refine List.filter_congr (fun i _=>?_)
  rw [aEK]
theorem free_eq:Region.free md ops l i=aDm (Ap md ops).2 l.toList i:=by
  unfold Region.free aDm
  cases h:ops[i]? with
  | none=>rw [PO h]
  | some oi =>
    rw [PN h]
    simp only [aBC]
    rw [List.all_filter]
    congr 1
    funext j
    rw [gd]
    cases hj:ops[j]? with
    | none=>cases (j==i) <;> cases (l.toList.getD j true) <;> simp
    | some oj =>
      cases (j==i) <;> cases (l.toList.getD j true) <;> cases (oj.after.any (fun e=>Region.binds md e&&e.on==i) || oi.apart ops oj) <;> simp_all
theorem closed_eq:Region.TL md ops l=Xv (Ap md ops).2 l.toList:=by
  unfold Region.TL Xv
  rw [Kr]
  congr 1
  funext j
  rw [gd]
  cases h:ops[j]? with
  | none=>rw [PO h]
  | some o =>
    rw [PN h]
    simp only
    rw [← aAq]
    simp only [gd]
theorem reach_eq:∀ (fuel d:Nat),Region.Ir md ops i fuel d=UZ (Ap md ops).2 i fuel d
  | 0,_=>rfl
  | fuel+1,d=>by
    unfold Region.Ir UZ
    cases h:ops[d]? with
    | none=>rw [PO h]
    | some o =>
      rw [PN h]
      simp only
      rw [← aIE]
      congr 1
      funext e
      rw [reach_eq fuel]
theorem last_eq:Region.lastB md ops l ds i=lastT (Ap md ops).2 l.toList ds i:=by
  unfold Region.lastB lastT
  rw [Kr]
  congr 1
  funext d
  rw [gd,reach_eq]
theorem VA (h:Kq T.2 l.toList i=true) (hT:Ap md ops=T):(Region.ready md ops l).contains i=true:=by
  subst hT
  rw [ready_eq]
  unfold Za
  rw [List.contains_iff_mem,List.mem_filter,List.mem_range]
  refine ⟨?_,h⟩
  unfold Kq at h
  rw [Bool.and_eq_true] at h
  cases hq:(Ap md ops).2[i]? with
  | none=>rw [hq] at h;simp at h
  | some r=>exact (List.getElem?_eq_some_iff.1 hq).1
theorem aEL (h:(l.toList.set i true==l'.toList)=true):(l.setIfInBounds i true==l')=true:=by
  rw [beq_iff_eq] at h ⊢
  apply Array.ext'
  rw [Array.toList_setIfInBounds]
  exact h
def bAK (T:Bool × List (List Nat × List Nat)) (l l':List Bool) (i:Nat):Bool:=T.1&&aDm T.2 l i&&Kq T.2 l i&&(l.set i true==l')
theorem bP (hT:Ap md ops=T) (h:bAK T l.toList l'.toList i=true):aOm md ops l l' i=true:=by
  simp only [bAK,Bool.and_eq_true] at h
  obtain ⟨⟨⟨h1,h2⟩,h3⟩,h4⟩:=h
  have h5:=VA h3 hT
  have h6:=aEL h4
  subst hT
  simp only [aOm,Bool.and_eq_true]
  exact ⟨⟨⟨h1,by rw [free_eq];exact h2⟩,h5⟩,h6⟩
def aLI (T:Bool × List (List Nat × List Nat)) (ds:List Nat) (l l':List Bool) (i:Nat):Bool:=T.1&&aDm T.2 l i&&Kq T.2 l i&&Xv T.2 l&&lastT T.2 l ds i&&(l.set i true==l')
theorem aOu (hT:Ap md ops=T) (h:aLI T ds l.toList l'.toList i=true):takeB md ops ds l l' i=true:=by
  simp only [aLI,Bool.and_eq_true] at h
  obtain ⟨⟨⟨⟨⟨h1,h2⟩,h3⟩,h4⟩,h5⟩,h6⟩:=h
  have h7:=VA h3 hT
  have h8:=aEL h6
  subst hT
  simp only [takeB,Bool.and_eq_true]
  exact ⟨⟨⟨⟨⟨h1,by rw [free_eq];exact h2⟩,h7⟩,by rw [closed_eq];exact h4⟩,by rw [last_eq];exact h5⟩,h8⟩
theorem qH (hT:Ap md ops=T) (h:(Za T.2 l.toList==[i]&&l.toList.set i true==l'.toList)=true):UX md ops l l' i=true:=by
  simp only [Bool.and_eq_true] at h
  obtain ⟨h1,h2⟩:=h
  subst hT
  simp only [UX,Bool.and_eq_true]
  exact ⟨by rw [ready_eq];exact h1,aEL h2⟩
theorem sH (hT:Ap md ops=T) (h:(Za T.2 l.toList==[])=true):(Region.ready md ops l==[])=true:=by
  subst hT
  rw [ready_eq]
  exact h
def upM (B:List Nat) (d:Nat):List Nat→Nat
  | []=>0
  | n :: r=>(2 ^ n ||| (if n<d then B.getD n 0 else 0)) ||| upM B d r
def uF (T:List (List Nat × List Nat)) (B:List Nat):Bool:=(List.range T.length).all fun d=>match T[d]? with
  | some r=>(B.getD d 0 ||| upM B d r.1)==upM B d r.1
  | none=>false
theorem aHj {B:List Nat} {d i:Nat}:∀ {ns:List Nat},(upM B d ns).testBit i=true→∃ n ∈ ns,n=i∨(n<d∧(B.getD n 0).testBit i=true)
  | [],h=>by simp [upM] at h
  | n :: r,h=>by
    unfold upM at h
    rw [Nat.testBit_or,Nat.testBit_or,Bool.or_eq_true,Bool.or_eq_true] at h
    rcases h with (h|h)|h
    · rw [Nat.testBit_two_pow] at h
      exact ⟨n,List.mem_cons_self,.inl (by simpa using h)⟩
    · by_cases hn:n<d
      · rw [if_pos hn] at h
        exact ⟨n,List.mem_cons_self,.inr ⟨hn,h⟩⟩
      · rw [if_neg hn] at h
        simp at h
    · obtain ⟨m,hm,h2⟩:=aHj h
      exact ⟨m,List.mem_cons_of_mem _ hm,h2⟩
theorem aAr {T:List (List Nat × List Nat)} {B:List Nat} (hB:uF T B=true):∀ (fuel d:Nat),d<fuel→d<T.length→(B.getD d 0).testBit i=true→UZ T i fuel d=true
  | 0,d,h,_,_=>by omega
  | fuel+1,d,h,hd,hb=>by
    have h1:=List.all_eq_true.1 hB d (List.mem_range.2 hd)
    cases hr:T[d]? with
    | none=>rw [hr] at h1;simp at h1
    | some r =>
      rw [hr] at h1
      simp only [beq_iff_eq] at h1
      have h2:(upM B d r.1).testBit i=true:=by rw [← h1,Nat.testBit_or,hb,Bool.true_or]
      obtain ⟨n,hn,h3⟩:=aHj h2
      unfold UZ
      rw [hr]
      simp only
      rw [List.any_eq_true]
      refine ⟨n,hn,?_⟩
      rcases h3 with rfl|⟨h4,h5⟩
      · simp
      · rw [aAr hB fuel n (by omega) (by omega) h5,Bool.or_true]
def aQF (T:List (List Nat × List Nat)) (B:List Nat) (l:List Bool) (ds:List Nat) (i:Nat):Bool:=ds.all fun d=>l.getD d true || (decide (d<T.length)&&(B.getD d 0).testBit i)
def aQG (T:Bool × List (List Nat × List Nat)) (B:List Nat) (ds:List Nat) (l l':List Bool) (i:Nat):Bool:=T.1&&aDm T.2 l i&&Kq T.2 l i&&Xv T.2 l&&aQF T.2 B l ds i&&(l.set i true==l')
theorem iH {B:List Nat} (hT:Ap md ops=T) (hB:uF T.2 B=true) (h:aQG T B ds l.toList l'.toList i=true):takeB md ops ds l l' i=true:=by
  refine aOu hT ?_
  simp only [aQG,aLI,Bool.and_eq_true] at h ⊢
  obtain ⟨⟨⟨⟨⟨h1,h2⟩,h3⟩,h4⟩,h5⟩,h6⟩:=h
  refine ⟨⟨⟨⟨⟨h1,h2⟩,h3⟩,h4⟩,?_⟩,h6⟩
  unfold aQF at h5
  unfold lastT
  rw [List.all_eq_true] at h5 ⊢
  intro d hd
  have h7:=h5 d hd
  rw [Bool.or_eq_true,Bool.and_eq_true,decide_eq_true_eq] at h7
  rcases h7 with h7|⟨h8,h9⟩
  · rw [h7,Bool.true_or]
  · rw [aAr hB _ d h8 h8 h9,Bool.or_true]
theorem nK {P:Program} {Q:Exit→Act→World→Prop} {S:World→Prop} {n:Nat} {a:Act} {w:World} {B:List Nat} (hT:Ap md ops=T) (hB:uF T.2 B=true) (h:aA (Ap md ops=T)→aA (uF T.2 B=true)→jR P md ops Q S ds n l a w):jR P md ops Q S ds n l a w:=h ⟨hT⟩ ⟨hB⟩
end
def Qv:Code→Nat→Option (Array Oper)
  | .region id ops _,k=>if id==k then some ops else none
  | .seq a b,k=>match Qv a k with
    | some o=>some o
    | none=>Qv b k
  | .cond _ a b,k=>match Qv a k with
    | some o=>some o
    | none=>Qv b k
  | .block _ c,k=>Qv c k
  | .loop c,k=>Qv c k
  | .scope c,k=>Qv c k
  | .rangeFunc _ _ a b,k=>match Qv a k with
    | some o=>some o
    | none=>Qv b k
  | _,_=>none
def opsOf (f:Func) (k:Nat):Array Oper:=((f.body.bind fun c=>Qv c k)).getD #[]
end Go.Proofs.YtipjpdiianopcaaW.fO
end
section
namespace Go.Proofs.YtipjpdiianopcaaW.fO
section
variable {P:Program} {ops:Array Oper} {Q:Exit→Act→World→Prop} {md:Region.Mode} {S:World→Prop} {ds:List Nat} {T:Bool × List (List Nat × List Nat)}
end
end Go.Proofs.YtipjpdiianopcaaW.fO
end
section
namespace Go.Proofs.YtipjpdiianopcaaW.dF
open Go.RowKit
section
variable {P:Program} {ops:Array Oper} {rest:List Oper} {o:Oper} {a:Act} {Q:Exit→Act→World→Prop} {W:World}
theorem dZ (hw:Region.wanted o (yielded ops a.tmps)=true) (h:wpList P ops Q ({ o with guard:=none } :: rest) a W):wpList P ops Q (o :: rest) a W:=by
  have h1:Region.wanted { o with guard:=none } (yielded ops a.tmps)=true:=rfl
  unfold wpList at h ⊢
  rw [if_pos h1] at h
  rw [if_pos hw]
  exact h
end
end Go.Proofs.YtipjpdiianopcaaW.dF
end
section
namespace Go.Proofs.YtipjpdiianopcaaW.fO
def up (b:Nat→Bool) (i:Nat):Nat→Bool:=fun j=>if j=i then true else b j
section
variable {P:Program} {ops:Array Oper} {Q:Exit→Act→World→Prop} {md:Region.Mode} {T:Bool × List (List Nat × List Nat)} {B:List Nat} {O:List Nat} {b:Nat→Bool} {i j n:Nat}
end
end Go.Proofs.YtipjpdiianopcaaW.fO
end
namespace Go.Proofs.YtipjpdiianopcaaW.dF
open Go.RowKit
theorem Kd.aTo {α:Type} {d:Kd α} {e base:Nat} {ok ok':Nat→Prop} {w:World} {v:Value} {xs:List α} (hd:∀ {ok1 ok2:Nat→Prop} {x:α} {cs:List Value},d.M w base ok1 x cs→d.M w base ok2 x cs) (h:d.R e w base ok v xs) (hok:∀ k,v.ownBlock=some k→ok k→ok' k):d.R e w base ok' v xs:=by
  obtain ⟨h0,inner,hown,hr⟩:=h
  exact ⟨fun k hk=>hok k hk (h0 k hk),inner,hown,hr.JC (fun _ _ hm=>hd hm)⟩
end Go.Proofs.YtipjpdiianopcaaW.dF
namespace Go.Proofs.YtipjpdiianopcaaW.fO
section
variable {ops:Array Oper} {a:Act} {o og:Oper} {g:Nat} {t:Tmp} {u:Bool}
end
end Go.Proofs.YtipjpdiianopcaaW.fO
section
namespace Go.Proofs.YtipjpdiianopcaaW.dF
open Go.RowKit
namespace Kd
section
variable {α:Type} {d:Kd α} {e base g o n cap:Nat} {ok Io:Nat→Prop} {w W:World} {v:Value} {xs:List α}
end
section
variable {α:Type} {enc:α→Value} {h1:∀ x,(enc x).oneCell'=true} {e base g o n cap:Nat} {ok:Nat→Prop} {W:World} {xs:List α}
end
end Kd
end Go.Proofs.YtipjpdiianopcaaW.dF
end
section
namespace Go.Proofs.YtipjpdiianopcaaW.dF
open Go.RowKit
namespace Kd
section
variable {α:Type} {d:Kd α} {e base n cap g:Nat} {ok ok' Io:Nat→Prop} {w w1 W:World} {v v1:Value} {xs ys:List α}
theorem aLJ {rows:List (List Value)} (hR:(raw d.sz).R e w1 base (fun k=>k=W.heap.size) v1 rows) (hg:W.grownBy w1 none) (hat:∃ b,v1.ownBlock=some b∧W.heap.size≤b) (hl:rows.length=xs.length) (hf:∀ (j:Nat) (x:α) (c:List Value),xs[j]?=some x→rows[j]?=some c→FK d W Io x c)
    (hok:∀ k,Io k→ok k) (hfresh:ok W.heap.size):N d e w1 base ok v1 xs:=by
  obtain ⟨b,hb,hle⟩:=hat
  refine ⟨fun k hk=>by rw [hR.1 k hk];exact hfresh,rows,hl,aID hR,fun j x c hx hc=>?_⟩
  refine aBB (aHh (aDj (hf j x c hx hc)) (fun k hk hlt=>hg.block k hlt (by simp))) (fun k hk=>⟨hok k hk.1,fun he=>?_⟩)
  rw [hb] at he
  injection he with he
  have:=hk.2
  omega
end
section
variable {P:Program} {ops:Array Oper} {rest:List Oper} {o:Oper} {a:Act} {Q:Exit→Act→World→Prop} {Kc:Act→World→Prop} {α:Type}
theorem aVU (d:Kd α) {w0 W:World} (base e:Nat) (hgd:o.guard=none) {N':Tmp} (_hd:o.dst=some N') {xs:List α} {inner:List Value} {ok Io:Nat→Prop}
    (hrun:(execOp a.eval o).run P W=.ok (.value (.slice (some ⟨W.heap.size,0,none⟩) xs.length xs.length)) (W.alloc (.cells inner.toArray e)))
    (hrep:kW (FK d W Io) d.sz xs inner) (hok:∀ k,Io k→ok k) (hfresh:ok W.heap.size) (HB:Below base w0 W) (hbase:base≤W.heap.size) (hm:xs.length≤9223372036854775807)
    (h:∀ v1 w1,N d e w1 base ok v1 xs→Below base w0 w1→W.grownBy w1 none→(∃ b,v1.ownBlock=some b∧W.heap.size≤b)→wpList P ops Q rest (a.put o.dst v1) w1) :
    wpList P ops Q (o :: rest) a W:=by
  refine RD (raw d.sz) base e hgd _hd (xs:=chunks d.sz xs.length inner) (inner:=inner) (ok:=fun k=>k=W.heap.size) (Io:=fun _=>False) (by rw [sW];exact hrun) (YZ hrep (fun y c hk=>⟨d.FY (YY hk),d.Ea (YY hk)⟩)) (fun _ hk=>hk.elim) rfl HB hbase (by rw [sW];exact hm) ?_
  intro v1 w1 hr hb hg hat
  exact h v1 w1 (aLJ hr hg hat (sW _ _ _) (fun j y c hy hc=>by rw [MX hc];exact hrep.2 j y hy) hok hfresh) hb hg hat
theorem aD7 (d:Kd α) {w0 W:World} (base e:Nat) (hw:Region.wanted o (yielded ops a.tmps)=true) {N':Tmp} (_hd:o.dst=some N') {xs:List α} {inner:List Value} {ok Io:Nat→Prop}
    (hrun:(execOp a.eval o).run P W=.ok (.value (.slice (some ⟨W.heap.size,0,none⟩) xs.length xs.length)) (W.alloc (.cells inner.toArray e)))
    (hrep:kW (FK d W Io) d.sz xs inner) (hok:∀ k,Io k→ok k) (hfresh:ok W.heap.size) (HB:Below base w0 W) (hbase:base≤W.heap.size) (hm:xs.length≤9223372036854775807)
    (h:∀ v1 w1,N d e w1 base ok v1 xs→Below base w0 w1→W.grownBy w1 none→(∃ b,v1.ownBlock=some b∧W.heap.size≤b)→Kc (a.put o.dst v1) w1) :
    if Region.wanted o (yielded ops a.tmps)=true then Oper.wp P o a W Kc Q else Kc (a.put o.dst undef) W:=by
  refine Qz (raw d.sz) base e hw _hd (xs:=chunks d.sz xs.length inner) (inner:=inner) (ok:=fun k=>k=W.heap.size) (Io:=fun _=>False) (by rw [sW];exact hrun) (YZ hrep (fun y c hk=>⟨d.FY (YY hk),d.Ea (YY hk)⟩)) (fun _ hk=>hk.elim) rfl HB hbase (by rw [sW];exact hm) ?_
  intro v1 w1 hr hb hg hat
  exact h v1 w1 (aLJ hr hg hat (sW _ _ _) (fun j y c hy hc=>by rw [MX hc];exact hrep.2 j y hy) hok hfresh) hb hg hat
end
end Kd
end Go.Proofs.YtipjpdiianopcaaW.dF
end
namespace Go.Proofs.YtipjpdiianopcaaW.jP
open Go.RowKit Go.Proofs.YtipjpdiianopcaaW.dF
namespace Kd
open Go.Proofs.YtipjpdiianopcaaW.dF.Kd
end Kd
namespace Kd
open Go.Proofs.YtipjpdiianopcaaW.dF.Kd
section
variable {α:Type} {d:Kd α} {e base g N:Nat} {ok:Nat→Prop} {W w1:World} {u v:Value} {xs:List α}
end
end Kd
theorem mV (k k':IntKind) (x y:Int):Builtin.max2 (.int k x) (.int k' y)=pure (.int k (if x<y then y else x)):=by simp only [Builtin.max2,gt_iff_lt]
theorem mW (k k':IntKind) (x y:Int):Builtin.min2 (.int k x) (.int k' y)=pure (.int k (if y<x then y else x)):=by simp only [Builtin.min2]
theorem oO (ats:Array TypeId) (ty:TypeId) (a b:Value):Builtin.max_ ats ty #[a,b]=(Builtin.max2 a b >>= fun s=>pure s):=by simp only [Builtin.max_,List.foldlM_cons,List.foldlM_nil]
theorem oP (ats:Array TypeId) (ty:TypeId) (a b:Value):Builtin.min_ ats ty #[a,b]=(Builtin.min2 a b >>= fun s=>pure s):=by simp only [Builtin.min_,List.foldlM_cons,List.foldlM_nil]
theorem lC (ats:Array TypeId) (ty:TypeId) (a b c:Value):Builtin.max_ ats ty #[a,b,c]=(Builtin.max2 a b >>= fun s=>Builtin.max2 s c >>= fun s=>pure s):=by simp only [Builtin.max_,List.foldlM_cons,List.foldlM_nil]
theorem lD (ats:Array TypeId) (ty:TypeId) (a b c:Value):Builtin.min_ ats ty #[a,b,c]=(Builtin.min2 a b >>= fun s=>Builtin.min2 s c >>= fun s=>pure s):=by simp only [Builtin.min_,List.foldlM_cons,List.foldlM_nil]
theorem mX (ats:Array TypeId) (ty:TypeId) (a b c d:Value):Builtin.max_ ats ty #[a,b,c,d]=(Builtin.max2 a b >>= fun s=>Builtin.max2 s c >>= fun s=>Builtin.max2 s d >>= fun s=>pure s):=by simp only [Builtin.max_,List.foldlM_cons,List.foldlM_nil]
theorem mY (ats:Array TypeId) (ty:TypeId) (a b c d:Value):Builtin.min_ ats ty #[a,b,c,d]=(Builtin.min2 a b >>= fun s=>Builtin.min2 s c >>= fun s=>Builtin.min2 s d >>= fun s=>pure s):=by simp only [Builtin.min_,List.foldlM_cons,List.foldlM_nil]
end Go.Proofs.YtipjpdiianopcaaW.jP
namespace Go.Proofs.YtipjpdiianopcaaW.dF
open Go.RowKit
section
variable {P:Program} {ops:Array Oper} {rest:List Oper} {o:Oper} {a:Act} {Q:Exit→Act→World→Prop} {W:World}
theorem cO {f:FuncId} {as:Array Operand} {ts:Array TypeId} (_ho:o.op=.call { callee:=.value (.func f),args:=as,argTypes:=ts }) (h:wpList P ops Q (o :: rest) a W):wpList P ops Q (o :: rest) a W:=h
theorem qM {b:Builtin} {xs:Array Operand} {ts:Array TypeId} (_ho:o.op=.call { callee:=.builtin b,args:=xs,argTypes:=ts }) (h:wpList P ops Q (o :: rest) a W):wpList P ops Q (o :: rest) a W:=h
end
theorem Zm {P:Program} {f:FuncId} {args args':Array Value} {w:World} {Q:Ending→World→Prop} (h:args=args') (hc:Calls P f args' w Q):Calls P f args w Q:=h ▸ hc
def shl (k:IntKind) (x y:Int):Int:=k.wrap (x*2 ^ min y.toNat k.bits)
def shr (k:IntKind) (x y:Int):Int:=x / 2 ^ min y.toNat k.bits
theorem ZN {k:IntKind} {x y j:Int} (h:shl k x y=j) (hy:y≤k.bits):k.wrap (x*2 ^ y.toNat)=j:=by rw [← h];unfold shl;rw [Nat.min_eq_left (by omega)]
theorem aHq {k:IntKind} {x y j:Int} (h:shr k x y=j) (hy:y≤k.bits):x / 2 ^ y.toNat=j:=by rw [← h];unfold shr;rw [Nat.min_eq_left (by omega)]
theorem zT (w:World) (n:Nat):w.drewN n=w.drewN n:=rfl
namespace Kd
section
variable {α:Type} {d:Kd α} {e base:Nat} {ok:Nat→Prop} {W w1:World} {v:Value} {xs:List α}
end
section
variable {α:Type} {d:Kd α} {e base g n cap:Nat} {ok oki Io:Nat→Prop} {W:World} {xs:List α} {i:Int} {c:List Value}
end
section
variable {α:Type} {d:Kd α} {e base b b' g N:Nat} {ok ok1:Nat→Prop} {W W2 w1:World} {u v:Value} {xs ys:List α} {S:Nat→Prop}
end
end Kd
end Go.Proofs.YtipjpdiianopcaaW.dF
namespace Go.Proofs.YtipjpdiianopcaaW.dF
open Go.RowKit
namespace Kd
def V {α:Type} (d:Kd α) (_e:Nat) (W:World) (_base:Nat) (ok:Nat→Prop) (v:Value) (xs:List α):Prop:=∃ A c,v=.slice A xs.length c∧xs.length≤c∧F d W ok A xs.length xs
section
variable {α β:Type} {d:Kd α} {e base base' n m c g N' lo hi:Nat} {ok ok' S:Nat→Prop} {w W w1:World} {A:Option Addr} {ad:Addr} {u v v1:Value} {xs:List α}
theorem TQ (h:V d e W base ok v xs) (hF:∀ A,F d W ok A xs.length xs→F d w1 ok' A xs.length xs):V d e w1 base' ok' v xs:=by
  obtain ⟨A,c,hv,hl,hf⟩:=h
  exact ⟨A,c,hv,hl,hF A hf⟩
theorem aA9 (hl:xs.length≤c) (hf:F d W ok A xs.length xs):V d e W base ok (.slice A xs.length c) xs:=⟨A,c,rfl,hl,hf⟩
theorem aHM (h:V d e W base ok (.slice A n c) xs):n=xs.length∧n≤c∧F d W ok A xs.length xs:=by
  obtain ⟨A',c',hv,hl,hf⟩:=h
  injection hv with ha hn hc
  subst ha;subst hc
  exact ⟨hn,by rw [hn];exact hl,hf⟩
theorem Hy (h:V d e W base ok (.slice A n c) xs):n=xs.length∧n≤c∧d.C W A xs.length xs:=⟨(aHM h).1,(aHM h).2.1,bAH (aHM h).2.2⟩
theorem V_F (h:V d e W base ok (.slice A n c) xs):F d W ok A n xs:=by
  obtain ⟨hn,_,hf⟩:=aHM h
  rw [hn]
  exact hf
theorem KF (d:Kd α) (e:Nat) (W:World) (base:Nat) (ok:Nat→Prop):V d e W base ok (.slice none 0 0) []:=⟨none,0,rfl,Nat.le_refl _,aO_ d W ok⟩
theorem R_V (h:d.R e W base ok v xs):V d e W base' ok v xs:=by
  obtain ⟨A,c,rfl⟩:=iK h
  exact ⟨A,c,rfl,(fM h).2.1,R_F h⟩
theorem Em (h:V d e W base ok v xs) (hok:∀ k,ok k→ok' k):V d e W base ok' v xs:=TQ h (fun _ hf=>aBA hf hok)
theorem Pv (h:V d e W base ok v xs) (hb:Below W.heap.size W w1):V d e w1 base ok v xs:=TQ h (fun _ hf=>FD hf hb)
theorem aOv (h:V d e W base ok v xs) (o:Obj):V d e (W.alloc o) base ok v xs:=TQ h (fun _ hf=>aOo hf o)
theorem aD0 (h:V d e W base ok v xs):V d e W.drew base ok v xs:=TQ h (fun _ hf=>aUl hf)
theorem aOw (h:V d e W base ok v xs) (m:Nat):V d e (W.drewN m) base ok v xs:=TQ h (fun _ hf=>aOp hf m)
theorem Nc (h:V d e W base ok v xs) {p:Addr} (hok:∀ k,ok k→k≠p.block) (u:Value):V d e (W.setCell p u) base ok v xs:=TQ h (fun _ hf=>bAI hf hok u)
theorem aOx (h:V d e W base (fun k=>ok k∧some k≠u.ownBlock) v xs) (hg:W.grownBy w1 u.ownBlock) (hat:v1.ownBlock=u.ownBlock∨∃ b,v1.ownBlock=some b∧W.heap.size≤b):V d e w1 base (fun k=>ok k∧some k≠v1.ownBlock) v xs:=TQ h (fun _ hf=>aOq hf hg hat)
theorem aJM (h:V d e W base (fun k=>ok k∧some k≠v.ownBlock) u xs) (hg:W.grownBy w1 v.ownBlock) (hat:v1.ownBlock=v.ownBlock∨∃ b,v1.ownBlock=some b∧W.heap.size≤b):V d e w1 base (fun k=>ok k∧some k≠v1.ownBlock) u xs:=aOx h hg hat
theorem Ci (h:V d e W base ok v xs) (hbase:∀ k,u.ownBlock=some k→W.heap.size≤k) (hb:Below W.heap.size W w1):V d e w1 base (fun k=>ok k∧some k≠u.ownBlock) v xs:=TQ h (fun _ hf=>aLE hf hbase hb)
theorem KW (h:V d e W base ok v xs) (a:Nat) (ha:W.heap.size≤a):V d e W base (fun k=>ok k∧k≠a) v xs:=TQ h (fun _ hf=>aLF hf a ha)
theorem aSj (h:F d W ok A xs.length xs) (hm:m≤xs.length):F d W ok A (xs.take m).length (xs.take m):=aQE h (fun _ hC=>aBi hC hm)
theorem aWE (h:F d W ok A xs.length xs) (hm:m≤xs.length) (hc:xs.length≤c):F d W ok (if c=m then A else A.map (·.add (m*d.sz))) (xs.drop m).length (xs.drop m):=aQE h (fun _ hC=>aKF hC hm hc)
theorem NY {l:List α} (hl:l.length≤c) (hf:F d W ok A l.length l):FK (Kd.slice e d) W ok l [.slice A l.length c]:=fun W' hW=>⟨A,c,rfl,hl,hf W' hW⟩
theorem Ye {M:Nat→Prop} (h:d.R e w1 W.heap.size ok v xs) (hle:w.heap.size≤W.heap.size) (hM:∀ k,w.heap.size≤k→M k):d.R e w1 W.heap.size (fun k=>M k∧ok k) v xs:=dX (IZ h) (fun k hk=>⟨hM k (Nat.le_trans hle hk.2.1),hk.1⟩)
end
end Kd
end Go.Proofs.YtipjpdiianopcaaW.dF
section
namespace Go.Proofs.YtipjpdiianopcaaW.dF
theorem kW.one {α:Type} {R:α→List Value→Prop} {ps:List α} {cs:List Value} {p:α} {v:Value} (hp:R p [v]) (h:kW R 1 ps cs):kW R 1 (p :: ps) (v :: cs):=by
  refine ⟨by simp [h.1],fun j q hq=>?_⟩
  cases j with
  | zero =>
    simp only [List.getElem?_cons_zero,Option.some.injEq] at hq
    subst hq
    simpa using hp
  | succ j =>
    simp only [List.getElem?_cons_succ] at hq
    have h1:=h.2 j q hq
    simpa [Nat.mul_one] using h1
theorem kW.front {α:Type} {R:α→List Value→Prop} {size:Nat} {ps:List α} {cs c all:List Value} {p:α} (hp:R p c) (hc:c.length=size) (h:kW R size ps cs) (ha:c ++ cs=all):kW R size (p :: ps) all:=by
  subst ha
  refine ⟨by rw [List.length_append,hc,h.1,List.length_cons,Nat.succ_mul,Nat.add_comm],fun j q hq=>?_⟩
  cases j with
  | zero =>
    simp only [List.getElem?_cons_zero,Option.some.injEq] at hq
    subst hq
    rw [Nat.zero_mul,List.drop_zero,List.take_append_of_le_length (by omega),List.take_of_length_le (by omega)]
    exact hp
  | succ j =>
    simp only [List.getElem?_cons_succ] at hq
    have h1:=h.2 j q hq
    rw [Nat.succ_mul,List.drop_append,List.drop_of_length_le (by rw [hc];exact Nat.le_add_left _ _),List.nil_append,hc,Nat.add_sub_cancel]
    exact h1
theorem kW.c2 {α:Type} {R:α→List Value→Prop} {ps:List α} {cs:List Value} {p:α} {va vb:Value} (hp:R p [va,vb]) (h:kW R 2 ps cs):kW R 2 (p :: ps) (va :: vb :: cs):=kW.front hp rfl h rfl
theorem kW.c3 {α:Type} {R:α→List Value→Prop} {ps:List α} {cs:List Value} {p:α} {va vb vc:Value} (hp:R p [va,vb,vc]) (h:kW R 3 ps cs):kW R 3 (p :: ps) (va :: vb :: vc :: cs):=kW.front hp rfl h rfl
theorem kW.c4 {α:Type} {R:α→List Value→Prop} {ps:List α} {cs:List Value} {p:α} {va vb vc vd:Value} (hp:R p [va,vb,vc,vd]) (h:kW R 4 ps cs):kW R 4 (p :: ps) (va :: vb :: vc :: vd :: cs):=kW.front hp rfl h rfl
theorem kW.c5 {α:Type} {R:α→List Value→Prop} {ps:List α} {cs:List Value} {p:α} {va vb vc vd ve:Value} (hp:R p [va,vb,vc,vd,ve]) (h:kW R 5 ps cs):kW R 5 (p :: ps) (va :: vb :: vc :: vd :: ve :: cs):=kW.front hp rfl h rfl
theorem kW.c6 {α:Type} {R:α→List Value→Prop} {ps:List α} {cs:List Value} {p:α} {va vb vc vd ve vf:Value} (hp:R p [va,vb,vc,vd,ve,vf]) (h:kW R 6 ps cs):kW R 6 (p :: ps) (va :: vb :: vc :: vd :: ve :: vf :: cs):=kW.front hp rfl h rfl
theorem kW.c7 {α:Type} {R:α→List Value→Prop} {ps:List α} {cs:List Value} {p:α} {va vb vc vd ve vf vg:Value} (hp:R p [va,vb,vc,vd,ve,vf,vg]) (h:kW R 7 ps cs):kW R 7 (p :: ps) (va :: vb :: vc :: vd :: ve :: vf :: vg :: cs):=kW.front hp rfl h rfl
theorem kW.c8 {α:Type} {R:α→List Value→Prop} {ps:List α} {cs:List Value} {p:α} {va vb vc vd ve vf vg vh:Value} (hp:R p [va,vb,vc,vd,ve,vf,vg,vh]) (h:kW R 8 ps cs):kW R 8 (p :: ps) (va :: vb :: vc :: vd :: ve :: vf :: vg :: vh :: cs):=kW.front hp rfl h rfl
theorem kW.c9 {α:Type} {R:α→List Value→Prop} {ps:List α} {cs:List Value} {p:α} {va vb vc vd ve vf vg vh vi:Value} (hp:R p [va,vb,vc,vd,ve,vf,vg,vh,vi]) (h:kW R 9 ps cs):kW R 9 (p :: ps) (va :: vb :: vc :: vd :: ve :: vf :: vg :: vh :: vi :: cs):=kW.front hp rfl h rfl
theorem kW.c10 {α:Type} {R:α→List Value→Prop} {ps:List α} {cs:List Value} {p:α} {va vb vc vd ve vf vg vh vi vj:Value} (hp:R p [va,vb,vc,vd,ve,vf,vg,vh,vi,vj]) (h:kW R 10 ps cs):kW R 10 (p :: ps) (va :: vb :: vc :: vd :: ve :: vf :: vg :: vh :: vi :: vj :: cs):=kW.front hp rfl h rfl
end Go.Proofs.YtipjpdiianopcaaW.dF
end
namespace Go.Proofs.YtipjpdiianopcaaW.dF
open Go.ChangeShapes Go.WideShapes
theorem sized_ints {H:Type} {enc:TypeId × Value→H} {P:Program} {W:World} {base:Nat} {spare:Nat→Bool} {held:Bool} {t e:TypeId} {k:IntKind} {a:Option Addr} {len cap:Nat} {d:DataW H} {ps:List MemPlace} {ts:List TypeId} {ds:List (DataW H)} {j:Nat}
    (hsz:(DataW.weightsEach P ts ds).all (·≤reachBytes)=true) (ht:ts[j]?=some t) (hd:ds[j]?=some d) (hu:P.underlying t=some (.slice e)) (he:P.underlying e=some (.int k)) (hc:P.cellsOf e=1) {B:Nat} (hB:P.bytesOf e=B)
    (h:DataW.Trod enc P W base spare held t (.slice a len cap) d ps):len*B≤140737488351232:=by
  obtain ⟨fuel,hf⟩:=h
  rcases open_ints hu he hc hf with ⟨hcs,_⟩|⟨x,l,c,zs,hcs,_,hl,_,hz,hx,_,_⟩
  · simp [Value.cells] at hcs
    obtain ⟨rfl,rfl,rfl⟩:=hcs
    simp
  · simp [Value.cells] at hcs
    obtain ⟨rfl,rfl,rfl⟩:=hcs
    obtain ⟨hx,_⟩:=Prod.mk.inj hx
    subst hx
    have z:=sized_slice hsz ht hd hu
    rw [hB] at z
    have hl2:len≤zs.length:=by
      rw [hz]
      split
      · exact hl
      · exact Nat.le_refl _
    have h1:(lits (H:=H) k (zs.take len)).length+(lits (H:=H) k (zs.drop len)).length=zs.length:=by
      simp [lits]
      omega
    rw [h1] at z
    exact Nat.le_trans (Nat.mul_le_mul_right _ hl2) z
end Go.Proofs.YtipjpdiianopcaaW.dF
namespace Go.Proofs.Ytipjpdiianopcaa
open Go.RowKit Go.Proofs.YtipjpdiianopcaaW.dF Go.Proofs.YtipjpdiianopcaaW.fO Go.Proofs.YtipjpdiianopcaaW.jP
theorem aH {p q:Prop} (a:p) (h:p→q:=by intro h;(with_reducible repeat (first|refine PI ?_ _|refine dY ?_|refine fU ?_ _));exact h):q:=h a
theorem bH {p q:Prop} (a:p) (h:p→q:=by intro h;(with_reducible repeat (first|apply Kd.MM|apply Kd.aOy|apply Kd.qG));exact h):q:=h a
theorem vM {p q:Prop} (a:p) (h:p→q:=by intro h;(with_reducible repeat (first|apply Kd.aOs|apply Kd.aOt|apply Kd.aUm));exact h):q:=h a
theorem Ce {p q:Prop} (a:p) (h:p→q:=by intro h;(with_reducible repeat (first|apply Kd.aOv|apply Kd.aOw|apply Kd.aD0));exact h):q:=h a
theorem bKJ {p q:Prop} (a:p) (h:p→q:=by intro h;(with_reducible repeat (first|apply Kd.bEt|apply Kd.bEu|apply Kd.bIr));exact h):q:=h a
theorem bKK {p q:Prop} (a:p) (h:p→q:=by intro h;(with_reducible repeat (first|apply Kd.fG|apply Kd.fC|apply Kd.gJ));exact h):q:=h a
theorem bKL {p q:Prop} (a:p) (h:p→q:=by intro h;(with_reducible repeat (first|apply Kd.bEv|apply Kd.bEw|apply Kd.bIs));exact h):q:=h a
theorem fP {p:Prop} (h:p:=by (try simp only [List.map_toArray,List.map_cons,List.map_nil]);first|done|rfl|(simp only [List.length_drop,List.length_take];rfl)):p:=h
theorem dW {p:Prop} (h:p:=by first|(with_reducible assumption)|assumption):p:=h
theorem gV {p:Prop} (h:p:=by first|rfl|(simp;done)|(simp [*];done)):p:=h
theorem aQ {p:Prop} (h:p:=by kernel_rfl):p:=h
theorem bKM {p:Prop} (h:p:=by first|rfl|(simp [bK,bM] <;> rfl)|(simp [*,bK,bM] <;> rfl)):p:=h
theorem bKN {p:Prop} (h:p:=by repeat (first|exact gQ.refl _|apply gQ.step)):p:=h
theorem bME {p:Prop} (h:p:=by first|omega|exact Nat.le_refl _):p:=h
theorem bG {p q r:Prop} (b:q) (a:p:=by rfl):(p∧q)∨r:=Or.inl ⟨a,b⟩
theorem aX:(∀ (l:List Value) (i:Nat) (a:Value),l.toArray.setIfInBounds i a=(l.set i a).toArray)∧(∀ (x a:Value) (l:List Value),(x :: l).set 0 a=a :: l)∧(∀ (x a:Value) (l:List Value) (i:Nat),(x :: l).set (i+1) a=x :: l.set i a)∧(∀ n:Int,IntKind.i64.wrap n=Go.RowKit.wrap64 n)∧(∀ n:Int,IntKind.i32.wrap n=Go.RowKit.wrap32 n):=⟨fun _ _ _=>List.setIfInBounds_toArray ..,fun _ _ _=>List.set_cons_zero ..,fun _ _ _ _=>List.set_cons_succ ..,nX,tY⟩
theorem dG {p q:Prop} (b:p) (h:p→q:=by intro b;repeat (first|(with_reducible first|exact b|apply iR|apply nV|apply fZ)|exact b)):q:=h b
theorem bV {p q s0:Prop} (b:p) (x0:s0) (h:p→s0→q:=by intro b x0;repeat (first|(with_reducible first|exact b|apply iR|apply nV|apply fZ|refine iO ?_ x0)|exact b)):q:=h b x0
theorem dK {p q s0 s1:Prop} (b:p) (x0:s0) (x1:s1) (h:p→s0→s1→q:=by intro b x0 x1;repeat (first|(with_reducible first|exact b|apply iR|apply nV|apply fZ|refine iO ?_ x0|refine iO ?_ x1)|exact b)):q:=h b x0 x1
theorem eG {p q s0 s1 s2:Prop} (b:p) (x0:s0) (x1:s1) (x2:s2) (h:p→s0→s1→s2→q:=by intro b x0 x1 x2;repeat (first|(with_reducible first|exact b|apply iR|apply nV|apply fZ|refine iO ?_ x0|refine iO ?_ x1|refine iO ?_ x2)|exact b)):q:=h b x0 x1 x2
theorem oD {p q s0 s1 s2 s3:Prop} (b:p) (x0:s0) (x1:s1) (x2:s2) (x3:s3) (h:p→s0→s1→s2→s3→q:=by intro b x0 x1 x2 x3;repeat (first|(with_reducible first|exact b|apply iR|apply nV|apply fZ|refine iO ?_ x0|refine iO ?_ x1|refine iO ?_ x2|refine iO ?_ x3)|exact b)):q:=h b x0 x1 x2 x3
theorem UN {p q s0 s1 s2 s3 s4:Prop} (b:p) (x0:s0) (x1:s1) (x2:s2) (x3:s3) (x4:s4) (h:p→s0→s1→s2→s3→s4→q:=by intro b x0 x1 x2 x3 x4;repeat (first|(with_reducible first|exact b|apply iR|apply nV|apply fZ|refine iO ?_ x0|refine iO ?_ x1|refine iO ?_ x2|refine iO ?_ x3|refine iO ?_ x4)|exact b)):q:=h b x0 x1 x2 x3 x4
theorem aKs {p q s0 s1 s2 s3 s4 s5:Prop} (b:p) (x0:s0) (x1:s1) (x2:s2) (x3:s3) (x4:s4) (x5:s5) (h:p→s0→s1→s2→s3→s4→s5→q:=by intro b x0 x1 x2 x3 x4 x5;repeat (first|(with_reducible first|exact b|apply iR|apply nV|apply fZ|refine iO ?_ x0|refine iO ?_ x1|refine iO ?_ x2|refine iO ?_ x3|refine iO ?_ x4|refine iO ?_ x5)|exact b)):q:=h b x0 x1 x2 x3 x4 x5
theorem JF:type_of% @List.setIfInBounds_toArray:=@List.setIfInBounds_toArray
theorem Gf:type_of% @List.set_cons_zero:=@List.set_cons_zero
theorem Jh:type_of% @List.set_cons_succ:=@List.set_cons_succ
theorem dU:type_of% @of_decide_eq_true:=@of_decide_eq_true
theorem dM:type_of% @World.block_lt_of_cell?:=@World.block_lt_of_cell?
theorem fB:type_of% @decide_eq_true:=@decide_eq_true
theorem aLd:type_of% @beq_eq_false_iff_ne:=@beq_eq_false_iff_ne
theorem bAB:type_of% @bne_eq_false_iff_eq:=@bne_eq_false_iff_eq
theorem bKO:type_of% @Option.bind_eq_some_iff:=@Option.bind_eq_some_iff
theorem kT:type_of% @decide_eq_false:=@decide_eq_false
theorem Fq:type_of% @List.length_take:=@List.length_take
theorem Dw:type_of% @List.length_drop:=@List.length_drop
theorem Nr:type_of% @List.getElem?_eq_getElem:=@List.getElem?_eq_getElem
theorem oQ:type_of% @World.drewN_drewN:=@World.drewN_drewN
end Go.Proofs.Ytipjpdiianopcaa
