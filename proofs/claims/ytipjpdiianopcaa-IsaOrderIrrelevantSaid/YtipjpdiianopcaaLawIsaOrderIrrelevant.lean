/- The row of the law IsaOrderIrrelevant, out of its plain statement and its walk. -/
import Derived.Test.YtipjpdiianopcaaRows
import Derived.Test.YtipjpdiianopcaaCo
import Derived.Test.YtipjpdiianopcaaPureIsaOrderIrrelevant
import Derived.Test.YtipjpdiianopcaaK1
import Derived.Test.YtipjpdiianopcaaK2
import Derived.Test.YtipjpdiianopcaaK3
import Derived.Test.YtipjpdiianopcaaCrow
import Derived.JoinedOf
import Derived.KernelRfl
import Derived.WalkKit
import Derived.ProofKit
import Derived.OpenShut
import Derived.ShutString
import Derived.ChangeOld
import Derived.Below
import Derived.SizedLaws
import Derived.Test.YtipjpdiianopcaaWM
namespace Go.Proofs.Ytipjpdiianopcaa.isaOrderIrrelevant
open Go.ChangeShapes Go.WideShapes Go.ChangeAt Go.RowKit
open Go.ChangeMaps (open_string shut_string)
open Go.Proofs.YtipjpdiianopcaaW.PrintWords
set_option linter.unusedVariables false
theorem own : ownKnob Try.prog.godebug = none := by kernel_rfl
theorem laidOut : laidOutB Try.prog = true := by kernel_rfl
def IsRow (k : IntKind) (w : World) (a : Option Addr) (len cap : Nat) (zs : List Int) : Prop :=
  (a = none ∧ len = 0 ∧ cap = 0 ∧ zs = []) ∨
  ∃ x, a = some x ∧ len ≤ cap ∧ cap ≤ maxLen ∧ zs.length = cap ∧ (∀ i, i < zs.length → w.cell? (x.add i) = some (.int k (zs.getD i 0))) ∧ ∀ n ∈ zs, (Lit.int k n).wf = true
set_option maxRecDepth 100000 in
theorem lifted (os : Os) (started : os.Started) (H : Type) (enc : TypeId × Value → H) :
    ReturnsInHanded {} Try.checked os 11 .any (Rows.isaOrderIrrelevantSpec.pre6 enc Try.prog Try.f11 Rows.isaOrderIrrelevantRow.domain false) (Rows.isaOrderIrrelevantSpec.post enc Try.prog Try.f11 false true false false) := by
  refine returnsInHanded_of_change_sized (C := Try.checked) own started (by kernel_rfl) Try.func11
    (ChangeSpec.witness6 (enc := enc) (C := Try.checked) false ⟨#[], #[.slice none 0 0], []⟩ 8 (by kernel_rfl) (by kernel_rfl) (by kernel_rfl) (by kernel_rfl)) ?_
  intro W base args ds gs before hval0 hW hcnd hsz0 _
  have hsz : (DataW.weightsEach Try.prog (Try.f11.params.toList ++ Rows.isaOrderIrrelevantSpec.plain.varTypes Try.prog) (ds ++ gs)).all (· ≤ reachBytes) = true := hsz0
  have hval : ∀ (j : Nat) t v, Try.f11.params[j]? = some t → args[j]? = some v → Value.okWide Try.prog W .any base t v := hval0
  have hW' := hW
  obtain ⟨p, q, hA0, hV, rfl, hfz, hnd⟩ := hW
  have hA : DataW.TrodAll enc Try.prog W 0 (fun _ => true) true Try.f11.params.toList args.toList ds p := hA0
  rw [Try.params11] at hA hval hsz
  obtain ⟨v0, vs0, d0, ds0, p0, q0, hargs, rfl, rfl, h0, r0⟩ := trodAll_cons hA
  obtain ⟨rfl, rfl, rfl⟩ := trodAll_nil r0
  obtain rfl : args = #[v0] := by cases args; simp_all
  obtain ⟨rfl, rfl⟩ := trodVars_none hV
  obtain ⟨a0, len0, cap0, rfl⟩ := okWide_slice Try.underlying47 (hval 0 47 v0 rfl rfl)
  have k0 := h0
  have lt0 : ∀ x ∈ p0, x.block < W.heap.size := by obtain ⟨m, hm⟩ := k0; exact DataW.trod_lt m _ _ _ hm
  have hz0 : ∀ n ∈ d0.weights Try.prog 47, n ≤ 140737488351232 := fun n hn => of_decide_eq_true (List.all_eq_true.1 hsz n (DataW.weights_mem_each (j := 0) rfl rfl n hn))
  obtain ⟨l0, rfl, hr0, hc0, hm0, hwf0, hq0⟩ : ∃ l : List A.S54, len0 = l.length ∧ Kd.C A.k54 W a0 l.length l ∧ l.length ≤ cap0 ∧ l.length ≤ maxLen ∧ (∀ f ∈ l, Crow.WfForm f) ∧ ((∀ n ∈ d0.weights Try.prog 47, n ≤ 140737488351232) → l.length * 48 ≤ 140737488351232 ∧ ∀ f ∈ l, Crow.SzForm f) := by
    obtain ⟨fuel, hf⟩ := h0
    exact Crow.forms_row hf
  clear hA0 hval0 hsz0 hsz
  obtain ⟨k, hf⟩ := Pure.IsaOrderIrrelevant l0 hwf0 (hq0 hz0).1 (hq0 hz0).2
  refine (Co.linkhouselaw1_IsaOrderIrrelevant.calls k _ _ l0 true W hr0 hc0 rfl hf).mono fun e W' ⟨he, bel⟩ => ?_
  subst he
  exact ⟨_, rfl, _, _, _, [], _, [], hW', trodAll_mk1 (shut_bool Try.underlying4 _), (trodAll_cons_mk (Below.trod laidOut (by kernel_rfl) (of_decide_eq_true (by kernel_rfl)) k0 bel lt0) trodAll_mk0), rfl, bel.frame _, fun h => by cases h⟩
theorem cf0 : (Rows.isaOrderIrrelevantRow.wf (OpenSpec.ofChange Rows.isaOrderIrrelevantSpec)) = true := by kernel_rfl
theorem cf1 : (laidOutB Try.prog) = true := by kernel_rfl
theorem cf2 : (mapsRowed Try.prog) = true := by kernel_rfl
theorem cf3 : (Try.f11.params.all (Try.prog.readableRec ·)) = true := by kernel_rfl
theorem cf4 : (namedTie Try.prog Rows.isaOrderIrrelevantRow.named Rows.isaOrderIrrelevantSpec.vars) = true := by kernel_rfl
theorem cf5 : ((Rows.isaOrderIrrelevantRow.stops == [])) = true := by kernel_rfl
theorem cf6 : ((Try.prog.stops == [])) = true := by kernel_rfl
theorem cf7 : ((Rows.isaOrderIrrelevantRow.knobs == [])) = true := by kernel_rfl
theorem cf8 : ((Try.prog.stopKnobs == [])) = true := by kernel_rfl
theorem cf9 : ((Rows.isaOrderIrrelevantRow.inPlace == Try.prog.inPlace 11)) = true := by kernel_rfl
theorem cf10 : ((Rows.isaOrderIrrelevantRow.unfollowed == Try.prog.unfollowed 11)) = true := by kernel_rfl
theorem cf11 : ((Rows.isaOrderIrrelevantRow.recurses == Try.prog.recurses 11)) = true := by kernel_rfl
theorem cf12 : ((Rows.isaOrderIrrelevantRow.named == Try.prog.varsNamed 11)) = true := by kernel_rfl
theorem cf13 : ((Rows.isaOrderIrrelevantRow.maps == (Try.f11.params.toList ++ Rows.isaOrderIrrelevantSpec.plain.varTypes Try.prog).any (Try.prog.mapsRec ·))) = true := by kernel_rfl
theorem cf14 : ((Rows.isaOrderIrrelevantRow.ifaces == (Try.f11.params.toList ++ Rows.isaOrderIrrelevantSpec.plain.varTypes Try.prog).any (Try.prog.ifacesRec ·))) = true := by kernel_rfl
theorem cf15 : ((Rows.isaOrderIrrelevantRow.mapsOut == Try.prog.mapsAmong Try.f11.resultTypes.toList)) = true := by kernel_rfl
theorem cf16 : ((Rows.isaOrderIrrelevantRow.loops == (Try.f11.params.toList ++ Rows.isaOrderIrrelevantSpec.plain.varTypes Try.prog).any (Try.prog.loopsFrom ·))) = true := by kernel_rfl
theorem cf17 : ((Rows.isaOrderIrrelevantRow.wideKeys == (Try.f11.params.toList ++ Rows.isaOrderIrrelevantSpec.plain.varTypes Try.prog ++ Try.f11.resultTypes.toList).any (Try.prog.wideKeysFrom ·))) = true := by kernel_rfl
theorem cf18 : (Rows.isaOrderIrrelevantSpec.vars.all (Try.prog.varReadable ·)) = true := by kernel_rfl
theorem cf19 : (Try.f11.resultTypes.all (fun t => Try.prog.readableRec t && decide (t < Try.prog.types.size))) = true := by kernel_rfl
theorem cf20 : ((Rows.isaOrderIrrelevantRow.ifacesOut == Try.f11.resultTypes.toList.any (Try.prog.ifacesRec ·))) = true := by kernel_rfl
theorem cf21 : ((Rows.isaOrderIrrelevantRow.loopsOut == Try.f11.resultTypes.toList.any (Try.prog.loopsFrom ·))) = true := by kernel_rfl
theorem cf22 : ((Rows.isaOrderIrrelevantRow.plainKeys == Try.prog.plainKeys)) = true := by kernel_rfl
theorem cf23 : (Rows.isaOrderIrrelevantRow.shortTexts.isNone) = true := by kernel_rfl
theorem cf24 : (Try.prog.stopsHeard) = true := by kernel_rfl
theorem cf25 : (Try.prog.mayEnter) = true := K.mayEnter
theorem cf26 : ((Rows.isaOrderIrrelevantRow.lifted == Try.prog.liftsFinal)) = true := K.lifted
theorem cf27 : ((Try.prog.make == some Rows.isaOrderIrrelevantRow.make)) = true := K.made
theorem cf28 : ((Rows.isaOrderIrrelevantRow.kinds == (if Rows.isaOrderIrrelevantRow.domain.isEmpty then [] else Try.f11.params.toList.map fun t => match Try.prog.underlying t with | some (.int k) => some k | _ => none))) = true := by kernel_rfl
theorem cf29 : ((Rows.isaOrderIrrelevantRow.pinned == Rows.isaOrderIrrelevantRow.pinnedBy)) = true := by kernel_rfl
theorem cf30 : ((Rows.isaOrderIrrelevantRow.veiled == (Try.f11.params.toList ++ Rows.isaOrderIrrelevantSpec.plain.varTypes Try.prog ++ Try.f11.resultTypes.toList).any (Try.prog.veiledRec ·))) = true := by kernel_rfl
theorem cf31 : (Rows.isaOrderIrrelevantRow.veiledFits Try.prog Try.f11.params.toList (Try.f11.params.toList ++ Rows.isaOrderIrrelevantSpec.plain.varTypes Try.prog ++ Try.f11.resultTypes.toList)) = true := by kernel_rfl
set_option maxRecDepth 100000 in
theorem joined : joinedFacts Try.prog 11 Try.f11 Rows.isaOrderIrrelevantSpec Rows.isaOrderIrrelevantRow = true := by
  unfold joinedFacts
  exact (Bool.and_eq_true_iff.2 ⟨(Bool.and_eq_true_iff.2 ⟨(Bool.and_eq_true_iff.2 ⟨(Bool.and_eq_true_iff.2 ⟨(Bool.and_eq_true_iff.2 ⟨(Bool.and_eq_true_iff.2 ⟨(Bool.and_eq_true_iff.2 ⟨(Bool.and_eq_true_iff.2 ⟨(Bool.and_eq_true_iff.2 ⟨(Bool.and_eq_true_iff.2 ⟨(Bool.and_eq_true_iff.2 ⟨(Bool.and_eq_true_iff.2 ⟨(Bool.and_eq_true_iff.2 ⟨(Bool.and_eq_true_iff.2 ⟨(Bool.and_eq_true_iff.2 ⟨(Bool.and_eq_true_iff.2 ⟨(Bool.and_eq_true_iff.2 ⟨(Bool.and_eq_true_iff.2 ⟨(Bool.and_eq_true_iff.2 ⟨(Bool.and_eq_true_iff.2 ⟨(Bool.and_eq_true_iff.2 ⟨(Bool.and_eq_true_iff.2 ⟨(Bool.and_eq_true_iff.2 ⟨(Bool.and_eq_true_iff.2 ⟨(Bool.and_eq_true_iff.2 ⟨(Bool.and_eq_true_iff.2 ⟨(Bool.and_eq_true_iff.2 ⟨(Bool.and_eq_true_iff.2 ⟨(Bool.and_eq_true_iff.2 ⟨(Bool.and_eq_true_iff.2 ⟨(Bool.and_eq_true_iff.2 ⟨cf0, cf1⟩), cf2⟩), cf3⟩), cf4⟩), cf5⟩), cf6⟩), cf7⟩), cf8⟩), cf9⟩), cf10⟩), cf11⟩), cf12⟩), cf13⟩), cf14⟩), cf15⟩), cf16⟩), cf17⟩), cf18⟩), cf19⟩), cf20⟩), cf21⟩), cf22⟩), cf23⟩), cf24⟩), cf25⟩), cf26⟩), cf27⟩), cf28⟩), cf29⟩), cf30⟩), cf31⟩)
theorem inst : Try.f11.isInstance Try.prog Rows.isaOrderIrrelevantRow.origin Rows.isaOrderIrrelevantRow.targs := of_decide_eq_true (by kernel_rfl)
theorem nmain : ¬ (Check.packageOf Try.f11.name = "main") := of_decide_eq_false (by kernel_rfl)
theorem wrapper : Try.f11.isWrapper Try.prog Rows.isaOrderIrrelevantRow.wrapper Rows.isaOrderIrrelevantRow.mainSum := by
  unfold Func.isWrapper
  rw [if_neg nmain]; exact ⟨rfl, rfl⟩
theorem over : Rows.isaOrderIrrelevantRow.holds Try.pinned (OpenSpec.ofChange Rows.isaOrderIrrelevantSpec) :=
  OpenClaim.holds_of_wide 11 Try.f11 rfl rfl rfl rfl rfl rfl rfl ⟨rfl, rfl, rfl, rfl, rfl⟩ rfl rfl rfl rfl rfl (by kernel_rfl) Try.func11 joined inst wrapper
    (fun os started H enc _ => lifted os started H enc)
theorem proved : Rows.IsaOrderIrrelevantSaid := over
#print axioms proved
end Go.Proofs.Ytipjpdiianopcaa.isaOrderIrrelevant
namespace Go.Proofs.Ytipjpdiianopcaa
/-- The row, under a short name, for the claim. -/
theorem isaOrderIrrelevant_holds : Rows.IsaOrderIrrelevantSaid := isaOrderIrrelevant.proved
end Go.Proofs.Ytipjpdiianopcaa
