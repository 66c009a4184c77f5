/- Functions of the program as plain Lean functions, each with a proof that the call of the Go function answers as it does. -/
import Derived.Test.YtipjpdiianopcaaRows
import Derived.Test.YtipjpdiianopcaaBx6
import Derived.Test.YtipjpdiianopcaaPureCodecTextUnique
import Derived.Test.YtipjpdiianopcaaK1
import Derived.Test.YtipjpdiianopcaaK2
import Derived.Test.YtipjpdiianopcaaK3
import Derived.JoinedOf
import Derived.KernelRfl
import Derived.WalkKit
import Derived.ProofKit
import Derived.OpenShut
import Derived.ShutString
import Derived.ChangeOld
import Derived.Below
import Derived.SizedLaws
import Derived.Test.YtipjpdiianopcaaWSized
namespace Go.Proofs.Ytipjpdiianopcaa.codecTextUnique
open Go.ChangeShapes Go.WideShapes Go.ChangeAt Go.RowKit
open Go.ChangeMaps (open_string shut_string)
set_option linter.unusedVariables false
theorem own : ownKnob Try.prog.godebug = none := by kernel_rfl
theorem laidOut : laidOutB Try.prog = true := by kernel_rfl
def IsRow (k : IntKind) (w : World) (a : Option Addr) (len cap : Nat) (zs : List Int) : Prop :=
  (a = none ∧ len = 0 ∧ cap = 0 ∧ zs = []) ∨
  ∃ x, a = some x ∧ len ≤ cap ∧ cap ≤ maxLen ∧ zs.length = cap ∧ (∀ i, i < zs.length → w.cell? (x.add i) = some (.int k (zs.getD i 0))) ∧ ∀ n ∈ zs, (Lit.int k n).wf = true
set_option maxRecDepth 100000 in
theorem lifted (os : Os) (started : os.Started) (H : Type) (enc : TypeId × Value → H) :
    ReturnsInHanded {} Try.checked os 6 .any (Rows.codecTextUniqueSpec.pre6 enc Try.prog Try.f6 Rows.codecTextUniqueRow.domain false) (Rows.codecTextUniqueSpec.post enc Try.prog Try.f6 false true false false) := by
  refine returnsInHanded_of_change_sized (C := Try.checked) own started (by kernel_rfl) Try.func6
    (ChangeSpec.witness6 (enc := enc) (C := Try.checked) false ⟨#[], #[.slice none 0 0], []⟩ 8 (by kernel_rfl) (by kernel_rfl) (by kernel_rfl) (by kernel_rfl)) ?_
  intro W base args ds gs before hval0 hW hcnd hsz0 _
  have hsz : (DataW.weightsEach Try.prog (Try.f6.params.toList ++ Rows.codecTextUniqueSpec.plain.varTypes Try.prog) (ds ++ gs)).all (· ≤ reachBytes) = true := hsz0
  have hval : ∀ (j : Nat) t v, Try.f6.params[j]? = some t → args[j]? = some v → Value.okWide Try.prog W .any base t v := hval0
  have hW' := hW
  obtain ⟨p, q, hA0, hV, rfl, hfz, hnd⟩ := hW
  have hA : DataW.TrodAll enc Try.prog W 0 (fun _ => true) true Try.f6.params.toList args.toList ds p := hA0
  rw [Try.params6] at hA hval hsz
  obtain ⟨v0, vs0, d0, ds0, p0, q0, hargs, rfl, rfl, h0, r0⟩ := trodAll_cons hA
  obtain ⟨rfl, rfl, rfl⟩ := trodAll_nil r0
  obtain rfl : args = #[v0] := by cases args; simp_all
  obtain ⟨rfl, rfl⟩ := trodVars_none hV
  obtain ⟨a0, len0, cap0, rfl⟩ := okWide_slice Try.underlying25 (hval 0 25 v0 rfl rfl)
  have k0 := h0
  have lt0 : ∀ x ∈ p0, x.block < W.heap.size := by obtain ⟨m, hm⟩ := k0; exact DataW.trod_lt m _ _ _ hm
  obtain ⟨z0, w0⟩ : ∃ zs, IsRow .u8 W a0 len0 cap0 zs := by
    obtain ⟨fuel, hf⟩ := h0
    rcases open_ints Try.underlying25 Try.underlying5 (by kernel_rfl) hf with ⟨hcs, _⟩ | ⟨x, l, c, zs, hcs, _, hl, hm, hz, _, hcell, hwz⟩
    · simp [Value.cells] at hcs
      obtain ⟨rfl, rfl, rfl⟩ := hcs
      exact ⟨[], .inl ⟨rfl, rfl, rfl, rfl⟩⟩
    · simp [Value.cells] at hcs
      obtain ⟨rfl, rfl, rfl⟩ := hcs
      exact ⟨zs, .inr ⟨_, rfl, hl, hm, by simpa using hz, hcell, hwz⟩⟩
  have y0 : len0 * 1 ≤ 140737488351232 := Go.Proofs.YtipjpdiianopcaaW.PrintWords.sized_ints hsz (j := 0) (t := 25) rfl rfl Try.underlying25 Try.underlying5 (by kernel_rfl) (by kernel_rfl) h0
  clear hA0 hval0 hsz0 hsz
  refine (B.linkhouselaw1_CodecTextUnique.walk Pure.CodecTextUnique a0 len0 cap0 z0 W w0 y0).mono fun e W' ⟨he, bel⟩ => ?_
  subst he
  exact ⟨_, rfl, _, _, _, [], _, [], hW', trodAll_mk1 (shut_bool Try.underlying4 _), (trodAll_cons_mk (Below.trod laidOut (by kernel_rfl) (of_decide_eq_true (by kernel_rfl)) k0 bel lt0) trodAll_mk0), rfl, bel.frame _, fun h => by cases h⟩
theorem cf0 : (Rows.codecTextUniqueRow.wf (OpenSpec.ofChange Rows.codecTextUniqueSpec)) = true := by kernel_rfl
theorem cf1 : (laidOutB Try.prog) = true := by kernel_rfl
theorem cf2 : (mapsRowed Try.prog) = true := by kernel_rfl
theorem cf3 : (Try.f6.params.all (Try.prog.readableRec ·)) = true := by kernel_rfl
theorem cf4 : (namedTie Try.prog Rows.codecTextUniqueRow.named Rows.codecTextUniqueSpec.vars) = true := by kernel_rfl
theorem cf5 : ((Rows.codecTextUniqueRow.stops == [])) = true := by kernel_rfl
theorem cf6 : ((Try.prog.stops == [])) = true := by kernel_rfl
theorem cf7 : ((Rows.codecTextUniqueRow.knobs == [])) = true := by kernel_rfl
theorem cf8 : ((Try.prog.stopKnobs == [])) = true := by kernel_rfl
theorem cf9 : ((Rows.codecTextUniqueRow.inPlace == Try.prog.inPlace 6)) = true := by kernel_rfl
theorem cf10 : ((Rows.codecTextUniqueRow.unfollowed == Try.prog.unfollowed 6)) = true := by kernel_rfl
theorem cf11 : ((Rows.codecTextUniqueRow.recurses == Try.prog.recurses 6)) = true := by kernel_rfl
theorem cf12 : ((Rows.codecTextUniqueRow.named == Try.prog.varsNamed 6)) = true := by kernel_rfl
theorem cf13 : ((Rows.codecTextUniqueRow.maps == (Try.f6.params.toList ++ Rows.codecTextUniqueSpec.plain.varTypes Try.prog).any (Try.prog.mapsRec ·))) = true := by kernel_rfl
theorem cf14 : ((Rows.codecTextUniqueRow.ifaces == (Try.f6.params.toList ++ Rows.codecTextUniqueSpec.plain.varTypes Try.prog).any (Try.prog.ifacesRec ·))) = true := by kernel_rfl
theorem cf15 : ((Rows.codecTextUniqueRow.mapsOut == Try.prog.mapsAmong Try.f6.resultTypes.toList)) = true := by kernel_rfl
theorem cf16 : ((Rows.codecTextUniqueRow.loops == (Try.f6.params.toList ++ Rows.codecTextUniqueSpec.plain.varTypes Try.prog).any (Try.prog.loopsFrom ·))) = true := by kernel_rfl
theorem cf17 : ((Rows.codecTextUniqueRow.wideKeys == (Try.f6.params.toList ++ Rows.codecTextUniqueSpec.plain.varTypes Try.prog ++ Try.f6.resultTypes.toList).any (Try.prog.wideKeysFrom ·))) = true := by kernel_rfl
theorem cf18 : (Rows.codecTextUniqueSpec.vars.all (Try.prog.varReadable ·)) = true := by kernel_rfl
theorem cf19 : (Try.f6.resultTypes.all (fun t => Try.prog.readableRec t && decide (t < Try.prog.types.size))) = true := by kernel_rfl
theorem cf20 : ((Rows.codecTextUniqueRow.ifacesOut == Try.f6.resultTypes.toList.any (Try.prog.ifacesRec ·))) = true := by kernel_rfl
theorem cf21 : ((Rows.codecTextUniqueRow.loopsOut == Try.f6.resultTypes.toList.any (Try.prog.loopsFrom ·))) = true := by kernel_rfl
theorem cf22 : ((Rows.codecTextUniqueRow.plainKeys == Try.prog.plainKeys)) = true := by kernel_rfl
theorem cf23 : (Rows.codecTextUniqueRow.shortTexts.isNone) = true := by kernel_rfl
theorem cf24 : (Try.prog.stopsHeard) = true := by kernel_rfl
theorem cf25 : (Try.prog.mayEnter) = true := K.mayEnter
theorem cf26 : ((Rows.codecTextUniqueRow.lifted == Try.prog.liftsFinal)) = true := K.lifted
theorem cf27 : ((Try.prog.make == some Rows.codecTextUniqueRow.make)) = true := K.made
theorem cf28 : ((Rows.codecTextUniqueRow.kinds == (if Rows.codecTextUniqueRow.domain.isEmpty then [] else Try.f6.params.toList.map fun t => match Try.prog.underlying t with | some (.int k) => some k | _ => none))) = true := by kernel_rfl
theorem cf29 : ((Rows.codecTextUniqueRow.pinned == Rows.codecTextUniqueRow.pinnedBy)) = true := by kernel_rfl
theorem cf30 : ((Rows.codecTextUniqueRow.veiled == (Try.f6.params.toList ++ Rows.codecTextUniqueSpec.plain.varTypes Try.prog ++ Try.f6.resultTypes.toList).any (Try.prog.veiledRec ·))) = true := by kernel_rfl
theorem cf31 : (Rows.codecTextUniqueRow.veiledFits Try.prog Try.f6.params.toList (Try.f6.params.toList ++ Rows.codecTextUniqueSpec.plain.varTypes Try.prog ++ Try.f6.resultTypes.toList)) = true := by kernel_rfl
set_option maxRecDepth 100000 in
theorem joined : joinedFacts Try.prog 6 Try.f6 Rows.codecTextUniqueSpec Rows.codecTextUniqueRow = true := by
  unfold joinedFacts
  exact (Bool.and_eq_true_iff.2 ⟨(Bool.and_eq_true_iff.2 ⟨(Bool.and_eq_true_iff.2 ⟨(Bool.and_eq_true_iff.2 ⟨(Bool.and_eq_true_iff.2 ⟨(Bool.and_eq_true_iff.2 ⟨(Bool.and_eq_true_iff.2 ⟨(Bool.and_eq_true_iff.2 ⟨(Bool.and_eq_true_iff.2 ⟨(Bool.and_eq_true_iff.2 ⟨(Bool.and_eq_true_iff.2 ⟨(Bool.and_eq_true_iff.2 ⟨(Bool.and_eq_true_iff.2 ⟨(Bool.and_eq_true_iff.2 ⟨(Bool.and_eq_true_iff.2 ⟨(Bool.and_eq_true_iff.2 ⟨(Bool.and_eq_true_iff.2 ⟨(Bool.and_eq_true_iff.2 ⟨(Bool.and_eq_true_iff.2 ⟨(Bool.and_eq_true_iff.2 ⟨(Bool.and_eq_true_iff.2 ⟨(Bool.and_eq_true_iff.2 ⟨(Bool.and_eq_true_iff.2 ⟨(Bool.and_eq_true_iff.2 ⟨(Bool.and_eq_true_iff.2 ⟨(Bool.and_eq_true_iff.2 ⟨(Bool.and_eq_true_iff.2 ⟨(Bool.and_eq_true_iff.2 ⟨(Bool.and_eq_true_iff.2 ⟨(Bool.and_eq_true_iff.2 ⟨(Bool.and_eq_true_iff.2 ⟨cf0, cf1⟩), cf2⟩), cf3⟩), cf4⟩), cf5⟩), cf6⟩), cf7⟩), cf8⟩), cf9⟩), cf10⟩), cf11⟩), cf12⟩), cf13⟩), cf14⟩), cf15⟩), cf16⟩), cf17⟩), cf18⟩), cf19⟩), cf20⟩), cf21⟩), cf22⟩), cf23⟩), cf24⟩), cf25⟩), cf26⟩), cf27⟩), cf28⟩), cf29⟩), cf30⟩), cf31⟩)
theorem inst : Try.f6.isInstance Try.prog Rows.codecTextUniqueRow.origin Rows.codecTextUniqueRow.targs := of_decide_eq_true (by kernel_rfl)
theorem nmain : ¬ (Check.packageOf Try.f6.name = "main") := of_decide_eq_false (by kernel_rfl)
theorem wrapper : Try.f6.isWrapper Try.prog Rows.codecTextUniqueRow.wrapper Rows.codecTextUniqueRow.mainSum := by
  unfold Func.isWrapper
  rw [if_neg nmain]; exact ⟨rfl, rfl⟩
theorem over : Rows.codecTextUniqueRow.holds Try.pinned (OpenSpec.ofChange Rows.codecTextUniqueSpec) :=
  OpenClaim.holds_of_wide 6 Try.f6 rfl rfl rfl rfl rfl rfl rfl ⟨rfl, rfl, rfl, rfl, rfl⟩ rfl rfl rfl rfl rfl (by kernel_rfl) Try.func6 joined inst wrapper
    (fun os started H enc _ => lifted os started H enc)
theorem proved : Rows.CodecTextUniqueSaid := over
#print axioms proved
end Go.Proofs.Ytipjpdiianopcaa.codecTextUnique
namespace Go.Proofs.Ytipjpdiianopcaa
/-- The row, under a short name, for the claim. -/
theorem codecTextUnique_holds : Rows.CodecTextUniqueSaid := codecTextUnique.proved
end Go.Proofs.Ytipjpdiianopcaa
