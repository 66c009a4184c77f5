/- Functions of the program as plain Lean functions, each with a proof that the call of the Go function answers as it does. -/
import Derived.Test.YtipjpdiianopcaaRows
import Derived.Test.YtipjpdiianopcaaBx7
import Derived.Test.YtipjpdiianopcaaPureCodecPrefixFree
import Derived.Test.YtipjpdiianopcaaK1
import Derived.Test.YtipjpdiianopcaaK2
import Derived.Test.YtipjpdiianopcaaK3
import Derived.JoinedOf
import Derived.KernelRfl
import Derived.WalkKit
import Derived.ProofKit
import Derived.OpenShut
import Derived.ShutString
import Derived.ChangeOld
import Derived.Below
import Derived.SizedLaws
import Derived.Test.YtipjpdiianopcaaWSized
namespace Go.Proofs.Ytipjpdiianopcaa.codecPrefixFree
open Go.ChangeShapes Go.WideShapes Go.ChangeAt Go.RowKit
open Go.ChangeMaps (open_string shut_string)
set_option linter.unusedVariables false
theorem own : ownKnob Try.prog.godebug = none := by kernel_rfl
theorem laidOut : laidOutB Try.prog = true := by kernel_rfl
def IsRow (k : IntKind) (w : World) (a : Option Addr) (len cap : Nat) (zs : List Int) : Prop :=
  (a = none ∧ len = 0 ∧ cap = 0 ∧ zs = []) ∨
  ∃ x, a = some x ∧ len ≤ cap ∧ cap ≤ maxLen ∧ zs.length = cap ∧ (∀ i, i < zs.length → w.cell? (x.add i) = some (.int k (zs.getD i 0))) ∧ ∀ n ∈ zs, (Lit.int k n).wf = true
set_option maxRecDepth 100000 in
theorem lifted (os : Os) (started : os.Started) (H : Type) (enc : TypeId × Value → H) :
    ReturnsInHanded {} Try.checked os 7 .any (Rows.codecPrefixFreeSpec.pre6 enc Try.prog Try.f7 Rows.codecPrefixFreeRow.domain false) (Rows.codecPrefixFreeSpec.post enc Try.prog Try.f7 false true false false) := by
  refine returnsInHanded_of_change_sized (C := Try.checked) own started (by kernel_rfl) Try.func7
    (ChangeSpec.witness6 (enc := enc) (C := Try.checked) false ⟨#[], #[.slice none 0 0, .slice none 0 0], []⟩ 8 (by kernel_rfl) (by kernel_rfl) (by kernel_rfl) (by kernel_rfl)) ?_
  intro W base args ds gs before hval0 hW hcnd hsz0 _
  have hsz : (DataW.weightsEach Try.prog (Try.f7.params.toList ++ Rows.codecPrefixFreeSpec.plain.varTypes Try.prog) (ds ++ gs)).all (· ≤ reachBytes) = true := hsz0
  have hval : ∀ (j : Nat) t v, Try.f7.params[j]? = some t → args[j]? = some v → Value.okWide Try.prog W .any base t v := hval0
  have hW' := hW
  obtain ⟨p, q, hA0, hV, rfl, hfz, hnd⟩ := hW
  have hA : DataW.TrodAll enc Try.prog W 0 (fun _ => true) true Try.f7.params.toList args.toList ds p := hA0
  rw [Try.params7] at hA hval hsz
  obtain ⟨v0, vs0, d0, ds0, p0, q0, hargs, rfl, rfl, h0, r0⟩ := trodAll_cons hA
  obtain ⟨v1, vs1, d1, ds1, p1, q1, rfl, rfl, rfl, h1, r1⟩ := trodAll_cons r0
  obtain ⟨rfl, rfl, rfl⟩ := trodAll_nil r1
  obtain rfl : args = #[v0, v1] := by cases args; simp_all
  obtain ⟨rfl, rfl⟩ := trodVars_none hV
  obtain ⟨a0, len0, cap0, rfl⟩ := okWide_slice Try.underlying22 (hval 0 22 v0 rfl rfl)
  have k0 := h0
  have lt0 : ∀ x ∈ p0, x.block < W.heap.size := by obtain ⟨m, hm⟩ := k0; exact DataW.trod_lt m _ _ _ hm
  obtain ⟨z0, w0⟩ : ∃ zs, IsRow .i64 W a0 len0 cap0 zs := by
    obtain ⟨fuel, hf⟩ := h0
    rcases open_ints Try.underlying22 Try.underlying3 (by kernel_rfl) hf with ⟨hcs, _⟩ | ⟨x, l, c, zs, hcs, _, hl, hm, hz, _, hcell, hwz⟩
    · simp [Value.cells] at hcs
      obtain ⟨rfl, rfl, rfl⟩ := hcs
      exact ⟨[], .inl ⟨rfl, rfl, rfl, rfl⟩⟩
    · simp [Value.cells] at hcs
      obtain ⟨rfl, rfl, rfl⟩ := hcs
      exact ⟨zs, .inr ⟨_, rfl, hl, hm, by simpa using hz, hcell, hwz⟩⟩
  have y0 : len0 * 8 ≤ 140737488351232 := Go.Proofs.YtipjpdiianopcaaW.PrintWords.sized_ints hsz (j := 0) (t := 22) rfl rfl Try.underlying22 Try.underlying3 (by kernel_rfl) (by kernel_rfl) h0
  obtain ⟨a1, len1, cap1, rfl⟩ := okWide_slice Try.underlying25 (hval 1 25 v1 rfl rfl)
  have k1 := h1
  have lt1 : ∀ x ∈ p1, x.block < W.heap.size := by obtain ⟨m, hm⟩ := k1; exact DataW.trod_lt m _ _ _ hm
  obtain ⟨z1, w1⟩ : ∃ zs, IsRow .u8 W a1 len1 cap1 zs := by
    obtain ⟨fuel, hf⟩ := h1
    rcases open_ints Try.underlying25 Try.underlying5 (by kernel_rfl) hf with ⟨hcs, _⟩ | ⟨x, l, c, zs, hcs, _, hl, hm, hz, _, hcell, hwz⟩
    · simp [Value.cells] at hcs
      obtain ⟨rfl, rfl, rfl⟩ := hcs
      exact ⟨[], .inl ⟨rfl, rfl, rfl, rfl⟩⟩
    · simp [Value.cells] at hcs
      obtain ⟨rfl, rfl, rfl⟩ := hcs
      exact ⟨zs, .inr ⟨_, rfl, hl, hm, by simpa using hz, hcell, hwz⟩⟩
  have y1 : len1 * 1 ≤ 140737488351232 := Go.Proofs.YtipjpdiianopcaaW.PrintWords.sized_ints hsz (j := 1) (t := 25) rfl rfl Try.underlying25 Try.underlying5 (by kernel_rfl) (by kernel_rfl) h1
  clear hA0 hval0 hsz0 hsz
  refine (B.linkhouselaw1_CodecPrefixFree.walk Pure.CodecPrefixFree a0 len0 cap0 z0 a1 len1 cap1 z1 W w0 y0 w1 y1).mono fun e W' ⟨he, bel⟩ => ?_
  subst he
  exact ⟨_, rfl, _, _, _, [], _, [], hW', trodAll_mk1 (shut_bool Try.underlying4 _), (trodAll_cons_mk (Below.trod laidOut (by kernel_rfl) (of_decide_eq_true (by kernel_rfl)) k0 bel lt0) (trodAll_cons_mk (Below.trod laidOut (by kernel_rfl) (of_decide_eq_true (by kernel_rfl)) k1 bel lt1) trodAll_mk0)), rfl, bel.frame _, fun h => by cases h⟩
theorem cf0 : (Rows.codecPrefixFreeRow.wf (OpenSpec.ofChange Rows.codecPrefixFreeSpec)) = true := by kernel_rfl
theorem cf1 : (laidOutB Try.prog) = true := by kernel_rfl
theorem cf2 : (mapsRowed Try.prog) = true := by kernel_rfl
theorem cf3 : (Try.f7.params.all (Try.prog.readableRec ·)) = true := by kernel_rfl
theorem cf4 : (namedTie Try.prog Rows.codecPrefixFreeRow.named Rows.codecPrefixFreeSpec.vars) = true := by kernel_rfl
theorem cf5 : ((Rows.codecPrefixFreeRow.stops == [])) = true := by kernel_rfl
theorem cf6 : ((Try.prog.stops == [])) = true := by kernel_rfl
theorem cf7 : ((Rows.codecPrefixFreeRow.knobs == [])) = true := by kernel_rfl
theorem cf8 : ((Try.prog.stopKnobs == [])) = true := by kernel_rfl
theorem cf9 : ((Rows.codecPrefixFreeRow.inPlace == Try.prog.inPlace 7)) = true := by kernel_rfl
theorem cf10 : ((Rows.codecPrefixFreeRow.unfollowed == Try.prog.unfollowed 7)) = true := by kernel_rfl
theorem cf11 : ((Rows.codecPrefixFreeRow.recurses == Try.prog.recurses 7)) = true := by kernel_rfl
theorem cf12 : ((Rows.codecPrefixFreeRow.named == Try.prog.varsNamed 7)) = true := by kernel_rfl
theorem cf13 : ((Rows.codecPrefixFreeRow.maps == (Try.f7.params.toList ++ Rows.codecPrefixFreeSpec.plain.varTypes Try.prog).any (Try.prog.mapsRec ·))) = true := by kernel_rfl
theorem cf14 : ((Rows.codecPrefixFreeRow.ifaces == (Try.f7.params.toList ++ Rows.codecPrefixFreeSpec.plain.varTypes Try.prog).any (Try.prog.ifacesRec ·))) = true := by kernel_rfl
theorem cf15 : ((Rows.codecPrefixFreeRow.mapsOut == Try.prog.mapsAmong Try.f7.resultTypes.toList)) = true := by kernel_rfl
theorem cf16 : ((Rows.codecPrefixFreeRow.loops == (Try.f7.params.toList ++ Rows.codecPrefixFreeSpec.plain.varTypes Try.prog).any (Try.prog.loopsFrom ·))) = true := by kernel_rfl
theorem cf17 : ((Rows.codecPrefixFreeRow.wideKeys == (Try.f7.params.toList ++ Rows.codecPrefixFreeSpec.plain.varTypes Try.prog ++ Try.f7.resultTypes.toList).any (Try.prog.wideKeysFrom ·))) = true := by kernel_rfl
theorem cf18 : (Rows.codecPrefixFreeSpec.vars.all (Try.prog.varReadable ·)) = true := by kernel_rfl
theorem cf19 : (Try.f7.resultTypes.all (fun t => Try.prog.readableRec t && decide (t < Try.prog.types.size))) = true := by kernel_rfl
theorem cf20 : ((Rows.codecPrefixFreeRow.ifacesOut == Try.f7.resultTypes.toList.any (Try.prog.ifacesRec ·))) = true := by kernel_rfl
theorem cf21 : ((Rows.codecPrefixFreeRow.loopsOut == Try.f7.resultTypes.toList.any (Try.prog.loopsFrom ·))) = true := by kernel_rfl
theorem cf22 : ((Rows.codecPrefixFreeRow.plainKeys == Try.prog.plainKeys)) = true := by kernel_rfl
theorem cf23 : (Rows.codecPrefixFreeRow.shortTexts.isNone) = true := by kernel_rfl
theorem cf24 : (Try.prog.stopsHeard) = true := by kernel_rfl
theorem cf25 : (Try.prog.mayEnter) = true := K.mayEnter
theorem cf26 : ((Rows.codecPrefixFreeRow.lifted == Try.prog.liftsFinal)) = true := K.lifted
theorem cf27 : ((Try.prog.make == some Rows.codecPrefixFreeRow.make)) = true := K.made
theorem cf28 : ((Rows.codecPrefixFreeRow.kinds == (if Rows.codecPrefixFreeRow.domain.isEmpty then [] else Try.f7.params.toList.map fun t => match Try.prog.underlying t with | some (.int k) => some k | _ => none))) = true := by kernel_rfl
theorem cf29 : ((Rows.codecPrefixFreeRow.pinned == Rows.codecPrefixFreeRow.pinnedBy)) = true := by kernel_rfl
theorem cf30 : ((Rows.codecPrefixFreeRow.veiled == (Try.f7.params.toList ++ Rows.codecPrefixFreeSpec.plain.varTypes Try.prog ++ Try.f7.resultTypes.toList).any (Try.prog.veiledRec ·))) = true := by kernel_rfl
theorem cf31 : (Rows.codecPrefixFreeRow.veiledFits Try.prog Try.f7.params.toList (Try.f7.params.toList ++ Rows.codecPrefixFreeSpec.plain.varTypes Try.prog ++ Try.f7.resultTypes.toList)) = true := by kernel_rfl
set_option maxRecDepth 100000 in
theorem joined : joinedFacts Try.prog 7 Try.f7 Rows.codecPrefixFreeSpec Rows.codecPrefixFreeRow = true := by
  unfold joinedFacts
  exact (Bool.and_eq_true_iff.2 ⟨(Bool.and_eq_true_iff.2 ⟨(Bool.and_eq_true_iff.2 ⟨(Bool.and_eq_true_iff.2 ⟨(Bool.and_eq_true_iff.2 ⟨(Bool.and_eq_true_iff.2 ⟨(Bool.and_eq_true_iff.2 ⟨(Bool.and_eq_true_iff.2 ⟨(Bool.and_eq_true_iff.2 ⟨(Bool.and_eq_true_iff.2 ⟨(Bool.and_eq_true_iff.2 ⟨(Bool.and_eq_true_iff.2 ⟨(Bool.and_eq_true_iff.2 ⟨(Bool.and_eq_true_iff.2 ⟨(Bool.and_eq_true_iff.2 ⟨(Bool.and_eq_true_iff.2 ⟨(Bool.and_eq_true_iff.2 ⟨(Bool.and_eq_true_iff.2 ⟨(Bool.and_eq_true_iff.2 ⟨(Bool.and_eq_true_iff.2 ⟨(Bool.and_eq_true_iff.2 ⟨(Bool.and_eq_true_iff.2 ⟨(Bool.and_eq_true_iff.2 ⟨(Bool.and_eq_true_iff.2 ⟨(Bool.and_eq_true_iff.2 ⟨(Bool.and_eq_true_iff.2 ⟨(Bool.and_eq_true_iff.2 ⟨(Bool.and_eq_true_iff.2 ⟨(Bool.and_eq_true_iff.2 ⟨(Bool.and_eq_true_iff.2 ⟨(Bool.and_eq_true_iff.2 ⟨cf0, cf1⟩), cf2⟩), cf3⟩), cf4⟩), cf5⟩), cf6⟩), cf7⟩), cf8⟩), cf9⟩), cf10⟩), cf11⟩), cf12⟩), cf13⟩), cf14⟩), cf15⟩), cf16⟩), cf17⟩), cf18⟩), cf19⟩), cf20⟩), cf21⟩), cf22⟩), cf23⟩), cf24⟩), cf25⟩), cf26⟩), cf27⟩), cf28⟩), cf29⟩), cf30⟩), cf31⟩)
theorem inst : Try.f7.isInstance Try.prog Rows.codecPrefixFreeRow.origin Rows.codecPrefixFreeRow.targs := of_decide_eq_true (by kernel_rfl)
theorem nmain : ¬ (Check.packageOf Try.f7.name = "main") := of_decide_eq_false (by kernel_rfl)
theorem wrapper : Try.f7.isWrapper Try.prog Rows.codecPrefixFreeRow.wrapper Rows.codecPrefixFreeRow.mainSum := by
  unfold Func.isWrapper
  rw [if_neg nmain]; exact ⟨rfl, rfl⟩
theorem over : Rows.codecPrefixFreeRow.holds Try.pinned (OpenSpec.ofChange Rows.codecPrefixFreeSpec) :=
  OpenClaim.holds_of_wide 7 Try.f7 rfl rfl rfl rfl rfl rfl rfl ⟨rfl, rfl, rfl, rfl, rfl⟩ rfl rfl rfl rfl rfl (by kernel_rfl) Try.func7 joined inst wrapper
    (fun os started H enc _ => lifted os started H enc)
theorem proved : Rows.CodecPrefixFreeSaid := over
#print axioms proved
end Go.Proofs.Ytipjpdiianopcaa.codecPrefixFree
namespace Go.Proofs.Ytipjpdiianopcaa
/-- The row, under a short name, for the claim. -/
theorem codecPrefixFree_holds : Rows.CodecPrefixFreeSaid := codecPrefixFree.proved
end Go.Proofs.Ytipjpdiianopcaa
