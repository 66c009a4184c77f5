/- The row of the law CodecRoundTrip where what it reads is of bulk at most 1048576, out of its plain law and its walk. -/
import Derived.Test.YtipjpdiianopcaaRows
import Derived.Test.YtipjpdiianopcaaBx5
import Derived.Test.YtipjpdiianopcaaPureCodecRoundTrip
import Derived.Test.YtipjpdiianopcaaK1
import Derived.Test.YtipjpdiianopcaaK2
import Derived.Test.YtipjpdiianopcaaK3
import Derived.JoinedOf
import Derived.JoinedCond
import Derived.KernelRfl
import Derived.WalkKit
import Derived.ProofKit
import Derived.OpenShut
import Derived.ShutString
import Derived.SliceStrings
import Derived.ChangeOld
import Derived.Below
import Derived.SizedLaws
import Derived.Deep.CondSized
import Derived.Test.YtipjpdiianopcaaWSized
namespace Go.Proofs.Ytipjpdiianopcaa.codecRoundTripUpto
open Go.ChangeShapes Go.WideShapes Go.ChangeAt Go.RowKit
open Go.ChangeMaps (open_string shut_string)
open Go.Proofs.YtipjpdiianopcaaW.PrintWords
set_option linter.unusedVariables false
theorem own : ownKnob Try.prog.godebug = none := by kernel_rfl
theorem laidOut : laidOutB Try.prog = true := by kernel_rfl
def IsRow (k : IntKind) (w : World) (a : Option Addr) (len cap : Nat) (zs : List Int) : Prop :=
  (a = none ∧ len = 0 ∧ cap = 0 ∧ zs = []) ∨
  ∃ x, a = some x ∧ len ≤ cap ∧ cap ≤ maxLen ∧ zs.length = cap ∧ (∀ i, i < zs.length → w.cell? (x.add i) = some (.int k (zs.getD i 0))) ∧ ∀ n ∈ zs, (Lit.int k n).wf = true
theorem strs_bulk {H : Type} : ∀ ss : List ByteArray, (ss.map ByteArray.size).sum ≤ Rows.uptoBulkAll (strs (H := H) ss)
  | [] => Nat.zero_le _
  | s :: ss => by
    have h := strs_bulk (H := H) ss
    have e : s.data.toList.length = s.size := by rw [Array.length_toList]; rfl
    simp only [strs, List.map_cons, List.sum_cons, Rows.uptoBulkAll, Rows.uptoBulk] at h ⊢
    omega
theorem bulk_snd {H : Type} {d0 d1 : DataW H} (hk : Rows.uptoSmall H [d0, d1] = true) : Rows.uptoBulk d1 ≤ 1048576 := by
  have h : Rows.uptoBulkAll [d0, d1] ≤ 1048576 := of_decide_eq_true hk
  simp only [Rows.uptoBulkAll] at h
  omega
theorem i64_of {l : List Int} (h : ∀ x ∈ l, (Lit.int .i64 x).wf = true) : ∀ x ∈ l, Cp.I64 x := fun x hx => by
  have := h x hx
  simpa [Cp.I64, Lit.wf, IntKind.min, IntKind.max, IntKind.signed, IntKind.bits] using this
/-- A row of strings that came in, as the walk reads it. -/
theorem strings_row {w : World} {x : Addr} {len : Nat} {ss : List ByteArray} (hl : len ≤ ss.length) (hm : ss.length ≤ maxLen) (hcell : ∀ i, i < ss.length → w.cell? (x.add i) = some (.string (ss.getD i ByteArray.empty))) :
    Kd.C Kd.string w (some x) (ss.take len).length (ss.take len) := by
  have e : (ss.take len).length = len := by rw [List.length_take]; omega
  refine Kd.C_of_reads (d := ByteArray.empty) (h1 := fun _ => rfl) ⟨rfl, by rw [e]; have : maxLen ≤ 9223372036854775807 := by decide +kernel
                                                                            omega, fun _ => ⟨x, rfl, fun j hj => ?_⟩⟩
  rw [hcell j (by omega)]
  congr 2
  rw [List.getD_eq_getElem?_getD, List.getD_eq_getElem?_getD, List.getElem?_take_of_lt (by omega)]
set_option maxRecDepth 100000 in
theorem lifted (os : Os) (started : os.Started) (H : Type) (enc : TypeId × Value → H) (F : Stop.Interp) :
    ReturnsInHanded {} Try.checked os 5 .any ((Rows.OpenSpec.upto Rows.codecRoundTripSpec).pre6 enc Try.prog Try.f5 Rows.codecRoundTripUptoRow.domain false) (((Rows.OpenSpec.upto Rows.codecRoundTripSpec).at F).post enc Try.prog Try.f5 false true false false) := by
  refine returnsInHanded_of_cond (C := Try.checked) (s := (Rows.OpenSpec.upto Rows.codecRoundTripSpec)) (k := Rows.uptoSmall) rfl own started (by kernel_rfl) Try.func5
    (OpenSpec.witness (enc := enc) (C := Try.checked) (s := (Rows.OpenSpec.upto Rows.codecRoundTripSpec)) (k := Rows.uptoSmall) rfl false ⟨#[], #[.slice none 0 0, .slice none 0 0], []⟩ 8 (by kernel_rfl) (by kernel_rfl) (by kernel_rfl)
      (x := ([.nil, .nil], [], [])) (by kernel_rfl) rfl (by kernel_rfl)) ?_
  intro W base args ds gs before hval0 hW hcnd hk _
  have hval : ∀ (j : Nat) t v, Try.f5.params[j]? = some t → args[j]? = some v → Value.okWide Try.prog W .any base t v := hval0
  have hW' := hW
  obtain ⟨p, q, hA0, hV, rfl, hfz, hnd⟩ := hW
  have hA : DataW.TrodAll enc Try.prog W 0 (fun _ => true) true Try.f5.params.toList args.toList ds p := hA0
  rw [Try.params5] at hA hval
  obtain ⟨v0, vs0, d0, ds0, p0, q0, hargs, rfl, rfl, h0, r0⟩ := trodAll_cons hA
  obtain ⟨v1, vs1, d1, ds1, p1, q1, rfl, rfl, rfl, h1, r1⟩ := trodAll_cons r0
  obtain ⟨rfl, rfl, rfl⟩ := trodAll_nil r1
  obtain rfl : args = #[v0, v1] := by cases args; simp_all
  obtain ⟨rfl, rfl⟩ := trodVars_none hV
  obtain ⟨a0, len0, cap0, rfl⟩ := okWide_slice Try.underlying22 (hval 0 22 v0 rfl rfl)
  obtain ⟨a1, len1, cap1, rfl⟩ := okWide_slice Try.underlying23 (hval 1 23 v1 rfl rfl)
  have k0 := h0
  have k1 := h1
  have lt0 : ∀ x ∈ p0, x.block < W.heap.size := by obtain ⟨m, hm⟩ := k0; exact DataW.trod_lt m _ _ _ hm
  have lt1 : ∀ x ∈ p1, x.block < W.heap.size := by obtain ⟨m, hm⟩ := k1; exact DataW.trod_lt m _ _ _ hm
  obtain ⟨z0, w0⟩ : ∃ zs, IsRow .i64 W a0 len0 cap0 zs := by
    obtain ⟨fuel, hf⟩ := h0
    rcases open_ints Try.underlying22 Try.underlying3 (by kernel_rfl) hf with ⟨hcs, _⟩ | ⟨x, l, c, zs, hcs, _, hl, hm, hz, _, hcell, hwz⟩
    · simp [Value.cells] at hcs
      obtain ⟨rfl, rfl, rfl⟩ := hcs
      exact ⟨[], .inl ⟨rfl, rfl, rfl, rfl⟩⟩
    · simp [Value.cells] at hcs
      obtain ⟨rfl, rfl, rfl⟩ := hcs
      exact ⟨zs, .inr ⟨_, rfl, hl, hm, by simpa using hz, hcell, hwz⟩⟩
  have hb : Rows.uptoBulk d1 ≤ 1048576 := bulk_snd (d0 := d0) (by simpa using hk)
  obtain ⟨s, rfl, hr1, hc1, hs⟩ : ∃ s : List ByteArray, len1 = s.length ∧ Kd.C Kd.string W a1 s.length s ∧ s.length ≤ cap1 ∧ (s.map ByteArray.size).sum ≤ 1048576 := by
    obtain ⟨fuel, hf⟩ := h1
    rcases open_strings Try.underlying23 Try.underlying9 (by kernel_rfl) hf with ⟨hcs, _⟩ | ⟨x, l, c, ss, hcs, _, hl, hm, hz, hx, hcell, _⟩
    · simp [Value.cells] at hcs
      obtain ⟨rfl, rfl, rfl⟩ := hcs
      exact ⟨[], rfl, ⟨rfl, by simp, fun h => absurd h (by simp)⟩, Nat.le_refl _, by simp⟩
    · simp [Value.cells] at hcs
      obtain ⟨rfl, rfl, rfl⟩ := hcs
      have hx1 := (Prod.mk.inj hx).1
      subst hx1
      have hz' : ss.length = cap1 := by simpa using hz
      have e : (ss.take len1).length = len1 := by rw [List.length_take]; omega
      refine ⟨ss.take len1, e.symm, strings_row (by omega) (by omega) hcell, by omega, ?_⟩
      have := strs_bulk (H := H) (ss.take len1)
      simp only [Rows.uptoBulk] at hb
      omega
  clear hA0 hval0 hk
  obtain ⟨l, rfl, hr0, hm0, hw0, hc0⟩ := ReadsInt.ofRowC w0
  obtain ⟨k, hf⟩ := Pure.CodecRoundTrip l s (i64_of hw0) hs
  refine (B.linkhouselaw1_CodecRoundTrip.calls k _ _ l _ _ s true W (Kd.C_of_reads (d := (0 : Int)) (h1 := fun _ => rfl) hr0) hc0 hr1 hc1 rfl hf).mono fun e W' ⟨he, bel⟩ => ?_
  subst he
  exact ⟨_, rfl, _, _, _, [], _, [], hW', trodAll_mk1 (shut_bool Try.underlying4 _), (trodAll_cons_mk (Below.trod laidOut (by kernel_rfl) (of_decide_eq_true (by kernel_rfl)) k0 bel lt0) (trodAll_cons_mk (Below.trod laidOut (by kernel_rfl) (of_decide_eq_true (by kernel_rfl)) k1 bel lt1) trodAll_mk0)), rfl, bel.frame _, fun h => by cases h⟩
theorem cf0 : (Rows.codecRoundTripUptoRow.wf (OpenSpec.ofChange (Rows.OpenSpec.upto Rows.codecRoundTripSpec).bare)) = true := by kernel_rfl
theorem cf1 : (laidOutB Try.prog) = true := by kernel_rfl
theorem cf2 : (mapsRowed Try.prog) = true := by kernel_rfl
theorem cf3 : (Try.f5.params.all (Try.prog.readableRec ·)) = true := by kernel_rfl
theorem cf4 : (namedTie Try.prog Rows.codecRoundTripUptoRow.named (Rows.OpenSpec.upto Rows.codecRoundTripSpec).bare.vars) = true := by kernel_rfl
theorem cf5 : ((Rows.codecRoundTripUptoRow.stops == [])) = true := by kernel_rfl
theorem cf6 : ((Try.prog.stops == [])) = true := by kernel_rfl
theorem cf7 : ((Rows.codecRoundTripUptoRow.knobs == [])) = true := by kernel_rfl
theorem cf8 : ((Try.prog.stopKnobs == [])) = true := by kernel_rfl
theorem cf9 : ((Rows.codecRoundTripUptoRow.inPlace == Try.prog.inPlace 5)) = true := by kernel_rfl
theorem cf10 : ((Rows.codecRoundTripUptoRow.unfollowed == Try.prog.unfollowed 5)) = true := by kernel_rfl
theorem cf11 : ((Rows.codecRoundTripUptoRow.recurses == Try.prog.recurses 5)) = true := by kernel_rfl
theorem cf12 : ((Rows.codecRoundTripUptoRow.named == Try.prog.varsNamed 5)) = true := by kernel_rfl
theorem cf13 : ((Rows.codecRoundTripUptoRow.maps == (Try.f5.params.toList ++ (Rows.OpenSpec.upto Rows.codecRoundTripSpec).bare.plain.varTypes Try.prog).any (Try.prog.mapsRec ·))) = true := by kernel_rfl
theorem cf14 : ((Rows.codecRoundTripUptoRow.ifaces == (Try.f5.params.toList ++ (Rows.OpenSpec.upto Rows.codecRoundTripSpec).bare.plain.varTypes Try.prog).any (Try.prog.ifacesRec ·))) = true := by kernel_rfl
theorem cf15 : ((Rows.codecRoundTripUptoRow.mapsOut == Try.prog.mapsAmong Try.f5.resultTypes.toList)) = true := by kernel_rfl
theorem cf16 : ((Rows.codecRoundTripUptoRow.loops == (Try.f5.params.toList ++ (Rows.OpenSpec.upto Rows.codecRoundTripSpec).bare.plain.varTypes Try.prog).any (Try.prog.loopsFrom ·))) = true := by kernel_rfl
theorem cf17 : ((Rows.codecRoundTripUptoRow.wideKeys == (Try.f5.params.toList ++ (Rows.OpenSpec.upto Rows.codecRoundTripSpec).bare.plain.varTypes Try.prog ++ Try.f5.resultTypes.toList).any (Try.prog.wideKeysFrom ·))) = true := by kernel_rfl
theorem cf18 : ((Rows.OpenSpec.upto Rows.codecRoundTripSpec).bare.vars.all (Try.prog.varReadable ·)) = true := by kernel_rfl
theorem cf19 : (Try.f5.resultTypes.all (fun t => Try.prog.readableRec t && decide (t < Try.prog.types.size))) = true := by kernel_rfl
theorem cf20 : ((Rows.codecRoundTripUptoRow.ifacesOut == Try.f5.resultTypes.toList.any (Try.prog.ifacesRec ·))) = true := by kernel_rfl
theorem cf21 : ((Rows.codecRoundTripUptoRow.loopsOut == Try.f5.resultTypes.toList.any (Try.prog.loopsFrom ·))) = true := by kernel_rfl
theorem cf22 : ((Rows.codecRoundTripUptoRow.plainKeys == Try.prog.plainKeys)) = true := by kernel_rfl
theorem cf23 : (Rows.codecRoundTripUptoRow.shortTexts.isNone) = true := by kernel_rfl
theorem cf24 : (Try.prog.stopsHeard) = true := by kernel_rfl
theorem cf25 : (Try.prog.mayEnter) = true := K.mayEnter
theorem cf26 : ((Rows.codecRoundTripUptoRow.lifted == Try.prog.liftsFinal)) = true := K.lifted
theorem cf27 : ((Try.prog.make == some Rows.codecRoundTripUptoRow.make)) = true := K.made
theorem cf28 : ((Rows.codecRoundTripUptoRow.kinds == (if Rows.codecRoundTripUptoRow.domain.isEmpty then [] else Try.f5.params.toList.map fun t => match Try.prog.underlying t with | some (.int k) => some k | _ => none))) = true := by kernel_rfl
theorem cf29 : ((Rows.codecRoundTripUptoRow.pinned == Rows.codecRoundTripUptoRow.pinnedBy)) = true := by kernel_rfl
theorem cf30 : ((Rows.codecRoundTripUptoRow.veiled == (Try.f5.params.toList ++ (Rows.OpenSpec.upto Rows.codecRoundTripSpec).bare.plain.varTypes Try.prog ++ Try.f5.resultTypes.toList).any (Try.prog.veiledRec ·))) = true := by kernel_rfl
theorem cf31 : (Rows.codecRoundTripUptoRow.veiledFits Try.prog Try.f5.params.toList (Try.f5.params.toList ++ (Rows.OpenSpec.upto Rows.codecRoundTripSpec).bare.plain.varTypes Try.prog ++ Try.f5.resultTypes.toList)) = true := by kernel_rfl
set_option maxRecDepth 100000 in
theorem joined : joinedFacts Try.prog 5 Try.f5 (Rows.OpenSpec.upto Rows.codecRoundTripSpec).bare Rows.codecRoundTripUptoRow = true := by
  unfold joinedFacts
  exact (Bool.and_eq_true_iff.2 ⟨(Bool.and_eq_true_iff.2 ⟨(Bool.and_eq_true_iff.2 ⟨(Bool.and_eq_true_iff.2 ⟨(Bool.and_eq_true_iff.2 ⟨(Bool.and_eq_true_iff.2 ⟨(Bool.and_eq_true_iff.2 ⟨(Bool.and_eq_true_iff.2 ⟨(Bool.and_eq_true_iff.2 ⟨(Bool.and_eq_true_iff.2 ⟨(Bool.and_eq_true_iff.2 ⟨(Bool.and_eq_true_iff.2 ⟨(Bool.and_eq_true_iff.2 ⟨(Bool.and_eq_true_iff.2 ⟨(Bool.and_eq_true_iff.2 ⟨(Bool.and_eq_true_iff.2 ⟨(Bool.and_eq_true_iff.2 ⟨(Bool.and_eq_true_iff.2 ⟨(Bool.and_eq_true_iff.2 ⟨(Bool.and_eq_true_iff.2 ⟨(Bool.and_eq_true_iff.2 ⟨(Bool.and_eq_true_iff.2 ⟨(Bool.and_eq_true_iff.2 ⟨(Bool.and_eq_true_iff.2 ⟨(Bool.and_eq_true_iff.2 ⟨(Bool.and_eq_true_iff.2 ⟨(Bool.and_eq_true_iff.2 ⟨(Bool.and_eq_true_iff.2 ⟨(Bool.and_eq_true_iff.2 ⟨(Bool.and_eq_true_iff.2 ⟨(Bool.and_eq_true_iff.2 ⟨cf0, cf1⟩), cf2⟩), cf3⟩), cf4⟩), cf5⟩), cf6⟩), cf7⟩), cf8⟩), cf9⟩), cf10⟩), cf11⟩), cf12⟩), cf13⟩), cf14⟩), cf15⟩), cf16⟩), cf17⟩), cf18⟩), cf19⟩), cf20⟩), cf21⟩), cf22⟩), cf23⟩), cf24⟩), cf25⟩), cf26⟩), cf27⟩), cf28⟩), cf29⟩), cf30⟩), cf31⟩)
theorem inst : Try.f5.isInstance Try.prog Rows.codecRoundTripUptoRow.origin Rows.codecRoundTripUptoRow.targs := of_decide_eq_true (by kernel_rfl)
theorem nmain : ¬ (Check.packageOf Try.f5.name = "main") := of_decide_eq_false (by kernel_rfl)
theorem wrapper : Try.f5.isWrapper Try.prog Rows.codecRoundTripUptoRow.wrapper Rows.codecRoundTripUptoRow.mainSum := by
  unfold Func.isWrapper
  rw [if_neg nmain]; exact ⟨rfl, rfl⟩
theorem over : Rows.codecRoundTripUptoRow.holds Try.pinned (Rows.OpenSpec.upto Rows.codecRoundTripSpec) :=
  OpenClaim.holds_of_cond 5 Try.f5 rfl rfl rfl rfl rfl rfl rfl ⟨rfl, rfl, rfl, rfl, rfl⟩ rfl rfl rfl rfl rfl (by kernel_rfl) Try.func5 joined inst wrapper
    (fun os started H enc _ F => lifted os started H enc F)
theorem proved : Rows.CodecRoundTripUptoSaid := over
#print axioms proved
end Go.Proofs.Ytipjpdiianopcaa.codecRoundTripUpto
namespace Go.Proofs.Ytipjpdiianopcaa
/-- The row, under a short name, for the claim. -/
theorem codecRoundTripUpto_holds : Rows.CodecRoundTripUptoSaid := codecRoundTripUpto.proved
end Go.Proofs.Ytipjpdiianopcaa
