/- TokenSplitMatchesSpec: the row and the tied card. -/
import Derived.Test.YtipjpdiianopcaaDoorRows
import Derived.Test.YtipjpdiianopcaaDoorCards
import Derived.Test.YtipjpdiianopcaaDoorTie
import Derived.Test.YtipjpdiianopcaaDoorTx14
import Derived.Test.YtipjpdiianopcaaDoorPu
import Derived.Test.YtipjpdiianopcaaDoorK1
import Derived.Test.YtipjpdiianopcaaDoorK2
import Derived.Test.YtipjpdiianopcaaDoorK3
import Derived.JoinedOf
import Derived.KernelRfl
import Derived.WalkKit
import Derived.ProofKit
import Derived.Handy
import Derived.Lay
import Derived.OpenShut
import Derived.ShutString
import Derived.ChangeOld
import Derived.Below
import Derived.SizedLaws
import Derived.Stop.LaidErr
import Derived.Lib.LaidTab
import Derived.SevenTiedAt
namespace Go.Proofs.YtipjpdiianopcaaDoor.tokenSplitMatchesSpec
open Go.ChangeShapes Go.WideShapes Go.ChangeAt Go.RowKit
open Go.ChangeMaps (open_string shut_string)
set_option linter.unusedVariables false
theorem own : ownKnob Tryd.prog.godebug = none := by kernel_rfl
theorem gR : Tryd.prog.globalNamed "strconv.ErrRange" = some 2 := by kernel_rfl
theorem gS : Tryd.prog.globalNamed "strconv.ErrSyntax" = some 1 := by kernel_rfl
theorem gP : Tryd.prog.globalNamed "internal/strconv.uint64pow10" = some 5 := by kernel_rfl
theorem gRt : (Tryd.prog.globals[2]?).map (·.type) = some 104 := by kernel_rfl
theorem gSt : (Tryd.prog.globals[1]?).map (·.type) = some 104 := by kernel_rfl
theorem gPt : (Tryd.prog.globals[5]?).map (·.type) = some 160 := by kernel_rfl
theorem u104 : ∃ ms, Tryd.prog.underlying 104 = some (.interface ms) := by
  have h : (match Tryd.prog.underlying 104 with | some (.interface _) => true | _ => false) = true := by kernel_rfl
  split at h
  · rename_i ms e; exact ⟨ms, e⟩
  · cases h
theorem u156 : Tryd.prog.underlying 156 = some (.pointer 158) := by kernel_rfl
theorem u160 : Tryd.prog.underlying 160 = some (.array 20 102) := by kernel_rfl
theorem u102 : Tryd.prog.underlying 102 = some (.int .u64) := by kernel_rfl
theorem u158 : ∃ f, Tryd.prog.underlying 158 = some (.struct #[f]) ∧ f.type = 9 ∧ f.offset = 0 := by
  have h : (match Tryd.prog.underlying 158 with | some (.struct ⟨[f]⟩) => (f.type == 9 && f.offset == 0) | _ => false) = true := by kernel_rfl
  split at h
  · rename_i f e
    rw [Bool.and_eq_true] at h
    exact ⟨f, e, eq_of_beq h.1, eq_of_beq h.2⟩
  · cases h
theorem c158 : Tryd.prog.cellsOf 158 = 1 := by kernel_rfl
theorem c9 : Tryd.prog.cellsOf 9 = 1 := by kernel_rfl
theorem c102 : Tryd.prog.cellsOf 102 = 1 := by kernel_rfl
theorem c160 : Tryd.prog.cellsOf 160 = 20 := by kernel_rfl
theorem star : "*" ++ "errors.errorString" = "*errors.errorString" := by decide
theorem row156 (u : TypeId) (h : Tryd.prog.typeName? 3 u = some "*errors.errorString") : u = 156 :=
  typeName_ptr_named (nm := "errors.errorString") (by rw [star]; kernel_rfl) (by kernel_rfl) (by decide) u (by rw [star]; exact h)
theorem gs_of {W : World} (hL : laidMet Tryd.prog Rows.tokenSplitMatchesSpecRow.laid W) : Ct.GS W := by
  obtain ⟨ms, hi⟩ := u104
  obtain ⟨f, hf, ft, fo⟩ := u158
  have hP := hL.tail.tail
  have hR := hP.tail
  have hS := hR.tail
  obtain ⟨a1, s1, hv1, _, _, _⟩ := laid_sentinel hR gR gRt hi row156 u156 hf ft fo Tryd.underlying9 c158 c9
  obtain ⟨a2, s2, hv2, _, _, _⟩ := laid_sentinel hS gS gSt hi row156 u156 hf ft fo Tryd.underlying9 c158 c9
  exact ⟨⟨_, _, hv2⟩, ⟨_, _, hv1⟩, Lib.tabIs_of_head gP gPt u160 u102 c102 c160 (zs := Lib.pow10Tab) hP⟩
theorem plainLaid : ∀ w, laidMetH Tryd.prog Rows.tokenSplitMatchesSpecRow.laid w = laidMet Tryd.prog Rows.tokenSplitMatchesSpecRow.laid w := fun w => MakeChecks.laidMetH_plain _ _ _ (by kernel_rfl)
set_option maxRecDepth 100000 in
theorem lifted (os : Os) (started : os.Started) (H : Type) (enc : TypeId × Value → H) :
    ReturnsInHanded {} Tryd.checked os 3 .any (fun w args => (Rows.tokenSplitMatchesSpecSpec.pre enc Tryd.prog Tryd.f3 Rows.tokenSplitMatchesSpecRow.domain false w args ∧ laidMetH Tryd.prog Rows.tokenSplitMatchesSpecRow.laid w) ∧ sizedMet enc Tryd.prog Tryd.f3 (OpenSpec.ofChange Rows.tokenSplitMatchesSpecSpec) false w args)
      (Rows.tokenSplitMatchesSpecSpec.post enc Tryd.prog Tryd.f3 false true false false) := by
  refine returnsInHanded_of_change_and (C := Tryd.checked) (X := fun w _ => laidMetH Tryd.prog Rows.tokenSplitMatchesSpecRow.laid w) (fun _ _ _ hh h => h.of_heap hh) own started (by kernel_rfl) Tryd.func3
    (ChangeSpec.witness_shaped (enc := enc) (C := Tryd.checked) (os := os) (X := fun w _ => laidMetH Tryd.prog Rows.tokenSplitMatchesSpecRow.laid w) false (World.laidAll Tryd.prog os Rows.tokenSplitMatchesSpecRow.laid) #[.string ByteArray.empty] 8 (World.laidAll_os _ _ _)
      (World.shaped_of_ZipB (by kernel_rfl) (by kernel_rfl)) (by kernel_rfl) (by kernel_rfl) (by kernel_rfl)
      (by rw [plainLaid]; exact laidMet_laidAll _ (by kernel_rfl) (by kernel_rfl))) ?_
  intro W base args ds gs before hval0 hW hcnd hsz0 hL _
  have hsz : (DataW.weightsEach Tryd.prog (Tryd.f3.params.toList ++ Rows.tokenSplitMatchesSpecSpec.plain.varTypes Tryd.prog) (ds ++ gs)).all (· ≤ reachBytes) = true := hsz0
  rw [plainLaid] at hL
  have hG := gs_of hL
  have hval : ∀ (j : Nat) t v, Tryd.f3.params[j]? = some t → args[j]? = some v → Value.okWide Tryd.prog W .any base t v := hval0
  have hW' := hW
  obtain ⟨p, q, hA0, hV, rfl, hfz, hnd⟩ := hW
  have hA : DataW.TrodAll enc Tryd.prog W 0 (fun _ => true) true Tryd.f3.params.toList args.toList ds p := hA0
  rw [Tryd.params3] at hA hval hsz
  obtain ⟨v0, vs0, d0, ds0, p0, q0, hargs, rfl, rfl, h0, r0⟩ := trodAll_cons hA
  obtain ⟨rfl, rfl, rfl⟩ := trodAll_nil r0
  obtain rfl : args = #[v0] := by cases args; simp_all
  obtain ⟨rfl, rfl⟩ := trodVars_none hV
  obtain ⟨a0, rfl, rfl, rfl, y0⟩ := open_string Tryd.underlying9 (hval 0 9 v0 rfl rfl) h0
  have w0 : a0.size ≤ 140737488351232 := by
    have z := sized_string hsz (j := 0) (t := 9) rfl rfl
    rw [Array.length_toList] at z
    exact z
  clear hA0 hval0 hsz0 hsz
  refine (A.linkhouselaw1_TokenSplitMatchesSpec.walk Tp.pure a0 W hG w0).mono fun e W' ⟨he, bel⟩ => ?_
  subst he
  exact ⟨_, rfl, _, _, _, [], _, [], hW', trodAll_mk1 (shut_bool Tryd.underlying4 _), (trodAll_cons_mk (shut_string Tryd.underlying9 y0) trodAll_mk0), rfl, bel.frame _, fun h => by cases h⟩
theorem cf0 : (Rows.tokenSplitMatchesSpecRow.wf (OpenSpec.ofChange Rows.tokenSplitMatchesSpecSpec)) = true := by kernel_rfl
theorem cf1 : (laidOutB Tryd.prog) = true := by kernel_rfl
theorem cf2 : (mapsRowed Tryd.prog) = true := by kernel_rfl
theorem cf3 : (Tryd.f3.params.all (Tryd.prog.readableRec ·)) = true := by kernel_rfl
theorem cf4 : (namedTie Tryd.prog Rows.tokenSplitMatchesSpecRow.named Rows.tokenSplitMatchesSpecSpec.vars) = true := by kernel_rfl
theorem cf5 : ((Rows.tokenSplitMatchesSpecRow.stops == [])) = true := by kernel_rfl
theorem cf6 : ((Tryd.prog.stops == [])) = true := by kernel_rfl
theorem cf7 : ((Rows.tokenSplitMatchesSpecRow.knobs == [])) = true := by kernel_rfl
theorem cf8 : ((Tryd.prog.stopKnobs == [])) = true := by kernel_rfl
theorem cf9 : ((Rows.tokenSplitMatchesSpecRow.inPlace == Tryd.prog.inPlace 3)) = true := by kernel_rfl
theorem cf10 : ((Rows.tokenSplitMatchesSpecRow.unfollowed == Tryd.prog.unfollowed 3)) = true := by kernel_rfl
theorem cf11 : ((Rows.tokenSplitMatchesSpecRow.recurses == Tryd.prog.recurses 3)) = true := by kernel_rfl
theorem cf12 : ((Rows.tokenSplitMatchesSpecRow.named == Tryd.prog.varsNamed 3)) = true := by kernel_rfl
theorem cf13 : ((Rows.tokenSplitMatchesSpecRow.maps == (Tryd.f3.params.toList ++ Rows.tokenSplitMatchesSpecSpec.plain.varTypes Tryd.prog).any (Tryd.prog.mapsRec ·))) = true := by kernel_rfl
theorem cf14 : ((Rows.tokenSplitMatchesSpecRow.ifaces == (Tryd.f3.params.toList ++ Rows.tokenSplitMatchesSpecSpec.plain.varTypes Tryd.prog).any (Tryd.prog.ifacesRec ·))) = true := by kernel_rfl
theorem cf15 : ((Rows.tokenSplitMatchesSpecRow.mapsOut == Tryd.prog.mapsAmong Tryd.f3.resultTypes.toList)) = true := by kernel_rfl
theorem cf16 : ((Rows.tokenSplitMatchesSpecRow.loops == (Tryd.f3.params.toList ++ Rows.tokenSplitMatchesSpecSpec.plain.varTypes Tryd.prog).any (Tryd.prog.loopsFrom ·))) = true := by kernel_rfl
theorem cf17 : ((Rows.tokenSplitMatchesSpecRow.wideKeys == (Tryd.f3.params.toList ++ Rows.tokenSplitMatchesSpecSpec.plain.varTypes Tryd.prog ++ Tryd.f3.resultTypes.toList).any (Tryd.prog.wideKeysFrom ·))) = true := by kernel_rfl
theorem cf18 : (Rows.tokenSplitMatchesSpecSpec.vars.all (Tryd.prog.varReadable ·)) = true := by kernel_rfl
theorem cf19 : (Tryd.f3.resultTypes.all (fun t => Tryd.prog.readableRec t && decide (t < Tryd.prog.types.size))) = true := by kernel_rfl
theorem cf20 : ((Rows.tokenSplitMatchesSpecRow.ifacesOut == Tryd.f3.resultTypes.toList.any (Tryd.prog.ifacesRec ·))) = true := by kernel_rfl
theorem cf21 : ((Rows.tokenSplitMatchesSpecRow.loopsOut == Tryd.f3.resultTypes.toList.any (Tryd.prog.loopsFrom ·))) = true := by kernel_rfl
theorem cf22 : ((Rows.tokenSplitMatchesSpecRow.plainKeys == Tryd.prog.plainKeys)) = true := by kernel_rfl
theorem cf23 : (Rows.tokenSplitMatchesSpecRow.shortTexts.isNone) = true := by kernel_rfl
theorem cf24 : (Tryd.prog.stopsHeard) = true := by kernel_rfl
theorem cf25 : (Tryd.prog.mayEnter) = true := K.mayEnter
theorem cf26 : ((Rows.tokenSplitMatchesSpecRow.lifted == Tryd.prog.liftsFinal)) = true := K.lifted
theorem cf27 : ((Tryd.prog.make == some Rows.tokenSplitMatchesSpecRow.make)) = true := K.made
theorem cf28 : ((Rows.tokenSplitMatchesSpecRow.kinds == (if Rows.tokenSplitMatchesSpecRow.domain.isEmpty then [] else Tryd.f3.params.toList.map fun t => match Tryd.prog.underlying t with | some (.int k) => some k | _ => none))) = true := by kernel_rfl
theorem cf29 : ((Rows.tokenSplitMatchesSpecRow.pinned == Rows.tokenSplitMatchesSpecRow.pinnedBy)) = true := by kernel_rfl
theorem cf30 : ((Rows.tokenSplitMatchesSpecRow.veiled == (Tryd.f3.params.toList ++ Rows.tokenSplitMatchesSpecSpec.plain.varTypes Tryd.prog ++ Tryd.f3.resultTypes.toList).any (Tryd.prog.veiledRec ·))) = true := by kernel_rfl
theorem cf31 : (Rows.tokenSplitMatchesSpecRow.veiledFits Tryd.prog Tryd.f3.params.toList (Tryd.f3.params.toList ++ Rows.tokenSplitMatchesSpecSpec.plain.varTypes Tryd.prog ++ Tryd.f3.resultTypes.toList)) = true := by kernel_rfl
set_option maxRecDepth 100000 in
theorem joined : joinedFacts Tryd.prog 3 Tryd.f3 Rows.tokenSplitMatchesSpecSpec Rows.tokenSplitMatchesSpecRow = true := by
  unfold joinedFacts
  exact (Bool.and_eq_true_iff.2 ⟨(Bool.and_eq_true_iff.2 ⟨(Bool.and_eq_true_iff.2 ⟨(Bool.and_eq_true_iff.2 ⟨(Bool.and_eq_true_iff.2 ⟨(Bool.and_eq_true_iff.2 ⟨(Bool.and_eq_true_iff.2 ⟨(Bool.and_eq_true_iff.2 ⟨(Bool.and_eq_true_iff.2 ⟨(Bool.and_eq_true_iff.2 ⟨(Bool.and_eq_true_iff.2 ⟨(Bool.and_eq_true_iff.2 ⟨(Bool.and_eq_true_iff.2 ⟨(Bool.and_eq_true_iff.2 ⟨(Bool.and_eq_true_iff.2 ⟨(Bool.and_eq_true_iff.2 ⟨(Bool.and_eq_true_iff.2 ⟨(Bool.and_eq_true_iff.2 ⟨(Bool.and_eq_true_iff.2 ⟨(Bool.and_eq_true_iff.2 ⟨(Bool.and_eq_true_iff.2 ⟨(Bool.and_eq_true_iff.2 ⟨(Bool.and_eq_true_iff.2 ⟨(Bool.and_eq_true_iff.2 ⟨(Bool.and_eq_true_iff.2 ⟨(Bool.and_eq_true_iff.2 ⟨(Bool.and_eq_true_iff.2 ⟨(Bool.and_eq_true_iff.2 ⟨(Bool.and_eq_true_iff.2 ⟨(Bool.and_eq_true_iff.2 ⟨(Bool.and_eq_true_iff.2 ⟨cf0, cf1⟩), cf2⟩), cf3⟩), cf4⟩), cf5⟩), cf6⟩), cf7⟩), cf8⟩), cf9⟩), cf10⟩), cf11⟩), cf12⟩), cf13⟩), cf14⟩), cf15⟩), cf16⟩), cf17⟩), cf18⟩), cf19⟩), cf20⟩), cf21⟩), cf22⟩), cf23⟩), cf24⟩), cf25⟩), cf26⟩), cf27⟩), cf28⟩), cf29⟩), cf30⟩), cf31⟩)
theorem inst : Tryd.f3.isInstance Tryd.prog Rows.tokenSplitMatchesSpecRow.origin Rows.tokenSplitMatchesSpecRow.targs := of_decide_eq_true (by kernel_rfl)
theorem nmain : ¬ (Check.packageOf Tryd.f3.name = "main") := of_decide_eq_false (by kernel_rfl)
theorem wrapper : Tryd.f3.isWrapper Tryd.prog Rows.tokenSplitMatchesSpecRow.wrapper Rows.tokenSplitMatchesSpecRow.mainSum := by
  unfold Func.isWrapper
  rw [if_neg nmain]; exact ⟨rfl, rfl⟩
theorem over : Rows.tokenSplitMatchesSpecRow.holds Tryd.pinned (OpenSpec.ofChange Rows.tokenSplitMatchesSpecSpec) :=
  OpenClaim.holds_of_wide 3 Tryd.f3 rfl rfl rfl rfl rfl rfl rfl ⟨rfl, rfl, rfl, rfl, rfl⟩ rfl rfl rfl rfl rfl (by kernel_rfl) Tryd.func3 joined
    inst wrapper
    (fun os started H enc _ => lifted os started H enc)
theorem card_holds : Rows.TokenSplitMatchesSpecCardSaid :=
  Claim7.holds_tied_plain_at .later [] [.data, .data, .data, .sentinel, .sentinel] true (true, "5092405677f6b79ea35aa8790607c72123ec056dde40a25c048a2410fc4bd5bc") true over (fun _ h => by cases h) (by kernel_rfl) (fun _ h => by cases h) tokenSplitMatchesSpec_row_tie rfl ⟨rfl, rfl⟩ (by kernel_rfl) rfl
    (fun f fn hf hfn => by
      obtain rfl : f = 3 := Option.some.inj ((show Tryd.prog.funcNamed "linkhouse/linkhouselaw1.TokenSplitMatchesSpec" = some 3 by kernel_rfl).symm.trans hf) |>.symm
      obtain rfl : fn = Tryd.f3 := (Option.some.inj (Tryd.func3.symm.trans hfn)).symm
      exact ⟨by kernel_rfl, fun j t ht => by
        rw [Tryd.params3] at ht
        have hm : t ∈ [9] := by simpa using Array.mem_of_getElem? ht
        have hall : ([9].all fun u => !Tryd.prog.wantsStandIn u) = true := by kernel_rfl
        exact (show Tryd.prog.wantsStandIn t = false by simpa using List.all_eq_true.1 hall t hm)⟩)
    (by kernel_rfl)
#print axioms card_holds
end Go.Proofs.YtipjpdiianopcaaDoor.tokenSplitMatchesSpec
namespace Go.Proofs.YtipjpdiianopcaaDoor
/-- The card, under a short name, for the claim. -/
theorem tokenSplitMatchesSpecCard_holds : Rows.TokenSplitMatchesSpecCardSaid := tokenSplitMatchesSpec.card_holds
end Go.Proofs.YtipjpdiianopcaaDoor
