/- Functions of the program as plain Lean functions, each with a proof that the call of the Go function answers as it does. -/
import Derived.Test.YtipjpdiianopcaaEx0
import Derived.Test.YtipjpdiianopcaaEx1
import Derived.Test.YtipjpdiianopcaaEx2
import Derived.Test.YtipjpdiianopcaaAx0
import Derived.Test.YtipjpdiianopcaaAx10
import Derived.Test.YtipjpdiianopcaaAx2
import Derived.Test.YtipjpdiianopcaaAx7
import Derived.Test.YtipjpdiianopcaaAx9
import Derived.Test.YtipjpdiianopcaaCv
namespace Go.Proofs.Ytipjpdiianopcaa.E
open Go.RowKit Go.Proofs.YtipjpdiianopcaaW.PrintWords Go.Proofs.YtipjpdiianopcaaW.PrintLast Go.Proofs.YtipjpdiianopcaaW.PrintMore Go.Proofs.Ytipjpdiianopcaa.A Go.Proofs.Ytipjpdiianopcaa.Cv Go.Proofs.Ytipjpdiianopcaa.Cd
attribute [local go_sem] max2_int min2_int max_two min_two max_three min_three max_four min_four   -- for this text's walks alone
set_option linter.unusedVariables false
set_option linter.unusedSimpArgs false

attribute [local go_sem high] eqA27
/-! ### linkhouselaw1_IsaValidateMatchesSpec: function 8 -/
mutual
def linkhouselaw1_IsaValidateMatchesSpec.j0 : Nat → List (S54) → Int → Bool → Int → Int → Option (Bool)
  | 0, _, _, _, _, _ => none
  | k + 1, x0, x1, x26, x185000, x185001 => if x26 = true then ((linkhouseref1_At.f 3 (-2)).bind fun bt188 => (linkhouselaw1_IsaValidateMatchesSpec.j1 k x0 x1 bt188.1 bt188.2)) else (linkhouselaw1_IsaValidateMatchesSpec.j1 k x0 x1 x185000 x185001)
def linkhouselaw1_IsaValidateMatchesSpec.j1 : Nat → List (S54) → Int → Int → Int → Option (Bool)
  | 0, _, _, _, _ => none
  | k + 1, x0, x1, x185000, x185001 => (isa_Size.f k x0 x1).bind fun bt190 => (if x185000 = 0 then (if bt190.2.1 = 0 then (if 0 ≤ x1 then (if x1 < (x0.length : Int) then ((linkhouseref1_FormSize.f k ((rd_T54 x0 x1).f0) ((rd_T54 x0 x1).f1) ((rd_T54 x0 x1).f2)).bind fun t195 => (some (bt190.1 == t195))) else (none)) else (none)) else (some false)) else (if (bt190.2.1 == x185000 && (bt190.2.2 == x185001)) = true then (some (bt190.1 == 0)) else (some false)))
end
def linkhouselaw1_IsaValidateMatchesSpec.f (k : Nat) (l0 : List (S54)) (a1 : Int) : Option (Bool) := (linkhouselaw1_isaExample.f k).bind fun t181 => (if t181 = true then ((linkhouseref1_TableFault.f k l0).bind fun bt182 => ((isa_Validate.f k l0).bind fun bt185 => (if (!(bt185.1 == bt182.1) || (!(bt185.2 == bt182.2))) = true then (some false) else (if bt182.1 = 0 then ((linkhouseref1_In.f a1 0 (wrap64 ((l0.length : Int) - 1))).bind fun t187 => (linkhouselaw1_IsaValidateMatchesSpec.j0 k l0 a1 (!t187) bt182.1 bt182.2)) else (linkhouselaw1_IsaValidateMatchesSpec.j0 k l0 a1 false bt182.1 bt182.2))))) else (some false))
theorem linkhouselaw1_IsaValidateMatchesSpec.mono_l : ∀ k, (∀ y0 y1 y2 y3 y4, LeO (linkhouselaw1_IsaValidateMatchesSpec.j0 k y0 y1 y2 y3 y4) (linkhouselaw1_IsaValidateMatchesSpec.j0 (k + 1) y0 y1 y2 y3 y4)) ∧ (∀ y0 y1 y2 y3, LeO (linkhouselaw1_IsaValidateMatchesSpec.j1 k y0 y1 y2 y3) (linkhouselaw1_IsaValidateMatchesSpec.j1 (k + 1) y0 y1 y2 y3))
  | 0 => ⟨fun _ _ _ _ _ r h => by simp [linkhouselaw1_IsaValidateMatchesSpec.j0] at h, fun _ _ _ _ r h => by simp [linkhouselaw1_IsaValidateMatchesSpec.j1] at h⟩
  | k + 1 => by
    obtain ⟨ih0, ih1⟩ := linkhouselaw1_IsaValidateMatchesSpec.mono_l k
    refine ⟨?_, ?_⟩
    · intro y0 y1 y2 y3 y4
      unfold linkhouselaw1_IsaValidateMatchesSpec.j0
      repeat' first
      | (with_reducible exact ih0 _ _ _ _ _)
      | (with_reducible exact ih1 _ _ _ _)
      | (with_reducible exact isa_Size.mono _ _ _)
      | (with_reducible exact isa_Validate.mono _ _)
      | (with_reducible exact linkhouselaw1_isaExample.mono _)
      | (with_reducible exact linkhouseref1_FormSize.mono _ _ _ _)
      | (with_reducible exact linkhouseref1_TableFault.mono _ _)
      | (with_reducible exact LeO.refl _)
      | (with_reducible exact LeO.none _)
      | (with_reducible refine LeO.ite ?_ ?_)
      | (with_reducible refine LeO.bind ?_ (fun _ => ?_))
      | exact ih0 _ _ _ _ _
      | exact ih1 _ _ _ _
      | exact isa_Size.mono _ _ _
      | exact isa_Validate.mono _ _
      | exact linkhouselaw1_isaExample.mono _
      | exact linkhouseref1_FormSize.mono _ _ _ _
      | exact linkhouseref1_TableFault.mono _ _
      | exact LeO.none _
      | refine LeO.ite ?_ ?_
      | refine LeO.bind ?_ (fun _ => ?_)
    · intro y0 y1 y2 y3
      unfold linkhouselaw1_IsaValidateMatchesSpec.j1
      repeat' first
      | (with_reducible exact ih0 _ _ _ _ _)
      | (with_reducible exact ih1 _ _ _ _)
      | (with_reducible exact isa_Size.mono _ _ _)
      | (with_reducible exact isa_Validate.mono _ _)
      | (with_reducible exact linkhouselaw1_isaExample.mono _)
      | (with_reducible exact linkhouseref1_FormSize.mono _ _ _ _)
      | (with_reducible exact linkhouseref1_TableFault.mono _ _)
      | (with_reducible exact LeO.refl _)
      | (with_reducible exact LeO.none _)
      | (with_reducible refine LeO.ite ?_ ?_)
      | (with_reducible refine LeO.bind ?_ (fun _ => ?_))
      | exact ih0 _ _ _ _ _
      | exact ih1 _ _ _ _
      | exact isa_Size.mono _ _ _
      | exact isa_Validate.mono _ _
      | exact linkhouselaw1_isaExample.mono _
      | exact linkhouseref1_FormSize.mono _ _ _ _
      | exact linkhouseref1_TableFault.mono _ _
      | exact LeO.none _
      | refine LeO.ite ?_ ?_
      | refine LeO.bind ?_ (fun _ => ?_)
theorem linkhouselaw1_IsaValidateMatchesSpec.mono : ∀ a0 a1 k, LeO (linkhouselaw1_IsaValidateMatchesSpec.f k a0 a1) (linkhouselaw1_IsaValidateMatchesSpec.f (k + 1) a0 a1) := by
  intro a0 a1 k
  obtain ⟨ih0, ih1⟩ := linkhouselaw1_IsaValidateMatchesSpec.mono_l k
  unfold linkhouselaw1_IsaValidateMatchesSpec.f
  repeat' first
      | (with_reducible exact ih0 _ _ _ _ _)
      | (with_reducible exact ih1 _ _ _ _)
      | (with_reducible exact isa_Size.mono _ _ _)
      | (with_reducible exact isa_Validate.mono _ _)
      | (with_reducible exact linkhouselaw1_isaExample.mono _)
      | (with_reducible exact linkhouseref1_FormSize.mono _ _ _ _)
      | (with_reducible exact linkhouseref1_TableFault.mono _ _)
      | (with_reducible exact LeO.refl _)
      | (with_reducible exact LeO.none _)
      | (with_reducible refine LeO.ite ?_ ?_)
      | (with_reducible refine LeO.bind ?_ (fun _ => ?_))
      | exact ih0 _ _ _ _ _
      | exact ih1 _ _ _ _
      | exact isa_Size.mono _ _ _
      | exact isa_Validate.mono _ _
      | exact linkhouselaw1_isaExample.mono _
      | exact linkhouseref1_FormSize.mono _ _ _ _
      | exact linkhouseref1_TableFault.mono _ _
      | exact LeO.none _
      | refine LeO.ite ?_ ?_
      | refine LeO.bind ?_ (fun _ => ?_)
set_option maxHeartbeats 8000000 in
set_option maxRecDepth 100000 in
theorem linkhouselaw1_IsaValidateMatchesSpec.calls (k : Nat) (A0 : Option Addr) (c0 : Nat) (l0 : List (S54)) (a1 : Int) (r : Bool) (w : World) (hr0 : Kd.C k54 w A0 l0.length l0) (hc0 : l0.length ≤ c0) (hT : r = true) (h : linkhouselaw1_IsaValidateMatchesSpec.f k l0 a1 = some r) :
    Calls Try.prog 8 #[.slice A0 l0.length c0, .int .i64 a1] w fun e w' => e = .returned (.bool r) ∧ Below w.heap.size w w' := by
  have hu27 := Try.underlying27
  have hu54 := Try.underlying54
  have HT := Aside0.mk hT
  clear hT
  have HR0 := Aside0.mk hr0
  have HC0 := Aside0.mk hc0
  clear hr0 hc0
  have HB := Aside0.mk (Below.refl w.heap.size w)
  have H : ((linkhouselaw1_isaExample.f k).bind fun t181 => (if t181 = true then ((linkhouseref1_TableFault.f k l0).bind fun bt182 => ((isa_Validate.f k l0).bind fun bt185 => (if (!(bt185.1 == bt182.1) || (!(bt185.2 == bt182.2))) = true then (some false) else (if bt182.1 = 0 then ((linkhouseref1_In.f a1 0 (wrap64 ((l0.length : Int) - 1))).bind fun t187 => (linkhouselaw1_IsaValidateMatchesSpec.j0 k l0 a1 (!t187) bt182.1 bt182.2)) else (linkhouselaw1_IsaValidateMatchesSpec.j0 k l0 a1 false bt182.1 bt182.2))))) else (some false))) = some r := h
  clear h
  replace H := Option.bind_eq_some_iff.mp H
  obtain ⟨t181, A30, H⟩ := H
  replace H : (if t181 = true then ((linkhouseref1_TableFault.f k l0).bind fun bt182 => ((isa_Validate.f k l0).bind fun bt185 => (if (!(bt185.1 == bt182.1) || (!(bt185.2 == bt182.2))) = true then (some false) else (if bt182.1 = 0 then ((linkhouseref1_In.f a1 0 (wrap64 ((l0.length : Int) - 1))).bind fun t187 => (linkhouselaw1_IsaValidateMatchesSpec.j0 k l0 a1 (!t187) bt182.1 bt182.2)) else (linkhouselaw1_IsaValidateMatchesSpec.j0 k l0 a1 false bt182.1 bt182.2))))) else (some false)) = some r := H
  have A3 := Aside0.mk A30
  clear A30
  by_cases c4 : t181 = true
  · subst c4
    have H1 : ((linkhouseref1_TableFault.f k l0).bind fun bt182 => ((isa_Validate.f k l0).bind fun bt185 => (if (!(bt185.1 == bt182.1) || (!(bt185.2 == bt182.2))) = true then (some false) else (if bt182.1 = 0 then ((linkhouseref1_In.f a1 0 (wrap64 ((l0.length : Int) - 1))).bind fun t187 => (linkhouselaw1_IsaValidateMatchesSpec.j0 k l0 a1 (!t187) bt182.1 bt182.2)) else (linkhouselaw1_IsaValidateMatchesSpec.j0 k l0 a1 false bt182.1 bt182.2))))) = some r := by rw [if_pos rfl] at H; exact H
    clear H
    have H := H1
    clear H1
    replace H := Option.bind_eq_some_iff.mp H
    obtain ⟨⟨t182, t183⟩, A50, H⟩ := H
    replace H : ((isa_Validate.f k l0).bind fun bt185 => (if (!(bt185.1 == t182) || (!(bt185.2 == t183))) = true then (some false) else (if t182 = 0 then ((linkhouseref1_In.f a1 0 (wrap64 ((l0.length : Int) - 1))).bind fun t187 => (linkhouselaw1_IsaValidateMatchesSpec.j0 k l0 a1 (!t187) t182 t183)) else (linkhouselaw1_IsaValidateMatchesSpec.j0 k l0 a1 false t182 t183)))) = some r := H
    have A5 := Aside0.mk A50
    clear A50
    replace H := Option.bind_eq_some_iff.mp H
    obtain ⟨⟨t185, t186⟩, A60, H⟩ := H
    replace H : (if (!(t185 == t182) || (!(t186 == t183))) = true then (some false) else (if t182 = 0 then ((linkhouseref1_In.f a1 0 (wrap64 ((l0.length : Int) - 1))).bind fun t187 => (linkhouselaw1_IsaValidateMatchesSpec.j0 k l0 a1 (!t187) t182 t183)) else (linkhouselaw1_IsaValidateMatchesSpec.j0 k l0 a1 false t182 t183))) = some r := H
    have A6 := Aside0.mk A60
    clear A60
    by_cases c7 : (!(t185 == t182) || (!(t186 == t183))) = true
    · rw [if_pos c7] at H
      have c7b0 : (!(t185 == t182) || (!(t186 == t183))) = true := c7
      clear c7
      exact absurd ((Option.some.inj H).trans HT.out) (by decide)
    · rw [if_neg c7] at H
      have c7b0 : (!(t185 == t182) || (!(t186 == t183))) = false := by simpa using c7
      clear c7
      have HC8 := Aside0.mk H
      clear H
      go_enter Try.func8, Try.ntmps8
      try go_wp2_with (first | ((with_reducible refine gate_callee (f := 33) rfl ?_); refine goesL_ (some 8) rfl rfl Try.func33 (by kernel_rfl) rfl #[] rfl (by (try simp only [List.map_toArray, List.map_cons, List.map_nil]); first | done | rfl | (simp only [List.length_drop, List.length_take]; rfl)) ?_; (with_reducible refine (linkhouselaw1_isaExample.calls k  true _ rfl A3.out).mono ?_); rintro e w9 ⟨rfl, hb⟩; refine ⟨_, rfl, ?_⟩; have n0_ := Aside0.mk (below_step (by repeat (first | (with_reducible first | exact HB.out | apply below_alloc | apply pw_below_drewN | apply below_drew1) | exact HB.out)) hb); clear HB; have HB := n0_; clear n0_; (try clear hb); (try clear hb2); (try clear hk); (try clear hi)) | ((with_reducible refine gate_callee (f := 34) rfl ?_); refine goesL_ (some 11) rfl rfl Try.func34 (by kernel_rfl) rfl #[.slice A0 l0.length c0] rfl (by (try simp only [List.map_toArray, List.map_cons, List.map_nil]); first | done | rfl | (simp only [List.length_drop, List.length_take]; rfl)) ?_; (with_reducible refine (linkhouseref1_TableFault.calls k _ _ l0 t182 t183 _ ?side1 ?side2 A5.out).mono ?_); (case side1 => repeat (first | exact (Kd.C_below HR0.out HB.out) | (with_reducible refine Kd.C_alloc ?_ _) | (with_reducible refine Kd.C_drewN ?_ _) | (with_reducible refine Kd.C_drew ?_))); (case side2 => exact HC0.out); rintro e w10 ⟨rfl, hb⟩; refine ⟨_, rfl, ?_⟩; have n0_ := Aside0.mk (below_step (by repeat (first | (with_reducible first | exact HB.out | apply below_alloc | apply pw_below_drewN | apply below_drew1) | exact HB.out)) hb); clear HB; have HB := n0_; clear n0_; (try clear hb); (try clear hb2); (try clear hk); (try clear hi)) | ((with_reducible refine gate_dst (N := 5) rfl ?_); (try (refine gate_guard (by rfl) ?_; dsimp only)); refine box_event ?hg (N := 5) ?hd (cs := #[.int .i64 0, .int .i64 0]) (t := 27) ?hr ?_; (case hd => rfl); (case hg => rfl); (case hr => first | (go_simp; done) | (go_simp; rfl)); intro gb184 hg w11 hbox hb; have n0_ := Aside0.mk (below_step (by repeat (first | (with_reducible first | exact HB.out | apply below_alloc | apply pw_below_drewN | apply below_drew1) | exact HB.out)) hb); have n1_ := Aside0.mk (hbox); have n2_ := Aside0.mk ((by rw [hg]; exact (below_size (by repeat (first | (with_reducible first | exact HB.out | apply below_alloc | apply pw_below_drewN | apply below_drew1) | exact HB.out))) : w.heap.size ≤ gb184)); have n3_ := Aside0.mk ((by rw [hg]; exact (below_size (by repeat (first | (with_reducible first | exact HB.out | apply below_alloc | apply pw_below_drewN | apply below_drew1) | exact HB.out))) : w.heap.size ≤ gb184)); clear HB; have HB := n0_; have BK184 := n1_; have GW184 := n2_; have GE184 := n3_; clear n0_ n1_ n2_ n3_; clear hb hbox hg; have hcz12_0 : w11.cell? ⟨gb184, 0, none⟩ = some (.int .i64 0) := (blk_cell BK184.out 0).trans rfl; have hcz12_1 : w11.cell? ⟨gb184, 1, none⟩ = some (.int .i64 0) := (blk_cell BK184.out 1).trans rfl; have hfz12_0 := blk_frozen BK184.out 0; have hfz12_1 := blk_frozen BK184.out 1))
      have n0_ : Aside0 (((w11.setCell ⟨gb184, 0, none⟩ (.int .i64 t182)).setCell ⟨gb184, 1, none⟩ (.int .i64 t183)).heap[gb184]? = some (.cells #[.int .i64 t182, .int .i64 t183] 27 (0, 0))) := ⟨by (with_reducible repeat (first | refine blk_drewN ?_ _ | refine blk_drew ?_ | refine blk_alloc ?_ _)); refine blk_put (cs := #[.int .i64 t182, .int .i64 0]) ?_ 1 _ rfl; (with_reducible repeat (first | refine blk_drewN ?_ _ | refine blk_drew ?_ | refine blk_alloc ?_ _)); refine blk_put (cs := #[.int .i64 0, .int .i64 0]) ?_ 0 _ rfl; (with_reducible repeat (first | refine blk_drewN ?_ _ | refine blk_drew ?_ | refine blk_alloc ?_ _)); exact BK184.out⟩
      have n1_ : Aside0 (Below w.heap.size w ((w11.setCell ⟨gb184, 0, none⟩ (.int .i64 t182)).setCell ⟨gb184, 1, none⟩ (.int .i64 t183))) := ⟨by repeat (first | (with_reducible first | exact HB.out | apply below_alloc | apply pw_below_drewN | apply below_drew1 | refine below_set ?_ GE184.out) | exact HB.out)⟩
      (try clear BK184)
      (try clear HB)
      generalize ((w11.setCell ⟨gb184, 0, none⟩ (.int .i64 t182)).setCell ⟨gb184, 1, none⟩ (.int .i64 t183)) = w13 at n0_ n1_ ⊢
      have BK184 := n0_
      have HB := n1_
      clear n0_ n1_
      have n0_ := Aside0.mk (blk_drew BK184.out)
      have n1_ := Aside0.mk (below_drew1 HB.out)
      clear BK184
      clear HB
      have BK184 := n0_
      have HB := n1_
      clear n0_ n1_
      refine start_ (n := 4) (S := fun w' => w'.cell? ⟨gb184, 0, none⟩ = some (.int .i64 t182) ∧ w'.cell? ⟨gb184, 1, none⟩ = some (.int .i64 t183)) (ds := []) #[false, false, false, false] (by kernel_rfl) rfl rfl ⟨(blk_cell BK184.out 0).trans rfl, (blk_cell BK184.out 1).trans rfl⟩ (fun hHeld => ?_)
      generalize w13.drew = w14 at BK184 HB hHeld ⊢
      refine pure_ (i := 0) (N := some 12) (v := ?_) (a' := ?_) #[true, false, false, false] rfl rfl (by kernel_rfl) (fun _ _ _ h => h) (Or.inl ⟨by rfl, ?_⟩) ?_ ?_
      rotate_left
      · intro w'
        go_simp
        with_reducible rfl
      rotate_left
      · simp only [Act.put, List.setIfInBounds_toArray, List.set_cons_zero, List.set_cons_succ, i64_w, i32_w]
        rfl
      refine take_ (i := 2) (N := some 14) (v := ?_) (a' := ?_) #[true, false, true, false] rfl rfl (by kernel_rfl) (fun _ _ _ h => h) (Or.inl ⟨by rfl, ?_⟩) hHeld ?_ ?_
      rotate_left
      · rintro w' ⟨s0, s1⟩
        go_simp
        with_reducible rfl
      rotate_left
      · simp only [Act.put, List.setIfInBounds_toArray, List.set_cons_zero, List.set_cons_succ, i64_w, i32_w]
        rfl
      refine one_ (i := 1) (N := some 13) #[true, true, true, false] rfl rfl (by kernel_rfl) (by decide) (fun K hK => ?_)
      refine goes_ Try.func35 (by kernel_rfl) rfl #[.slice A0 l0.length c0] (by rfl) rfl rfl (by (try simp only [List.map_toArray, List.map_cons, List.map_nil]); first | done | rfl | (simp only [List.length_drop, List.length_take]; rfl)) ?_
      with_reducible refine (isa_Validate.calls k _ _ l0 t185 t186 _ ?side1 ?side2 A6.out).mono ?_
      (case side1 => repeat (first | exact (Kd.C_below HR0.out HB.out) | (with_reducible refine Kd.C_alloc ?_ _) | (with_reducible refine Kd.C_drewN ?_ _) | (with_reducible refine Kd.C_drew ?_)))
      (case side2 => exact HC0.out)
      rintro e w15 ⟨rfl, hb⟩
      refine ⟨_, rfl, ?_⟩
      have n0_ := Aside0.mk (blk_below (g := gb184) (o := .cells #[.int .i64 t182, .int .i64 t183] 27 (0, 0)) (by (with_reducible repeat (first | refine blk_drewN ?_ _ | refine blk_drew ?_ | refine blk_alloc ?_ _)); exact BK184.out) hb)
      have n1_ := Aside0.mk (below_step (by repeat (first | (with_reducible first | exact HB.out | apply below_alloc | apply pw_below_drewN | apply below_drew1 | refine below_set ?_ GE184.out) | exact HB.out)) hb)
      clear BK184
      clear HB
      have BK184 := n0_
      have HB := n1_
      clear n0_ n1_
      (try clear hb)
      (try clear hb2)
      (try clear hk)
      (try clear hi)
      refine hK.out _ _ ⟨(blk_cell BK184.out 0).trans rfl, (blk_cell BK184.out 1).trans rfl⟩ (fun hHeld => ?_)
      clear hK K
      refine norm_ (a' := ?_) ?_ ?_
      rotate_left
      · show Act.put _ (some 13) _ = _
        simp only [Act.put, List.setIfInBounds_toArray, List.set_cons_zero, List.set_cons_succ, i64_w, i32_w]
        rfl
      refine pure_ (i := 3) (N := some 15) (v := ?_) (a' := ?_) #[true, true, true, true] rfl rfl (by kernel_rfl) (fun _ _ _ h => h) (Or.inl ⟨by rfl, ?_⟩) ?_ ?_
      rotate_left
      · intro w'
        go_simp
        with_reducible rfl
      rotate_left
      · simp only [Act.put, List.setIfInBounds_toArray, List.set_cons_zero, List.set_cons_succ, i64_w, i32_w]
        rfl
      refine done_ (by kernel_rfl) ?_
      go_upto_region 6 with (fail)
      go_cut [26] (fun v26 wc => ∃ (kq : Nat) (x26_7 : Bool), v26 = .bool x26_7 ∧ Aside0 (linkhouselaw1_IsaValidateMatchesSpec.j0 kq l0 a1 x26_7 t182 t183 = some r) ∧ Aside0 (kq ≤ k) ∧ Aside0 (wc.heap[gb184]? = some (.cells #[.int .i64 t182, .int .i64 t183] 27 (0, 0))) ∧ Aside0 (Below w.heap.size w wc))
      case first =>
        have H := HC8.out
        clear HC8
        by_cases c16 : t182 = 0
        · rw [if_pos c16] at H
          have c16b0 : (t182 == 0) = true := beq_iff_eq.mpr c16
          have c16b1 : (t182 != 0) = false := bne_eq_false_iff_eq.mpr c16
          clear c16
          (first | rw [c16b0] | (simp only [i64_w, i32_w]; rw [c16b0]) | skip)
          replace H := Option.bind_eq_some_iff.mp H
          obtain ⟨t187, A170, H⟩ := H
          replace H : (linkhouselaw1_IsaValidateMatchesSpec.j0 k l0 a1 (!t187) t182 t183) = some r := H
          have A17 := Aside0.mk A170
          clear A170
          have H' := Aside0.mk H
          clear H
          have hcz18_0 : w15.cell? ⟨gb184, 0, none⟩ = some (.int .i64 t182) := (blk_cell BK184.out 0).trans rfl
          have hcz18_1 : w15.cell? ⟨gb184, 1, none⟩ = some (.int .i64 t183) := (blk_cell BK184.out 1).trans rfl
          have hfz18_0 := blk_frozen BK184.out 0
          have hfz18_1 := blk_frozen BK184.out 1
          go_wp2_with (first | (go_at_call 36; (with_reducible refine (linkhouseref1_In.calls a1 0 (wrap64 ((l0.length : Int) - 1)) t187 _ A17.out).mono ?_); rintro e w' ⟨rfl, ⟨nd, rfl⟩⟩))
          go_meet
          case rel => exact ⟨_, (!t187), (by first | rfl | (simp; done) | (simp [*]; done)), H', ⟨by first | omega | exact Nat.le_refl _⟩, ⟨by (with_reducible repeat (first | refine blk_drewN ?_ _ | refine blk_drew ?_ | refine blk_alloc ?_ _)); exact BK184.out⟩, ⟨by repeat (first | (with_reducible first | exact HB.out | apply below_alloc | apply pw_below_drewN | apply below_drew1 | refine below_set ?_ GE184.out) | exact HB.out)⟩⟩
        · rw [if_neg c16] at H
          have c16b0 : (t182 == 0) = false := beq_eq_false_iff_ne.mpr c16
          have c16b1 : (t182 != 0) = true := bne_iff_ne.mpr c16
          (first | rw [c16b0] | (simp only [i64_w, i32_w]; rw [c16b0]) | skip)
          have H' := Aside0.mk H
          clear H
          have hcz19_0 : w15.cell? ⟨gb184, 0, none⟩ = some (.int .i64 t182) := (blk_cell BK184.out 0).trans rfl
          have hcz19_1 : w15.cell? ⟨gb184, 1, none⟩ = some (.int .i64 t183) := (blk_cell BK184.out 1).trans rfl
          have hfz19_0 := blk_frozen BK184.out 0
          have hfz19_1 := blk_frozen BK184.out 1
          go_wp2
          go_meet
          case rel => exact ⟨_, (false), (by first | rfl | (simp; done) | (simp [*]; done)), H', ⟨by first | omega | exact Nat.le_refl _⟩, ⟨by (with_reducible repeat (first | refine blk_drewN ?_ _ | refine blk_drew ?_ | refine blk_alloc ?_ _)); exact BK184.out⟩, ⟨by repeat (first | (with_reducible first | exact HB.out | apply below_alloc | apply pw_below_drewN | apply below_drew1 | refine below_set ?_ GE184.out) | exact HB.out)⟩⟩
      case rest =>
        clear HC8
        try clear c1
        try clear p2
        try clear c3
        try clear c4
        try clear p6
        try clear c7
        try clear c7b0
        try clear c8
        try clear c16
        try clear c16b0
        try clear c16b1
        try clear hcz12_0
        try clear hcz12_1
        try clear hcz18_0
        try clear hcz18_1
        try clear hcz19_0
        try clear hcz19_1
        try clear hfz12_0
        try clear hfz12_1
        try clear hfz18_0
        try clear hfz18_1
        try clear hfz19_0
        try clear hfz19_1
        obtain ⟨kq, x26_7, rfl, HA, HJ7, BK184, HB⟩ := hcut
        cases kq with
        | zero => exact absurd HA.out (by simp [linkhouselaw1_IsaValidateMatchesSpec.j0])
        | succ kj7 =>
          have H := HA.out
          clear HA
          simp only [linkhouselaw1_IsaValidateMatchesSpec.j0] at H
          have HC20 := Aside0.mk H
          clear H
          go_upto_if 26 with (fail)
          go_cut [] (fun wc => ∃ (kq : Nat) (x185000_19 : Int) (x185001_19 : Int), Aside0 (linkhouselaw1_IsaValidateMatchesSpec.j1 kq l0 a1 x185000_19 x185001_19 = some r) ∧ Aside0 (kq ≤ kj7) ∧ Aside0 (wc.heap[gb184]? = some (.cells #[.int .i64 x185000_19, .int .i64 x185001_19] 27 (0, 0))) ∧ Aside0 (Below w.heap.size w wc))
          case first =>
            have H := HC20.out
            clear HC20
            by_cases c21 : x26_7 = true
            · subst c21
              have H1 : ((linkhouseref1_At.f 3 (-2)).bind fun bt188 => (linkhouselaw1_IsaValidateMatchesSpec.j1 kj7 l0 a1 bt188.1 bt188.2)) = some r := by rw [if_pos rfl] at H; exact H
              clear H
              have H := H1
              clear H1
              replace H := Option.bind_eq_some_iff.mp H
              obtain ⟨⟨t188, t189⟩, A220, H⟩ := H
              replace H : (linkhouselaw1_IsaValidateMatchesSpec.j1 kj7 l0 a1 t188 t189) = some r := H
              have A22 := Aside0.mk A220
              clear A220
              have H' := Aside0.mk H
              clear H
              go_wp2_with (first | ((with_reducible refine gate_callee (f := 23) rfl ?_); refine goesL_ (some 27) rfl rfl Try.func23 (by kernel_rfl) rfl #[.int .i64 3, .int .i64 (-2)] rfl (by (try simp only [List.map_toArray, List.map_cons, List.map_nil]); first | done | rfl | (simp only [List.length_drop, List.length_take]; rfl)) ?_; (with_reducible refine (linkhouseref1_At.calls 3 (-2) t188 t189 _ A22.out).mono ?_); rintro e w23 ⟨rfl, hb⟩; refine ⟨_, rfl, ?_⟩; have n0_ := Aside0.mk (blk_below (g := gb184) (o := .cells #[.int .i64 t182, .int .i64 t183] 27 (0, 0)) (by (with_reducible repeat (first | refine blk_drewN ?_ _ | refine blk_drew ?_ | refine blk_alloc ?_ _)); exact BK184.out) hb); have n1_ := Aside0.mk (below_step (by repeat (first | (with_reducible first | exact HB.out | apply below_alloc | apply pw_below_drewN | apply below_drew1 | refine below_set ?_ GE184.out) | exact HB.out)) hb); clear BK184; clear HB; have BK184 := n0_; have HB := n1_; clear n0_ n1_; (try clear hb); (try clear hb2); (try clear hk); (try clear hi); have hcz24_0 : w23.cell? ⟨gb184, 0, none⟩ = some (.int .i64 t182) := (blk_cell BK184.out 0).trans rfl; have hcz24_1 : w23.cell? ⟨gb184, 1, none⟩ = some (.int .i64 t183) := (blk_cell BK184.out 1).trans rfl; have hfz24_0 := blk_frozen BK184.out 0; have hfz24_1 := blk_frozen BK184.out 1))
              go_meet
              case rel => exact ⟨_, (t188), (t189), H', ⟨by have := HJ7.out; first | omega | exact Nat.le_refl _⟩, ⟨by (with_reducible repeat (first | refine blk_drewN ?_ _ | refine blk_drew ?_ | refine blk_alloc ?_ _)); refine blk_put (cs := #[.int .i64 t188, .int .i64 t183]) ?_ 1 _ rfl; (with_reducible repeat (first | refine blk_drewN ?_ _ | refine blk_drew ?_ | refine blk_alloc ?_ _)); refine blk_put (cs := #[.int .i64 t182, .int .i64 t183]) ?_ 0 _ rfl; (with_reducible repeat (first | refine blk_drewN ?_ _ | refine blk_drew ?_ | refine blk_alloc ?_ _)); exact BK184.out⟩, ⟨by repeat (first | (with_reducible first | exact HB.out | apply below_alloc | apply pw_below_drewN | apply below_drew1 | refine below_set ?_ GE184.out) | exact HB.out)⟩⟩
            · replace c21 := Bool.eq_false_iff.mpr c21
              subst c21
              have H1 : (linkhouselaw1_IsaValidateMatchesSpec.j1 kj7 l0 a1 t182 t183) = some r := by rw [if_neg (show ¬ (false = true) by decide)] at H; exact H
              clear H
              have H := H1
              clear H1
              have H' := Aside0.mk H
              clear H
              go_wp2
              go_meet
              case rel => exact ⟨_, (t182), (t183), H', ⟨by have := HJ7.out; first | omega | exact Nat.le_refl _⟩, ⟨by (with_reducible repeat (first | refine blk_drewN ?_ _ | refine blk_drew ?_ | refine blk_alloc ?_ _)); exact BK184.out⟩, ⟨by repeat (first | (with_reducible first | exact HB.out | apply below_alloc | apply pw_below_drewN | apply below_drew1 | refine below_set ?_ GE184.out) | exact HB.out)⟩⟩
          case rest =>
            clear HC20
            try clear c1
            try clear c2
            try clear p2
            try clear c3
            try clear c4
            try clear p6
            try clear c7
            try clear c7b0
            try clear c8
            try clear c16
            try clear c16b0
            try clear c16b1
            try clear c21
            try clear c23
            try clear hcz12_0
            try clear hcz12_1
            try clear hcz18_0
            try clear hcz18_1
            try clear hcz19_0
            try clear hcz19_1
            try clear hcz24_0
            try clear hcz24_1
            try clear hfz12_0
            try clear hfz12_1
            try clear hfz18_0
            try clear hfz18_1
            try clear hfz19_0
            try clear hfz19_1
            try clear hfz24_0
            try clear hfz24_1
            try clear p2
            try clear p6
            obtain ⟨kq, x185000_19, x185001_19, HA, HJ19, BK184, HB⟩ := hcut
            cases kq with
            | zero => exact absurd HA.out (by simp [linkhouselaw1_IsaValidateMatchesSpec.j1])
            | succ kj19 =>
              have H := HA.out
              clear HA
              simp only [linkhouselaw1_IsaValidateMatchesSpec.j1] at H
              replace H := Option.bind_eq_some_iff.mp H
              obtain ⟨⟨t190, t191, t192⟩, A250, H⟩ := H
              replace H : (if x185000_19 = 0 then (if t191 = 0 then (if 0 ≤ a1 then (if a1 < (l0.length : Int) then ((linkhouseref1_FormSize.f kj19 ((rd_T54 l0 a1).f0) ((rd_T54 l0 a1).f1) ((rd_T54 l0 a1).f2)).bind fun t195 => (some (t190 == t195))) else (none)) else (none)) else (some false)) else (if (t191 == x185000_19 && (t192 == x185001_19)) = true then (some (t190 == 0)) else (some false))) = some r := H
              have A25 := Aside0.mk A250
              clear A250
              by_cases c26 : x185000_19 = 0
              · rw [if_pos c26] at H
                have c26b0 : (x185000_19 == 0) = true := beq_iff_eq.mpr c26
                have c26b1 : (x185000_19 != 0) = false := bne_eq_false_iff_eq.mpr c26
                clear c26
                by_cases c27 : t191 = 0
                · rw [if_pos c27] at H
                  have c27b0 : (t191 == 0) = true := beq_iff_eq.mpr c27
                  have c27b1 : (t191 != 0) = false := bne_eq_false_iff_eq.mpr c27
                  clear c27
                  by_cases c28 : 0 ≤ a1
                  · rw [if_pos c28] at H
                    have c28b0 : decide (0 ≤ a1) = true := decide_eq_true c28
                    clear c28
                    by_cases c29 : a1 < (l0.length : Int)
                    · rw [if_pos c29] at H
                      have c29b0 : decide (a1 < (l0.length : Int)) = true := decide_eq_true c29
                      clear c29
                      replace H := Option.bind_eq_some_iff.mp H
                      obtain ⟨t195, A300, H⟩ := H
                      replace H : (some (t190 == t195)) = some r := H
                      have A30 := Aside0.mk A300
                      clear A300
                      obtain rfl := Option.some.inj H
                      go_wp2_with (first | ((with_reducible refine gate_callee (f := 37) rfl ?_); refine goesL_ (some 31) rfl rfl Try.func37 (by kernel_rfl) rfl #[.slice A0 l0.length c0, .int .i64 a1] rfl (by (try simp only [List.map_toArray, List.map_cons, List.map_nil]); first | done | rfl | (simp only [List.length_drop, List.length_take]; rfl)) ?_; (with_reducible refine (isa_Size.calls kj19 _ _ l0 a1 t190 t191 t192 _ ?side1 ?side2 A25.out).mono ?_); (case side1 => repeat (first | exact (Kd.C_below HR0.out HB.out) | (with_reducible refine Kd.C_alloc ?_ _) | (with_reducible refine Kd.C_drewN ?_ _) | (with_reducible refine Kd.C_drew ?_))); (case side2 => exact HC0.out); rintro e w31 ⟨rfl, hb⟩; refine ⟨_, rfl, ?_⟩; have n0_ := Aside0.mk (blk_below (g := gb184) (o := .cells #[.int .i64 x185000_19, .int .i64 x185001_19] 27 (0, 0)) (by (with_reducible repeat (first | refine blk_drewN ?_ _ | refine blk_drew ?_ | refine blk_alloc ?_ _)); exact BK184.out) hb); have n1_ := Aside0.mk (below_step (by repeat (first | (with_reducible first | exact HB.out | apply below_alloc | apply pw_below_drewN | apply below_drew1 | refine below_set ?_ GE184.out) | exact HB.out)) hb); clear BK184; clear HB; have BK184 := n0_; have HB := n1_; clear n0_ n1_; (try clear hb); (try clear hb2); (try clear hk); (try clear hi)) | ((with_reducible refine gate_dst (N := 7) rfl ?_); (try (refine gate_guard (by rfl) ?_; dsimp only)); refine box_event ?hg (N := 7) ?hd (cs := #[.int .i64 0, .int .i64 0]) (t := 27) ?hr ?_; (case hd => rfl); (case hg => rfl); (case hr => first | (go_simp; done) | (go_simp; rfl)); intro gb193 hg w32 hbox hb; have n0_ := Aside0.mk (blk_below (g := gb184) (o := .cells #[.int .i64 x185000_19, .int .i64 x185001_19] 27 (0, 0)) (by (with_reducible repeat (first | refine blk_drewN ?_ _ | refine blk_drew ?_ | refine blk_alloc ?_ _)); exact BK184.out) hb); have n1_ := Aside0.mk (below_step (by repeat (first | (with_reducible first | exact HB.out | apply below_alloc | apply pw_below_drewN | apply below_drew1 | refine below_set ?_ GE184.out) | exact HB.out)) hb); have n2_ := Aside0.mk (hbox); have n3_ := Aside0.mk ((by rw [hg]; exact (below_size (by repeat (first | (with_reducible first | exact HB.out | apply below_alloc | apply pw_below_drewN | apply below_drew1 | refine below_set ?_ GE184.out) | exact HB.out))) : w.heap.size ≤ gb193)); have n4_ := Aside0.mk ((by rw [hg]; exact (below_size (by repeat (first | (with_reducible first | exact HB.out | apply below_alloc | apply pw_below_drewN | apply below_drew1 | refine below_set ?_ GE184.out) | exact HB.out))) : w.heap.size ≤ gb193)); have n5_ := Aside0.mk ((by rw [hg]; exact Nat.ne_of_lt (blk_lt (g := gb184) (o := .cells #[.int .i64 x185000_19, .int .i64 x185001_19] 27 (0, 0)) (by (with_reducible repeat (first | refine blk_drewN ?_ _ | refine blk_drew ?_ | refine blk_alloc ?_ _)); exact BK184.out)) : gb184 ≠ gb193)); have n6_ := Aside0.mk ((by rw [hg]; exact Nat.ne_of_gt (blk_lt (g := gb184) (o := .cells #[.int .i64 x185000_19, .int .i64 x185001_19] 27 (0, 0)) (by (with_reducible repeat (first | refine blk_drewN ?_ _ | refine blk_drew ?_ | refine blk_alloc ?_ _)); exact BK184.out)) : gb193 ≠ gb184)); clear BK184; clear HB; have BK184 := n0_; have HB := n1_; have BK193 := n2_; have GW193 := n3_; have GE193 := n4_; have NB184_193 := n5_; have NB193_184 := n6_; clear n0_ n1_ n2_ n3_ n4_ n5_ n6_; clear hb hbox hg; have hnb33 := NB193_184.out; have hnc33 := NB184_193.out; have hcz34_0 : w32.cell? ⟨gb193, 0, none⟩ = some (.int .i64 0) := (blk_cell BK193.out 0).trans rfl; have hcz34_1 : w32.cell? ⟨gb193, 1, none⟩ = some (.int .i64 0) := (blk_cell BK193.out 1).trans rfl; have hfz34_0 := blk_frozen BK193.out 0; have hfz34_1 := blk_frozen BK193.out 1; have hcz35_0 : w32.cell? ⟨gb184, 0, none⟩ = some (.int .i64 x185000_19) := (blk_cell BK184.out 0).trans rfl; have hcz35_1 : w32.cell? ⟨gb184, 1, none⟩ = some (.int .i64 x185001_19) := (blk_cell BK184.out 1).trans rfl; have hfz35_0 := blk_frozen BK184.out 0; have hfz35_1 := blk_frozen BK184.out 1; have p194 : 0 ≤ (a1 : Int) := of_decide_eq_true (by first | (with_reducible assumption) | assumption); have q194 : a1 < (l0.length : Int) := of_decide_eq_true (by first | (with_reducible assumption) | assumption); obtain ⟨ad194, A194_2, c194_2, e194, hx194_0, hx194_1, hx194_2, hl194_2, hi194_2⟩ := at_T54 HR0.out a1 p194 q194; cases e194; have hn194_0 : ad194.block ≠ gb193 := Nat.ne_of_lt (Nat.lt_of_lt_of_le (by have := World.block_lt_of_cell? _ _ hx194_0; first | rwa [add_block] at this | exact this) GW193.out); have hn194_1 : ad194.block ≠ gb193 := Nat.ne_of_lt (Nat.lt_of_lt_of_le (by have := World.block_lt_of_cell? _ _ hx194_0; first | rwa [add_block] at this | exact this) GW193.out); replace hx194_0 := (HB.out.cell (World.block_lt_of_cell? w _ hx194_0)).trans hx194_0; replace hx194_1 := (HB.out.cell (World.block_lt_of_cell? w _ hx194_1)).trans hx194_1; replace hx194_2 := (HB.out.cell (World.block_lt_of_cell? w _ hx194_2)).trans hx194_2; have HR194_2 := Aside0.mk hi194_2; have HC194_2 := Aside0.mk hl194_2; clear hi194_2 hl194_2; replace hx194_0 := (cell_far (p := ⟨gb193, 0, none⟩) (by first | (rw [add_block]; exact hn194_0) | (show (Addr.add _ _).block ≠ _; rw [add_block]; exact hn194_0) | exact hn194_0) (.int .i64 t191)).trans hx194_0; replace hx194_1 := (cell_far (p := ⟨gb193, 0, none⟩) (by first | (rw [add_block]; exact hn194_0) | (show (Addr.add _ _).block ≠ _; rw [add_block]; exact hn194_0) | exact hn194_0) (.int .i64 t191)).trans hx194_1; replace hx194_2 := (cell_far (p := ⟨gb193, 0, none⟩) (by first | (rw [add_block]; exact hn194_0) | (show (Addr.add _ _).block ≠ _; rw [add_block]; exact hn194_0) | exact hn194_0) (.int .i64 t191)).trans hx194_2; replace hx194_0 := (cell_far (p := ⟨gb193, 1, none⟩) (by first | (rw [add_block]; exact hn194_1) | (show (Addr.add _ _).block ≠ _; rw [add_block]; exact hn194_1) | exact hn194_1) (.int .i64 t192)).trans hx194_0; replace hx194_1 := (cell_far (p := ⟨gb193, 1, none⟩) (by first | (rw [add_block]; exact hn194_1) | (show (Addr.add _ _).block ≠ _; rw [add_block]; exact hn194_1) | exact hn194_1) (.int .i64 t192)).trans hx194_1; replace hx194_2 := (cell_far (p := ⟨gb193, 1, none⟩) (by first | (rw [add_block]; exact hn194_1) | (show (Addr.add _ _).block ≠ _; rw [add_block]; exact hn194_1) | exact hn194_1) (.int .i64 t192)).trans hx194_2; clear hn194_0; clear hn194_1; replace p194 := eq_true p194; replace q194 := eq_true q194) | (go_at_call 38; (with_reducible refine (linkhouseref1_FormSize.calls kj19 ((rd_T54 l0 a1).f0) ((rd_T54 l0 a1).f1) _ _ ((rd_T54 l0 a1).f2) t195 _ ?side1 ?side2 A30.out).mono ?_); (case side1 => exact Kd.C_below HR194_2.out (by repeat (first | (with_reducible first | exact HB.out | apply below_alloc | apply pw_below_drewN | apply below_drew1 | refine below_set ?_ GE184.out | refine below_set ?_ GE193.out) | exact HB.out))); (case side2 => exact HC194_2.out); rintro e w36 ⟨rfl, hb⟩; have n0_ := Aside0.mk (blk_below (g := gb184) (o := .cells #[.int .i64 x185000_19, .int .i64 x185001_19] 27 (0, 0)) (by (with_reducible repeat (first | refine blk_drewN ?_ _ | refine blk_drew ?_ | refine blk_alloc ?_ _)); refine blk_far ?_ NB184_193.out _; (with_reducible repeat (first | refine blk_drewN ?_ _ | refine blk_drew ?_ | refine blk_alloc ?_ _)); refine blk_far ?_ NB184_193.out _; (with_reducible repeat (first | refine blk_drewN ?_ _ | refine blk_drew ?_ | refine blk_alloc ?_ _)); exact BK184.out) hb); have n1_ := Aside0.mk (blk_below (g := gb193) (o := .cells #[.int .i64 t191, .int .i64 t192] 27 (0, 0)) (by (with_reducible repeat (first | refine blk_drewN ?_ _ | refine blk_drew ?_ | refine blk_alloc ?_ _)); refine blk_put (cs := #[.int .i64 t191, .int .i64 0]) ?_ 1 _ rfl; (with_reducible repeat (first | refine blk_drewN ?_ _ | refine blk_drew ?_ | refine blk_alloc ?_ _)); refine blk_put (cs := #[.int .i64 0, .int .i64 0]) ?_ 0 _ rfl; (with_reducible repeat (first | refine blk_drewN ?_ _ | refine blk_drew ?_ | refine blk_alloc ?_ _)); exact BK193.out) hb); have n2_ := Aside0.mk (below_step (by repeat (first | (with_reducible first | exact HB.out | apply below_alloc | apply pw_below_drewN | apply below_drew1 | refine below_set ?_ GE184.out | refine below_set ?_ GE193.out) | exact HB.out)) hb); clear BK184; clear BK193; clear HB; have BK184 := n0_; have BK193 := n1_; have HB := n2_; clear n0_ n1_ n2_; (try clear hb); (try clear hb2); (try clear hk); (try clear hi)))
                      go_ret
                      exact ⟨by first | rfl | (simp [errW_none, errW_some] <;> rfl) | (simp [*, errW_none, errW_some] <;> rfl), by repeat (first | (with_reducible first | exact HB.out | apply below_alloc | apply pw_below_drewN | apply below_drew1 | refine below_set ?_ GE184.out | refine below_set ?_ GE193.out) | exact HB.out)⟩
                    · rw [if_neg c29] at H
                      exact absurd H (by simp)
                  · rw [if_neg c28] at H
                    exact absurd H (by simp)
                · rw [if_neg c27] at H
                  have c27b0 : (t191 == 0) = false := beq_eq_false_iff_ne.mpr c27
                  have c27b1 : (t191 != 0) = true := bne_iff_ne.mpr c27
                  exact absurd ((Option.some.inj H).trans HT.out) (by decide)
              · rw [if_neg c26] at H
                have c26b0 : (x185000_19 == 0) = false := beq_eq_false_iff_ne.mpr c26
                have c26b1 : (x185000_19 != 0) = true := bne_iff_ne.mpr c26
                by_cases c37 : (t191 == x185000_19 && (t192 == x185001_19)) = true
                · rw [if_pos c37] at H
                  have c37b0 : (t191 == x185000_19 && (t192 == x185001_19)) = true := c37
                  (try (have c37b1 : decide (t191 = x185000_19 && (t192 == x185001_19)) = true := by simpa using c37))
                  (try (have c37b2 : (t191 == x185000_19 && (t192 == x185001_19)) = true := by simpa using c37))
                  clear c37
                  obtain rfl := Option.some.inj H
                  go_wp2_with (first | ((with_reducible refine gate_callee (f := 37) rfl ?_); refine goesL_ (some 31) rfl rfl Try.func37 (by kernel_rfl) rfl #[.slice A0 l0.length c0, .int .i64 a1] rfl (by (try simp only [List.map_toArray, List.map_cons, List.map_nil]); first | done | rfl | (simp only [List.length_drop, List.length_take]; rfl)) ?_; (with_reducible refine (isa_Size.calls kj19 _ _ l0 a1 t190 t191 t192 _ ?side1 ?side2 A25.out).mono ?_); (case side1 => repeat (first | exact (Kd.C_below HR0.out HB.out) | (with_reducible refine Kd.C_alloc ?_ _) | (with_reducible refine Kd.C_drewN ?_ _) | (with_reducible refine Kd.C_drew ?_))); (case side2 => exact HC0.out); rintro e w38 ⟨rfl, hb⟩; refine ⟨_, rfl, ?_⟩; have n0_ := Aside0.mk (blk_below (g := gb184) (o := .cells #[.int .i64 x185000_19, .int .i64 x185001_19] 27 (0, 0)) (by (with_reducible repeat (first | refine blk_drewN ?_ _ | refine blk_drew ?_ | refine blk_alloc ?_ _)); exact BK184.out) hb); have n1_ := Aside0.mk (below_step (by repeat (first | (with_reducible first | exact HB.out | apply below_alloc | apply pw_below_drewN | apply below_drew1 | refine below_set ?_ GE184.out) | exact HB.out)) hb); clear BK184; clear HB; have BK184 := n0_; have HB := n1_; clear n0_ n1_; (try clear hb); (try clear hb2); (try clear hk); (try clear hi)) | ((with_reducible refine gate_dst (N := 7) rfl ?_); (try (refine gate_guard (by rfl) ?_; dsimp only)); refine box_event ?hg (N := 7) ?hd (cs := #[.int .i64 0, .int .i64 0]) (t := 27) ?hr ?_; (case hd => rfl); (case hg => rfl); (case hr => first | (go_simp; done) | (go_simp; rfl)); intro gb193 hg w39 hbox hb; have n0_ := Aside0.mk (blk_below (g := gb184) (o := .cells #[.int .i64 x185000_19, .int .i64 x185001_19] 27 (0, 0)) (by (with_reducible repeat (first | refine blk_drewN ?_ _ | refine blk_drew ?_ | refine blk_alloc ?_ _)); exact BK184.out) hb); have n1_ := Aside0.mk (below_step (by repeat (first | (with_reducible first | exact HB.out | apply below_alloc | apply pw_below_drewN | apply below_drew1 | refine below_set ?_ GE184.out) | exact HB.out)) hb); have n2_ := Aside0.mk (hbox); have n3_ := Aside0.mk ((by rw [hg]; exact (below_size (by repeat (first | (with_reducible first | exact HB.out | apply below_alloc | apply pw_below_drewN | apply below_drew1 | refine below_set ?_ GE184.out) | exact HB.out))) : w.heap.size ≤ gb193)); have n4_ := Aside0.mk ((by rw [hg]; exact (below_size (by repeat (first | (with_reducible first | exact HB.out | apply below_alloc | apply pw_below_drewN | apply below_drew1 | refine below_set ?_ GE184.out) | exact HB.out))) : w.heap.size ≤ gb193)); have n5_ := Aside0.mk ((by rw [hg]; exact Nat.ne_of_lt (blk_lt (g := gb184) (o := .cells #[.int .i64 x185000_19, .int .i64 x185001_19] 27 (0, 0)) (by (with_reducible repeat (first | refine blk_drewN ?_ _ | refine blk_drew ?_ | refine blk_alloc ?_ _)); exact BK184.out)) : gb184 ≠ gb193)); have n6_ := Aside0.mk ((by rw [hg]; exact Nat.ne_of_gt (blk_lt (g := gb184) (o := .cells #[.int .i64 x185000_19, .int .i64 x185001_19] 27 (0, 0)) (by (with_reducible repeat (first | refine blk_drewN ?_ _ | refine blk_drew ?_ | refine blk_alloc ?_ _)); exact BK184.out)) : gb193 ≠ gb184)); clear BK184; clear HB; have BK184 := n0_; have HB := n1_; have BK193 := n2_; have GW193 := n3_; have GE193 := n4_; have NB184_193 := n5_; have NB193_184 := n6_; clear n0_ n1_ n2_ n3_ n4_ n5_ n6_; clear hb hbox hg; have hnb40 := NB193_184.out; have hnc40 := NB184_193.out; have hcz41_0 : w39.cell? ⟨gb193, 0, none⟩ = some (.int .i64 0) := (blk_cell BK193.out 0).trans rfl; have hcz41_1 : w39.cell? ⟨gb193, 1, none⟩ = some (.int .i64 0) := (blk_cell BK193.out 1).trans rfl; have hfz41_0 := blk_frozen BK193.out 0; have hfz41_1 := blk_frozen BK193.out 1; have hcz42_0 : w39.cell? ⟨gb184, 0, none⟩ = some (.int .i64 x185000_19) := (blk_cell BK184.out 0).trans rfl; have hcz42_1 : w39.cell? ⟨gb184, 1, none⟩ = some (.int .i64 x185001_19) := (blk_cell BK184.out 1).trans rfl; have hfz42_0 := blk_frozen BK184.out 0; have hfz42_1 := blk_frozen BK184.out 1))
                  go_ret
                  exact ⟨by first | rfl | (simp [errW_none, errW_some] <;> rfl) | (simp [*, errW_none, errW_some] <;> rfl), by repeat (first | (with_reducible first | exact HB.out | apply below_alloc | apply pw_below_drewN | apply below_drew1 | refine below_set ?_ GE184.out | refine below_set ?_ GE193.out) | exact HB.out)⟩
                · rw [if_neg c37] at H
                  have c37b0 : (t191 == x185000_19 && (t192 == x185001_19)) = false := by simpa using c37
                  (try (have c37b1 : decide (t191 = x185000_19 && (t192 == x185001_19)) = false := by simpa using c37))
                  (try (have c37b2 : (t191 == x185000_19 && (t192 == x185001_19)) = false := by simpa using c37))
                  (try (have c37b3 : ¬ (t191 = x185000_19 && (t192 == x185001_19)) := by simpa using c37))
                  clear c37
                  exact absurd ((Option.some.inj H).trans HT.out) (by decide)
  · replace c4 := Bool.eq_false_iff.mpr c4
    subst c4
    have H1 : (some false) = some r := by rw [if_neg (show ¬ (false = true) by decide)] at H; exact H
    clear H
    have H := H1
    clear H1
    exact absurd ((Option.some.inj H).trans HT.out) (by decide)

end Go.Proofs.Ytipjpdiianopcaa.E
