/- Functions of the program as plain Lean functions, each with a proof that the call of the Go function answers as it does. -/
import Derived.Test.YtipjpdiianopcaaEx0
import Derived.Test.YtipjpdiianopcaaCfl
import Derived.Test.YtipjpdiianopcaaEx2
import Derived.Test.YtipjpdiianopcaaAx0
import Derived.Test.YtipjpdiianopcaaCv
namespace Go.Proofs.Ytipjpdiianopcaa.E
open Go.RowKit Go.Proofs.YtipjpdiianopcaaW.PrintWords Go.Proofs.YtipjpdiianopcaaW.PrintLast Go.Proofs.YtipjpdiianopcaaW.PrintMore Go.Proofs.Ytipjpdiianopcaa.A Go.Proofs.Ytipjpdiianopcaa.Cv Go.Proofs.Ytipjpdiianopcaa.Cd
attribute [local go_sem] max2_int min2_int max_two min_two max_three min_three max_four min_four   -- for this text's walks alone
set_option linter.unusedVariables false
set_option linter.unusedSimpArgs false

attribute [local go_sem high] Cfl.fld27_0 Cfl.fld27_1
/-! ### linkhouselaw1_IsaFindsAll: function 10 -/
def linkhouselaw1_IsaFindsAll.l0 : Nat → List (S54) → Int → Option (Bool)
  | 0, _, _ => none
  | k + 1, x0, x3 => if x3 < (x0.length : Int) then (if 0 ≤ x3 then ((isa_Find.f k x0 ((rd_T54 x0 x3).f0) ((rd_T54 x0 x3).f2)).bind fun bt213 => (if bt213.2.1 = 0 then (if bt213.1 = x3 then (linkhouselaw1_IsaFindsAll.l0 k x0 (wrap64 (x3 + 1))) else (some false)) else (some false))) else (none)) else (some true)
def linkhouselaw1_IsaFindsAll.f (k : Nat) (l0 : List (S54)) : Option (Bool) := (linkhouselaw1_isaExample.f k).bind fun t208 => (if t208 = true then ((isa_Validate.f k l0).bind fun bt209 => (if bt209.1 = 0 then (linkhouselaw1_IsaFindsAll.l0 k l0 0) else (some true))) else (some false))
theorem linkhouselaw1_IsaFindsAll.mono_l : ∀ k, (∀ y0 y1, LeO (linkhouselaw1_IsaFindsAll.l0 k y0 y1) (linkhouselaw1_IsaFindsAll.l0 (k + 1) y0 y1))
  | 0 => fun _ _ r h => by simp [linkhouselaw1_IsaFindsAll.l0] at h
  | k + 1 => by
    have ih0 := linkhouselaw1_IsaFindsAll.mono_l k
    · intro y0 y1
      unfold linkhouselaw1_IsaFindsAll.l0
      repeat' first
      | (with_reducible exact ih0 _ _)
      | (with_reducible exact isa_Find.mono _ _ _ _)
      | (with_reducible exact isa_Validate.mono _ _)
      | (with_reducible exact linkhouselaw1_isaExample.mono _)
      | (with_reducible exact LeO.refl _)
      | (with_reducible exact LeO.none _)
      | (with_reducible refine LeO.ite ?_ ?_)
      | (with_reducible refine LeO.bind ?_ (fun _ => ?_))
      | exact ih0 _ _
      | exact isa_Find.mono _ _ _ _
      | exact isa_Validate.mono _ _
      | exact linkhouselaw1_isaExample.mono _
      | exact LeO.none _
      | refine LeO.ite ?_ ?_
      | refine LeO.bind ?_ (fun _ => ?_)
theorem linkhouselaw1_IsaFindsAll.mono : ∀ a0 k, LeO (linkhouselaw1_IsaFindsAll.f k a0) (linkhouselaw1_IsaFindsAll.f (k + 1) a0) := by
  intro a0 k
  have ih0 := linkhouselaw1_IsaFindsAll.mono_l k
  unfold linkhouselaw1_IsaFindsAll.f
  repeat' first
      | (with_reducible exact ih0 _ _)
      | (with_reducible exact isa_Find.mono _ _ _ _)
      | (with_reducible exact isa_Validate.mono _ _)
      | (with_reducible exact linkhouselaw1_isaExample.mono _)
      | (with_reducible exact LeO.refl _)
      | (with_reducible exact LeO.none _)
      | (with_reducible refine LeO.ite ?_ ?_)
      | (with_reducible refine LeO.bind ?_ (fun _ => ?_))
      | exact ih0 _ _
      | exact isa_Find.mono _ _ _ _
      | exact isa_Validate.mono _ _
      | exact linkhouselaw1_isaExample.mono _
      | exact LeO.none _
      | refine LeO.ite ?_ ?_
      | refine LeO.bind ?_ (fun _ => ?_)
def linkhouselaw1_IsaFindsAll.T8 : Bool × List (List Nat × List Nat) := (true, [([], []), ([], []), ([], []), ([1, 2], [1, 2]), ([3], [3]), ([4], [4]), ([], []), ([], []), ([6, 7], [6, 7]), ([8], [8]), ([9], [9]), ([0, 5, 10], [0, 5, 10]), ([11], [11]), ([12], [12]), ([12], [12]), ([], []), ([13, 11, 0, 1, 2, 3, 4, 5, 6, 7, 8, 9, 10, 11, 12, 13, 15], [13]), ([15, 14, 16, 0, 1, 2, 3, 4, 5, 6, 7, 8, 9, 10, 11, 12, 13, 14, 15, 16], [14, 15])])
def linkhouselaw1_IsaFindsAll.B8 : List Nat := [0, 0, 0, 6, 14, 30, 0, 0, 192, 448, 960, 2047, 4095, 8191, 8191, 0, 49151, 131071]
theorem linkhouselaw1_IsaFindsAll.tab8 : rtab .any (opsOf Try.f10 8) = linkhouselaw1_IsaFindsAll.T8 := by kernel_rfl
theorem linkhouselaw1_IsaFindsAll.bits8 : waitsOk linkhouselaw1_IsaFindsAll.T8.2 linkhouselaw1_IsaFindsAll.B8 = true := by kernel_rfl
set_option maxHeartbeats 8000000 in
set_option maxRecDepth 100000 in
theorem linkhouselaw1_IsaFindsAll.calls (k : Nat) (A0 : Option Addr) (c0 : Nat) (l0 : List (S54)) (r : Bool) (w : World) (hr0 : Kd.C k54 w A0 l0.length l0) (hc0 : l0.length ≤ c0) (hT : r = true) (h : linkhouselaw1_IsaFindsAll.f k l0 = some r) :
    Calls Try.prog 10 #[.slice A0 l0.length c0] w fun e w' => e = .returned (.bool r) ∧ Below w.heap.size w w' := by
  have hu27 := Try.underlying27
  have HT := Aside0.mk hT
  clear hT
  have HR0 := Aside0.mk hr0
  have HC0 := Aside0.mk hc0
  clear hr0 hc0
  have HB := Aside0.mk (Below.refl w.heap.size w)
  have H : ((linkhouselaw1_isaExample.f k).bind fun t208 => (if t208 = true then ((isa_Validate.f k l0).bind fun bt209 => (if bt209.1 = 0 then (linkhouselaw1_IsaFindsAll.l0 k l0 0) else (some true))) else (some false))) = some r := h
  clear h
  replace H := Option.bind_eq_some_iff.mp H
  obtain ⟨t208, A20, H⟩ := H
  replace H : (if t208 = true then ((isa_Validate.f k l0).bind fun bt209 => (if bt209.1 = 0 then (linkhouselaw1_IsaFindsAll.l0 k l0 0) else (some true))) else (some false)) = some r := H
  have A2 := Aside0.mk A20
  clear A20
  by_cases c3 : t208 = true
  · subst c3
    have H1 : ((isa_Validate.f k l0).bind fun bt209 => (if bt209.1 = 0 then (linkhouselaw1_IsaFindsAll.l0 k l0 0) else (some true))) = some r := by rw [if_pos rfl] at H; exact H
    clear H
    have H := H1
    clear H1
    replace H := Option.bind_eq_some_iff.mp H
    obtain ⟨⟨t209, t210⟩, A40, H⟩ := H
    replace H : (if t209 = 0 then (linkhouselaw1_IsaFindsAll.l0 k l0 0) else (some true)) = some r := H
    have A4 := Aside0.mk A40
    clear A40
    by_cases c5 : t209 = 0
    · rw [if_pos c5] at H
      have c5b0 : (t209 == 0) = true := beq_iff_eq.mpr c5
      have c5b1 : (t209 != 0) = false := bne_eq_false_iff_eq.mpr c5
      clear c5
      have H' := Aside0.mk H
      clear H
      go_enter Try.func10, Try.ntmps10
      go_wp2_with (first | ((with_reducible refine gate_callee (f := 33) rfl ?_); refine goesL_ (some 6) rfl rfl Try.func33 (by kernel_rfl) rfl #[] rfl (by (try simp only [List.map_toArray, List.map_cons, List.map_nil]); first | done | rfl | (simp only [List.length_drop, List.length_take]; rfl)) ?_; (with_reducible refine (linkhouselaw1_isaExample.calls k  true _ rfl A2.out).mono ?_); rintro e w6 ⟨rfl, hb⟩; refine ⟨_, rfl, ?_⟩; have n0_ := Aside0.mk (below_step (by repeat (first | (with_reducible first | exact HB.out | apply below_alloc | apply pw_below_drewN | apply below_drew1) | exact HB.out)) hb); clear HB; have HB := n0_; clear n0_; (try clear hb); (try clear hb2); (try clear hk); (try clear hi)) | ((with_reducible refine gate_callee (f := 35) rfl ?_); refine goesL_ (some 9) rfl rfl Try.func35 (by kernel_rfl) rfl #[.slice A0 l0.length c0] rfl (by (try simp only [List.map_toArray, List.map_cons, List.map_nil]); first | done | rfl | (simp only [List.length_drop, List.length_take]; rfl)) ?_; (with_reducible refine (isa_Validate.calls k _ _ l0 t209 t210 _ ?side1 ?side2 A4.out).mono ?_); (case side1 => repeat (first | exact (Kd.C_below HR0.out HB.out) | (with_reducible refine Kd.C_alloc ?_ _) | (with_reducible refine Kd.C_drewN ?_ _) | (with_reducible refine Kd.C_drew ?_))); (case side2 => exact HC0.out); rintro e w7 ⟨rfl, hb⟩; refine ⟨_, rfl, ?_⟩; have n0_ := Aside0.mk (below_step (by repeat (first | (with_reducible first | exact HB.out | apply below_alloc | apply pw_below_drewN | apply below_drew1) | exact HB.out)) hb); clear HB; have HB := n0_; clear n0_; (try clear hb); (try clear hb2); (try clear hk); (try clear hi)))
      go_loopg [3] k (fun kq v3 w' => ∃ (x3_1 : Int), v3 = .int .i64 x3_1 ∧ Aside0 (linkhouselaw1_IsaFindsAll.l0 kq l0 x3_1 = some r) ∧ Aside0 (kq ≤ k) ∧ Aside0 (Below w.heap.size w w'))
      case atStart => exact ⟨(0), (by first | rfl | (simp; done) | (simp [*]; done)), H', ⟨Nat.le_refl _⟩, ⟨by repeat (first | (with_reducible first | exact HB.out | apply below_alloc | apply pw_below_drewN | apply below_drew1) | exact HB.out)⟩⟩
      case round =>
        clear H'
        try clear c1
        try clear p2
        try clear c3
        try clear c5
        try clear c5b0
        try clear c5b1
        obtain ⟨x3_1, rfl, HA, HK1, HB⟩ := hrel
        cases gk with
        | zero => exact absurd HA.out (by simp [linkhouselaw1_IsaFindsAll.l0])
        | succ k1 =>
          have H := HA.out
          clear HA
          simp only [linkhouselaw1_IsaFindsAll.l0] at H
          by_cases c8 : x3_1 < (l0.length : Int)
          · rw [if_pos c8] at H
            have c8b0 : decide (x3_1 < (l0.length : Int)) = true := decide_eq_true c8
            clear c8
            by_cases c9 : 0 ≤ x3_1
            · rw [if_pos c9] at H
              have c9b0 : decide (0 ≤ x3_1) = true := decide_eq_true c9
              clear c9
              replace H := Option.bind_eq_some_iff.mp H
              obtain ⟨⟨t213, t214, t215⟩, A100, H⟩ := H
              replace H : (if t214 = 0 then (if t213 = x3_1 then (linkhouselaw1_IsaFindsAll.l0 k1 l0 (wrap64 (x3_1 + 1))) else (some false)) else (some false)) = some r := H
              have A10 := Aside0.mk A100
              clear A100
              by_cases c11 : t214 = 0
              · rw [if_pos c11] at H
                have c11b0 : (t214 == 0) = true := beq_iff_eq.mpr c11
                have c11b1 : (t214 != 0) = false := bne_eq_false_iff_eq.mpr c11
                clear c11
                by_cases c12 : t213 = x3_1
                · rw [if_pos c12] at H
                  have c12b0 : (t213 == x3_1) = true := beq_iff_eq.mpr c12
                  have c12b1 : (t213 != x3_1) = false := bne_eq_false_iff_eq.mpr c12
                  clear c12
                  have H' := Aside0.mk H
                  clear H
                  try go_wp2
                  have n0_ := Aside0.mk (below_drew1 HB.out)
                  clear HB
                  have HB := n0_
                  clear n0_
                  have p211 : 0 ≤ (x3_1 : Int) := of_decide_eq_true (by first | (with_reducible assumption) | assumption)
                  have q211 : x3_1 < (l0.length : Int) := of_decide_eq_true (by first | (with_reducible assumption) | assumption)
                  obtain ⟨ad211, A211_2, c211_2, e211, hx211_0, hx211_1, hx211_2, hl211_2, hi211_2⟩ := at_T54 HR0.out x3_1 p211 q211
                  have hw211_2 := hx211_2
                  have hw211_1 := hx211_1
                  have hw211_0 := hx211_0
                  cases e211
                  replace hx211_0 := (HB.out.cell (World.block_lt_of_cell? w _ hx211_0)).trans hx211_0
                  replace hx211_1 := (HB.out.cell (World.block_lt_of_cell? w _ hx211_1)).trans hx211_1
                  replace hx211_2 := (HB.out.cell (World.block_lt_of_cell? w _ hx211_2)).trans hx211_2
                  have HR211_2 := Aside0.mk hi211_2
                  have HC211_2 := Aside0.mk hl211_2
                  clear hi211_2 hl211_2
                  replace p211 := eq_true p211
                  replace q211 := eq_true q211
                  have p212 : 0 ≤ (x3_1 : Int) := of_decide_eq_true (by first | (with_reducible assumption) | assumption)
                  have q212 : x3_1 < (l0.length : Int) := of_decide_eq_true (by first | (with_reducible assumption) | assumption)
                  obtain ⟨ad212, A212_2, c212_2, e212, hx212_0, hx212_1, hx212_2, hl212_2, hi212_2⟩ := at_T54 HR0.out x3_1 p212 q212
                  have hw212_2 := hx212_2
                  have hw212_1 := hx212_1
                  have hw212_0 := hx212_0
                  obtain rfl : ad211 = ad212 := (by injection e212)
                  replace hx212_0 := (HB.out.cell (World.block_lt_of_cell? w _ hx212_0)).trans hx212_0
                  replace hx212_1 := (HB.out.cell (World.block_lt_of_cell? w _ hx212_1)).trans hx212_1
                  replace hx212_2 := (HB.out.cell (World.block_lt_of_cell? w _ hx212_2)).trans hx212_2
                  have HR212_2 := Aside0.mk hi212_2
                  have HC212_2 := Aside0.mk hl212_2
                  clear hi212_2 hl212_2
                  replace p212 := eq_true p212
                  replace q212 := eq_true q212
                  have ea_ := Option.some.inj (hx211_2.symm.trans hx212_2)
                  injection ea_ with ea_ en_ ec_
                  subst ea_
                  subst ec_
                  clear en_
                  refine start_ (n := 18) (S := fun w' => w'.cell? (ad211.add ((x3_1).toNat * 3)) = some (.string ((rd_T54 l0 x3_1).f0)) ∧ w'.cell? ⟨(ad211.add ((x3_1).toNat * 3)).block, (ad211.add ((x3_1).toNat * 3)).off + 1, none⟩ = some (.int .i64 ((rd_T54 l0 x3_1).f1)) ∧ w'.cell? ⟨(ad211.add ((x3_1).toNat * 3)).block, (ad211.add ((x3_1).toNat * 3)).off + 2, none⟩ = some (.slice A211_2 ((rd_T54 l0 x3_1).f2).length c211_2) ∧ w'.cell? (ad211.add ((x3_1).toNat * 3)) = some (.string ((rd_T54 l0 x3_1).f0)) ∧ w'.cell? ⟨(ad211.add ((x3_1).toNat * 3)).block, (ad211.add ((x3_1).toNat * 3)).off + 1, none⟩ = some (.int .i64 ((rd_T54 l0 x3_1).f1)) ∧ w'.cell? ⟨(ad211.add ((x3_1).toNat * 3)).block, (ad211.add ((x3_1).toNat * 3)).off + 2, none⟩ = some (.slice A211_2 ((rd_T54 l0 x3_1).f2).length c211_2)) (ds := []) #[false, false, false, false, false, false, false, false, false, false, false, false, false, false, false, false, false, false] (by kernel_rfl) rfl rfl ⟨((HB.out.cell (World.block_lt_of_cell? w _ hw211_0)).trans hw211_0), ((HB.out.cell (World.block_lt_of_cell? w _ hw211_1)).trans hw211_1), ((HB.out.cell (World.block_lt_of_cell? w _ hw211_2)).trans hw211_2), ((HB.out.cell (World.block_lt_of_cell? w _ hw212_0)).trans hw212_0), ((HB.out.cell (World.block_lt_of_cell? w _ hw212_1)).trans hw212_1), ((HB.out.cell (World.block_lt_of_cell? w _ hw212_2)).trans hw212_2)⟩ (fun hHeld => ?_); refine with_tabW linkhouselaw1_IsaFindsAll.tab8 linkhouselaw1_IsaFindsAll.bits8 (fun HT_ HW_ => ?_)
                  generalize wr.drew = w13 at HB HR211_2 HR212_2 hx211_0 hx211_1 hx211_2 hx212_0 hx212_1 hx212_2 hHeld ⊢
                  refine pure_ (i := 0) (N := some 19) (v := ?_) (a' := ?_) #[true, false, false, false, false, false, false, false, false, false, false, false, false, false, false, false, false, false] rfl rfl (any_of HT_.out (by kernel_rfl)) (fun _ _ _ h => h) (Or.inl ⟨by rfl, ?_⟩) ?_ ?_
                  rotate_left
                  · intro w'
                    go_simp
                    with_reducible rfl
                  rotate_left
                  · simp only [Act.put, List.setIfInBounds_toArray, List.set_cons_zero, List.set_cons_succ, i64_w, i32_w]
                    rfl
                  refine pure_ (i := 1) (N := some 20) (v := ?_) (a' := ?_) #[true, true, false, false, false, false, false, false, false, false, false, false, false, false, false, false, false, false] rfl rfl (any_of HT_.out (by kernel_rfl)) (fun _ _ _ h => h) (Or.inl ⟨by rfl, ?_⟩) ?_ ?_
                  rotate_left
                  · intro w'
                    go_simp
                    with_reducible rfl
                  rotate_left
                  · simp only [Act.put, List.setIfInBounds_toArray, List.set_cons_zero, List.set_cons_succ, i64_w, i32_w]
                    rfl
                  refine pure_ (i := 2) (N := some 21) (v := ?_) (a' := ?_) #[true, true, true, false, false, false, false, false, false, false, false, false, false, false, false, false, false, false] rfl rfl (any_of HT_.out (by kernel_rfl)) (fun _ _ _ h => h) (Or.inl ⟨by rfl, ?_⟩) ?_ ?_
                  rotate_left
                  · intro w'
                    go_simp
                    with_reducible rfl
                  rotate_left
                  · simp only [Act.put, List.setIfInBounds_toArray, List.set_cons_zero, List.set_cons_succ, i64_w, i32_w]
                    rfl
                  refine pure_ (i := 3) (N := some 22) (v := ?_) (a' := ?_) #[true, true, true, true, false, false, false, false, false, false, false, false, false, false, false, false, false, false] rfl rfl (any_of HT_.out (by kernel_rfl)) (fun _ _ _ h => h) (Or.inl ⟨by rfl, ?_⟩) ?_ ?_
                  rotate_left
                  · intro w'
                    go_simp
                    with_reducible rfl
                  rotate_left
                  · simp only [Act.put, List.setIfInBounds_toArray, List.set_cons_zero, List.set_cons_succ, i64_w, i32_w]
                    rfl
                  refine pure_ (i := 4) (N := some 23) (v := ?_) (a' := ?_) #[true, true, true, true, true, false, false, false, false, false, false, false, false, false, false, false, false, false] rfl rfl (any_of HT_.out (by kernel_rfl)) (fun _ _ _ h => h) (Or.inl ⟨by rfl, ?_⟩) ?_ ?_
                  rotate_left
                  · intro w'
                    go_simp
                    with_reducible rfl
                  rotate_left
                  · simp only [Act.put, List.setIfInBounds_toArray, List.set_cons_zero, List.set_cons_succ, i64_w, i32_w]
                    rfl
                  refine pure_ (i := 6) (N := some 25) (v := ?_) (a' := ?_) #[true, true, true, true, true, false, true, false, false, false, false, false, false, false, false, false, false, false] rfl rfl (any_of HT_.out (by kernel_rfl)) (fun _ _ _ h => h) (Or.inl ⟨by rfl, ?_⟩) ?_ ?_
                  rotate_left
                  · intro w'
                    go_simp
                    with_reducible rfl
                  rotate_left
                  · simp only [Act.put, List.setIfInBounds_toArray, List.set_cons_zero, List.set_cons_succ, i64_w, i32_w]
                    rfl
                  refine pure_ (i := 7) (N := some 26) (v := ?_) (a' := ?_) #[true, true, true, true, true, false, true, true, false, false, false, false, false, false, false, false, false, false] rfl rfl (any_of HT_.out (by kernel_rfl)) (fun _ _ _ h => h) (Or.inl ⟨by rfl, ?_⟩) ?_ ?_
                  rotate_left
                  · intro w'
                    go_simp
                    with_reducible rfl
                  rotate_left
                  · simp only [Act.put, List.setIfInBounds_toArray, List.set_cons_zero, List.set_cons_succ, i64_w, i32_w]
                    rfl
                  refine pure_ (i := 8) (N := some 27) (v := ?_) (a' := ?_) #[true, true, true, true, true, false, true, true, true, false, false, false, false, false, false, false, false, false] rfl rfl (any_of HT_.out (by kernel_rfl)) (fun _ _ _ h => h) (Or.inl ⟨by rfl, ?_⟩) ?_ ?_
                  rotate_left
                  · intro w'
                    go_simp
                    with_reducible rfl
                  rotate_left
                  · simp only [Act.put, List.setIfInBounds_toArray, List.set_cons_zero, List.set_cons_succ, i64_w, i32_w]
                    rfl
                  refine pure_ (i := 9) (N := some 28) (v := ?_) (a' := ?_) #[true, true, true, true, true, false, true, true, true, true, false, false, false, false, false, false, false, false] rfl rfl (any_of HT_.out (by kernel_rfl)) (fun _ _ _ h => h) (Or.inl ⟨by rfl, ?_⟩) ?_ ?_
                  rotate_left
                  · intro w'
                    go_simp
                    with_reducible rfl
                  rotate_left
                  · simp only [Act.put, List.setIfInBounds_toArray, List.set_cons_zero, List.set_cons_succ, i64_w, i32_w]
                    rfl
                  refine take_ (i := 5) (N := some 24) (v := ?_) (a' := ?_) #[true, true, true, true, true, true, true, true, true, true, false, false, false, false, false, false, false, false] rfl rfl (take_ofW HT_.out HW_.out (by kernel_rfl)) (fun _ _ _ h => h) (Or.inl ⟨by rfl, ?_⟩) hHeld ?_ ?_
                  rotate_left
                  · rintro w' ⟨s0, s1, s2, s3, s4, s5⟩
                    go_simp
                    with_reducible rfl
                  rotate_left
                  · simp only [Act.put, List.setIfInBounds_toArray, List.set_cons_zero, List.set_cons_succ, i64_w, i32_w]
                    rfl
                  refine take_ (i := 10) (N := some 29) (v := ?_) (a' := ?_) #[true, true, true, true, true, true, true, true, true, true, true, false, false, false, false, false, false, false] rfl rfl (take_ofW HT_.out HW_.out (by kernel_rfl)) (fun _ _ _ h => h) (Or.inl ⟨by rfl, ?_⟩) hHeld ?_ ?_
                  rotate_left
                  · rintro w' ⟨s0, s1, s2, s3, s4, s5⟩
                    go_simp
                    with_reducible rfl
                  rotate_left
                  · simp only [Act.put, List.setIfInBounds_toArray, List.set_cons_zero, List.set_cons_succ, i64_w, i32_w]
                    rfl
                  refine join_ (σ := Nat) 2 #[true, true, true, true, true, true, true, true, true, true, true, true, true, true, true, true, false, false] (fun s_ => [(30, .tuple #[.int .i64 t213, .agg #[.int .i64 t214, .int .i64 t215]]), (5, .pointer (some ⟨s_, 0, none⟩)), (18, .tuple #[.int .i64 t213, .agg #[.int .i64 t214, .int .i64 t215]]), (31, .int .i64 t213), (32, .agg #[.int .i64 t214, .int .i64 t215])]) (fun s_ w' => (w'.cell? (ad211.add ((x3_1).toNat * 3)) = some (.string ((rd_T54 l0 x3_1).f0)) ∧ w'.cell? ⟨(ad211.add ((x3_1).toNat * 3)).block, (ad211.add ((x3_1).toNat * 3)).off + 1, none⟩ = some (.int .i64 ((rd_T54 l0 x3_1).f1)) ∧ w'.cell? ⟨(ad211.add ((x3_1).toNat * 3)).block, (ad211.add ((x3_1).toNat * 3)).off + 2, none⟩ = some (.slice A211_2 ((rd_T54 l0 x3_1).f2).length c211_2) ∧ w'.cell? (ad211.add ((x3_1).toNat * 3)) = some (.string ((rd_T54 l0 x3_1).f0)) ∧ w'.cell? ⟨(ad211.add ((x3_1).toNat * 3)).block, (ad211.add ((x3_1).toNat * 3)).off + 1, none⟩ = some (.int .i64 ((rd_T54 l0 x3_1).f1)) ∧ w'.cell? ⟨(ad211.add ((x3_1).toNat * 3)).block, (ad211.add ((x3_1).toNat * 3)).off + 2, none⟩ = some (.slice A211_2 ((rd_T54 l0 x3_1).f2).length c211_2)) ∧ (w'.heap[s_]? = some (.cells #[.int .i64 0, .int .i64 0] 27 (0, 0))) ∧ (w.heap.size ≤ s_) ∧ (w.heap.size ≤ s_) ∧ (Below w.heap.size w w')) ?_ ?_
                  rotate_left
                  · intro hCont
                    refine two_ (i := 11) (j := 15) (Ni := some 30) (Nj := some 5) #[true, true, true, true, true, true, true, true, true, true, true, true, false, false, false, false, false, false] #[true, true, true, true, true, true, true, true, true, true, true, false, false, false, false, true, false, false] rfl rfl rfl rfl (two_of HT_.out (by kernel_rfl)) (by decide) (by decide) (fun K hK => ?_) (fun K hK => ?_)
                    · skip
                      refine goes_ Try.func39 (by kernel_rfl) rfl #[.slice (some ad211) l0.length c0, .string ((rd_T54 l0 x3_1).f0), .slice A211_2 ((rd_T54 l0 x3_1).f2).length c211_2] (by rfl) rfl rfl (by (try simp only [List.map_toArray, List.map_cons, List.map_nil]); first | done | rfl | (simp only [List.length_drop, List.length_take]; rfl)) ?_
                      with_reducible refine (isa_Find.calls k1 _ _ l0 ((rd_T54 l0 x3_1).f0) _ _ ((rd_T54 l0 x3_1).f2) t213 t214 t215 _ ?side1 ?side2 ?side3 ?side4 A10.out).mono ?_
                      (case side1 => repeat (first | exact (Kd.C_below HR0.out HB.out) | (with_reducible refine Kd.C_alloc ?_ _) | (with_reducible refine Kd.C_drewN ?_ _) | (with_reducible refine Kd.C_drew ?_)))
                      (case side2 => exact HC0.out)
                      (case side3 => repeat (first | exact (Kd.C_below HR212_2.out HB.out) | (with_reducible refine Kd.C_alloc ?_ _) | (with_reducible refine Kd.C_drewN ?_ _) | (with_reducible refine Kd.C_drew ?_)))
                      (case side4 => exact HC212_2.out)
                      rintro e w14 ⟨rfl, hb⟩
                      refine ⟨_, rfl, ?_⟩
                      have n0_ := Aside0.mk (below_step (by repeat (first | (with_reducible first | exact HB.out | apply below_alloc | apply pw_below_drewN | apply below_drew1) | exact HB.out)) hb)
                      clear HB
                      have HB := n0_
                      clear n0_
                      (try clear hb)
                      (try clear hb2)
                      (try clear hk)
                      (try clear hi)
                      refine hK.out _ _ ⟨((HB.out.cell (World.block_lt_of_cell? w _ hw211_0)).trans hw211_0), ((HB.out.cell (World.block_lt_of_cell? w _ hw211_1)).trans hw211_1), ((HB.out.cell (World.block_lt_of_cell? w _ hw211_2)).trans hw211_2), ((HB.out.cell (World.block_lt_of_cell? w _ hw212_0)).trans hw212_0), ((HB.out.cell (World.block_lt_of_cell? w _ hw212_1)).trans hw212_1), ((HB.out.cell (World.block_lt_of_cell? w _ hw212_2)).trans hw212_2)⟩ (fun hHeld => ?_)
                      clear hK K
                      refine norm_ (a' := ?_) ?_ ?_
                      rotate_left
                      · show Act.put _ (some 30) _ = _
                        simp only [Act.put, List.setIfInBounds_toArray, List.set_cons_zero, List.set_cons_succ, i64_w, i32_w]
                        rfl
                      refine pure_ (i := 12) (N := some 18) (v := ?_) (a' := ?_) #[true, true, true, true, true, true, true, true, true, true, true, true, true, false, false, false, false, false] rfl rfl (any_of HT_.out (by kernel_rfl)) (fun _ _ _ h => h) (Or.inl ⟨by rfl, ?_⟩) ?_ ?_
                      rotate_left
                      · intro w'
                        go_simp
                        with_reducible rfl
                      rotate_left
                      · simp only [Act.put, List.setIfInBounds_toArray, List.set_cons_zero, List.set_cons_succ, i64_w, i32_w]
                        rfl
                      refine pure_ (i := 13) (N := some 31) (v := ?_) (a' := ?_) #[true, true, true, true, true, true, true, true, true, true, true, true, true, true, false, false, false, false] rfl rfl (any_of HT_.out (by kernel_rfl)) (fun _ _ _ h => h) (Or.inl ⟨by rfl, ?_⟩) ?_ ?_
                      rotate_left
                      · intro w'
                        go_simp
                        with_reducible rfl
                      rotate_left
                      · simp only [Act.put, List.setIfInBounds_toArray, List.set_cons_zero, List.set_cons_succ, i64_w, i32_w]
                        rfl
                      refine pure_ (i := 14) (N := some 32) (v := ?_) (a' := ?_) #[true, true, true, true, true, true, true, true, true, true, true, true, true, true, true, false, false, false] rfl rfl (any_of HT_.out (by kernel_rfl)) (fun _ _ _ h => h) (Or.inl ⟨by rfl, ?_⟩) ?_ ?_
                      rotate_left
                      · intro w'
                        go_simp
                        with_reducible rfl
                      rotate_left
                      · simp only [Act.put, List.setIfInBounds_toArray, List.set_cons_zero, List.set_cons_succ, i64_w, i32_w]
                        rfl
                      refine one_ (i := 15) (N := some 5) #[true, true, true, true, true, true, true, true, true, true, true, true, true, true, true, true, false, false] rfl rfl (one_of HT_.out (by kernel_rfl)) (by decide) (fun K hK => ?_)
                      refine box_step ?hg (N := 5) ?hd (cs := #[.int .i64 0, .int .i64 0]) (t := 27) ?hr ?_; (case hd => rfl); (case hg => rfl); (case hr => first | (go_simp; done) | (go_simp; rfl))
                      intro gb216 hg w15 hbox hb
                      have n0_ := Aside0.mk (below_step (by repeat (first | (with_reducible first | exact HB.out | apply below_alloc | apply pw_below_drewN | apply below_drew1) | exact HB.out)) hb)
                      have n1_ := Aside0.mk (hbox)
                      have n2_ := Aside0.mk ((by rw [hg]; exact (below_size (by repeat (first | (with_reducible first | exact HB.out | apply below_alloc | apply pw_below_drewN | apply below_drew1) | exact HB.out))) : w.heap.size ≤ gb216))
                      have n3_ := Aside0.mk ((by rw [hg]; exact (below_size (by repeat (first | (with_reducible first | exact HB.out | apply below_alloc | apply pw_below_drewN | apply below_drew1) | exact HB.out))) : w.heap.size ≤ gb216))
                      clear HB
                      have HB := n0_
                      have BK216 := n1_
                      have GW216 := n2_
                      have GE216 := n3_
                      clear n0_ n1_ n2_ n3_
                      clear hb hbox hg
                      refine hK.out _ _ ⟨((HB.out.cell (World.block_lt_of_cell? w _ hw211_0)).trans hw211_0), ((HB.out.cell (World.block_lt_of_cell? w _ hw211_1)).trans hw211_1), ((HB.out.cell (World.block_lt_of_cell? w _ hw211_2)).trans hw211_2), ((HB.out.cell (World.block_lt_of_cell? w _ hw212_0)).trans hw212_0), ((HB.out.cell (World.block_lt_of_cell? w _ hw212_1)).trans hw212_1), ((HB.out.cell (World.block_lt_of_cell? w _ hw212_2)).trans hw212_2)⟩ (fun hHeld => ?_)
                      clear hK K
                      refine norm_ (a' := ?_) ?_ ?_
                      rotate_left
                      · show Act.put _ (some 5) _ = _
                        simp only [Act.put, List.setIfInBounds_toArray, List.set_cons_zero, List.set_cons_succ, i64_w, i32_w]
                        rfl
                      exact norm_ (by simp only [putAll, Act.put, List.setIfInBounds_toArray, List.set_cons_zero, List.set_cons_succ]) (hCont (gb216) _ ⟨hHeld, (by (with_reducible repeat (first | refine blk_drewN ?_ _ | refine blk_drew ?_ | refine blk_alloc ?_ _)); exact BK216.out), GW216.out, GE216.out, (by repeat (first | (with_reducible first | exact HB.out | apply below_alloc | apply pw_below_drewN | apply below_drew1 | refine below_set ?_ GE216.out) | exact HB.out))⟩)
                    · skip
                      refine box_step ?hg (N := 5) ?hd (cs := #[.int .i64 0, .int .i64 0]) (t := 27) ?hr ?_; (case hd => rfl); (case hg => rfl); (case hr => first | (go_simp; done) | (go_simp; rfl))
                      intro gb216 hg w14 hbox hb
                      have n0_ := Aside0.mk (below_step (by repeat (first | (with_reducible first | exact HB.out | apply below_alloc | apply pw_below_drewN | apply below_drew1) | exact HB.out)) hb)
                      have n1_ := Aside0.mk (hbox)
                      have n2_ := Aside0.mk ((by rw [hg]; exact (below_size (by repeat (first | (with_reducible first | exact HB.out | apply below_alloc | apply pw_below_drewN | apply below_drew1) | exact HB.out))) : w.heap.size ≤ gb216))
                      have n3_ := Aside0.mk ((by rw [hg]; exact (below_size (by repeat (first | (with_reducible first | exact HB.out | apply below_alloc | apply pw_below_drewN | apply below_drew1) | exact HB.out))) : w.heap.size ≤ gb216))
                      clear HB
                      have HB := n0_
                      have BK216 := n1_
                      have GW216 := n2_
                      have GE216 := n3_
                      clear n0_ n1_ n2_ n3_
                      clear hb hbox hg
                      refine hK.out _ _ ⟨((HB.out.cell (World.block_lt_of_cell? w _ hw211_0)).trans hw211_0), ((HB.out.cell (World.block_lt_of_cell? w _ hw211_1)).trans hw211_1), ((HB.out.cell (World.block_lt_of_cell? w _ hw211_2)).trans hw211_2), ((HB.out.cell (World.block_lt_of_cell? w _ hw212_0)).trans hw212_0), ((HB.out.cell (World.block_lt_of_cell? w _ hw212_1)).trans hw212_1), ((HB.out.cell (World.block_lt_of_cell? w _ hw212_2)).trans hw212_2)⟩ (fun hHeld => ?_)
                      clear hK K
                      refine norm_ (a' := ?_) ?_ ?_
                      rotate_left
                      · show Act.put _ (some 5) _ = _
                        simp only [Act.put, List.setIfInBounds_toArray, List.set_cons_zero, List.set_cons_succ, i64_w, i32_w]
                        rfl
                      refine one_ (i := 11) (N := some 30) #[true, true, true, true, true, true, true, true, true, true, true, true, false, false, false, true, false, false] rfl rfl (one_of HT_.out (by kernel_rfl)) (by decide) (fun K hK => ?_)
                      refine goes_ Try.func39 (by kernel_rfl) rfl #[.slice (some ad211) l0.length c0, .string ((rd_T54 l0 x3_1).f0), .slice A211_2 ((rd_T54 l0 x3_1).f2).length c211_2] (by rfl) rfl rfl (by (try simp only [List.map_toArray, List.map_cons, List.map_nil]); first | done | rfl | (simp only [List.length_drop, List.length_take]; rfl)) ?_
                      with_reducible refine (isa_Find.calls k1 _ _ l0 ((rd_T54 l0 x3_1).f0) _ _ ((rd_T54 l0 x3_1).f2) t213 t214 t215 _ ?side1 ?side2 ?side3 ?side4 A10.out).mono ?_
                      (case side1 => repeat (first | exact (Kd.C_below HR0.out HB.out) | (with_reducible refine Kd.C_alloc ?_ _) | (with_reducible refine Kd.C_drewN ?_ _) | (with_reducible refine Kd.C_drew ?_)))
                      (case side2 => exact HC0.out)
                      (case side3 => repeat (first | exact (Kd.C_below HR212_2.out HB.out) | (with_reducible refine Kd.C_alloc ?_ _) | (with_reducible refine Kd.C_drewN ?_ _) | (with_reducible refine Kd.C_drew ?_)))
                      (case side4 => exact HC212_2.out)
                      rintro e w15 ⟨rfl, hb⟩
                      refine ⟨_, rfl, ?_⟩
                      have n0_ := Aside0.mk (blk_below (g := gb216) (o := .cells #[.int .i64 0, .int .i64 0] 27 (0, 0)) (by (with_reducible repeat (first | refine blk_drewN ?_ _ | refine blk_drew ?_ | refine blk_alloc ?_ _)); exact BK216.out) hb)
                      have n1_ := Aside0.mk (below_step (by repeat (first | (with_reducible first | exact HB.out | apply below_alloc | apply pw_below_drewN | apply below_drew1 | refine below_set ?_ GE216.out) | exact HB.out)) hb)
                      clear BK216
                      clear HB
                      have BK216 := n0_
                      have HB := n1_
                      clear n0_ n1_
                      (try clear hb)
                      (try clear hb2)
                      (try clear hk)
                      (try clear hi)
                      refine hK.out _ _ ⟨((HB.out.cell (World.block_lt_of_cell? w _ hw211_0)).trans hw211_0), ((HB.out.cell (World.block_lt_of_cell? w _ hw211_1)).trans hw211_1), ((HB.out.cell (World.block_lt_of_cell? w _ hw211_2)).trans hw211_2), ((HB.out.cell (World.block_lt_of_cell? w _ hw212_0)).trans hw212_0), ((HB.out.cell (World.block_lt_of_cell? w _ hw212_1)).trans hw212_1), ((HB.out.cell (World.block_lt_of_cell? w _ hw212_2)).trans hw212_2)⟩ (fun hHeld => ?_)
                      clear hK K
                      refine norm_ (a' := ?_) ?_ ?_
                      rotate_left
                      · show Act.put _ (some 30) _ = _
                        simp only [Act.put, List.setIfInBounds_toArray, List.set_cons_zero, List.set_cons_succ, i64_w, i32_w]
                        rfl
                      refine pure_ (i := 12) (N := some 18) (v := ?_) (a' := ?_) #[true, true, true, true, true, true, true, true, true, true, true, true, true, false, false, true, false, false] rfl rfl (any_of HT_.out (by kernel_rfl)) (fun _ _ _ h => h) (Or.inl ⟨by rfl, ?_⟩) ?_ ?_
                      rotate_left
                      · intro w'
                        go_simp
                        with_reducible rfl
                      rotate_left
                      · simp only [Act.put, List.setIfInBounds_toArray, List.set_cons_zero, List.set_cons_succ, i64_w, i32_w]
                        rfl
                      refine pure_ (i := 13) (N := some 31) (v := ?_) (a' := ?_) #[true, true, true, true, true, true, true, true, true, true, true, true, true, true, false, true, false, false] rfl rfl (any_of HT_.out (by kernel_rfl)) (fun _ _ _ h => h) (Or.inl ⟨by rfl, ?_⟩) ?_ ?_
                      rotate_left
                      · intro w'
                        go_simp
                        with_reducible rfl
                      rotate_left
                      · simp only [Act.put, List.setIfInBounds_toArray, List.set_cons_zero, List.set_cons_succ, i64_w, i32_w]
                        rfl
                      refine pure_ (i := 14) (N := some 32) (v := ?_) (a' := ?_) #[true, true, true, true, true, true, true, true, true, true, true, true, true, true, true, true, false, false] rfl rfl (any_of HT_.out (by kernel_rfl)) (fun _ _ _ h => h) (Or.inl ⟨by rfl, ?_⟩) ?_ ?_
                      rotate_left
                      · intro w'
                        go_simp
                        with_reducible rfl
                      rotate_left
                      · simp only [Act.put, List.setIfInBounds_toArray, List.set_cons_zero, List.set_cons_succ, i64_w, i32_w]
                        rfl
                      exact norm_ (by simp only [putAll, Act.put, List.setIfInBounds_toArray, List.set_cons_zero, List.set_cons_succ]) (hCont (gb216) _ ⟨hHeld, (by (with_reducible repeat (first | refine blk_drewN ?_ _ | refine blk_drew ?_ | refine blk_alloc ?_ _)); exact BK216.out), GW216.out, GE216.out, (by repeat (first | (with_reducible first | exact HB.out | apply below_alloc | apply pw_below_drewN | apply below_drew1 | refine below_set ?_ GE216.out) | exact HB.out))⟩)
                  rintro gb216 w16 ⟨hS_, h0_, h1_, h2_, h3_⟩
                  have n0_ : Aside0 (w16.heap[gb216]? = some (.cells #[.int .i64 0, .int .i64 0] 27 (0, 0))) := ⟨h0_⟩
                  have n1_ : Aside0 (w.heap.size ≤ gb216) := ⟨h1_⟩
                  have n2_ : Aside0 (w.heap.size ≤ gb216) := ⟨h2_⟩
                  have n3_ : Aside0 (Below w.heap.size w w16) := ⟨h3_⟩
                  clear HB
                  clear h0_ h1_ h2_ h3_
                  have BK216 := n0_
                  have GW216 := n1_
                  have GE216 := n2_
                  have HB := n3_
                  clear n0_ n1_ n2_ n3_
                  have hHeld : w16.cell? (ad211.add ((x3_1).toNat * 3)) = some (.string ((rd_T54 l0 x3_1).f0)) ∧ w16.cell? ⟨(ad211.add ((x3_1).toNat * 3)).block, (ad211.add ((x3_1).toNat * 3)).off + 1, none⟩ = some (.int .i64 ((rd_T54 l0 x3_1).f1)) ∧ w16.cell? ⟨(ad211.add ((x3_1).toNat * 3)).block, (ad211.add ((x3_1).toNat * 3)).off + 2, none⟩ = some (.slice A211_2 ((rd_T54 l0 x3_1).f2).length c211_2) ∧ w16.cell? (ad211.add ((x3_1).toNat * 3)) = some (.string ((rd_T54 l0 x3_1).f0)) ∧ w16.cell? ⟨(ad211.add ((x3_1).toNat * 3)).block, (ad211.add ((x3_1).toNat * 3)).off + 1, none⟩ = some (.int .i64 ((rd_T54 l0 x3_1).f1)) ∧ w16.cell? ⟨(ad211.add ((x3_1).toNat * 3)).block, (ad211.add ((x3_1).toNat * 3)).off + 2, none⟩ = some (.slice A211_2 ((rd_T54 l0 x3_1).f2).length c211_2) := hS_
                  refine norm_ (a' := ?_) ?_ ?_
                  rotate_left
                  · simp only [putAll, Act.put, List.setIfInBounds_toArray, List.set_cons_zero, List.set_cons_succ]
                    rfl
                  refine pure_ (i := 16) (N := some 4) (v := ?_) (a' := ?_) #[true, true, true, true, true, true, true, true, true, true, true, true, true, true, true, true, true, false] rfl rfl (any_of HT_.out (by kernel_rfl)) (fun _ _ _ h => h) (Or.inl ⟨by rfl, ?_⟩) ?_ ?_
                  rotate_left
                  · intro w'
                    go_simp
                    with_reducible rfl
                  rotate_left
                  · simp only [Act.put, List.setIfInBounds_toArray, List.set_cons_zero, List.set_cons_succ, i64_w, i32_w]
                    rfl
                  refine one_ (i := 17) (N := none) #[true, true, true, true, true, true, true, true, true, true, true, true, true, true, true, true, true, true] rfl rfl (one_of HT_.out (by kernel_rfl)) (by decide) (fun K hK => ?_)
                  have hs17 : w16.cell? ⟨gb216, 0, none⟩ = some (.int .i64 0) := (blk_cell BK216.out 0).trans rfl
                  have hfs17 := blk_frozen BK216.out 0
                  have hs18 : w16.cell? ⟨gb216, 1, none⟩ = some (.int .i64 0) := (blk_cell BK216.out 1).trans rfl
                  have hfs18 := blk_frozen BK216.out 1
                  refine skip_ (w1 := ?_) (by rfl) rfl ?_ ?_
                  rotate_left
                  · go_simp
                    rfl
                  refine hK.out _ _ ⟨((cell_far (p := ⟨gb216, _, none⟩) (by first | exact Nat.ne_of_lt (Nat.lt_of_lt_of_le (by have := World.block_lt_of_cell? _ _ hw211_0; first | rwa [add_block] at this | exact this) GW216.out) | (rw [add_block]; exact Nat.ne_of_lt (Nat.lt_of_lt_of_le (by have := World.block_lt_of_cell? _ _ hw211_0; first | rwa [add_block] at this | exact this) GW216.out)) | (show (Addr.add _ _).block ≠ _; rw [add_block]; exact Nat.ne_of_lt (Nat.lt_of_lt_of_le (by have := World.block_lt_of_cell? _ _ hw211_0; first | rwa [add_block] at this | exact this) GW216.out)) | (dsimp only; exact Nat.ne_of_lt (Nat.lt_of_lt_of_le (by have := World.block_lt_of_cell? _ _ hw211_0; first | rwa [add_block] at this | exact this) GW216.out))) _).trans (((cell_far (p := ⟨gb216, _, none⟩) (by first | exact Nat.ne_of_lt (Nat.lt_of_lt_of_le (by have := World.block_lt_of_cell? _ _ hw211_0; first | rwa [add_block] at this | exact this) GW216.out) | (rw [add_block]; exact Nat.ne_of_lt (Nat.lt_of_lt_of_le (by have := World.block_lt_of_cell? _ _ hw211_0; first | rwa [add_block] at this | exact this) GW216.out)) | (show (Addr.add _ _).block ≠ _; rw [add_block]; exact Nat.ne_of_lt (Nat.lt_of_lt_of_le (by have := World.block_lt_of_cell? _ _ hw211_0; first | rwa [add_block] at this | exact this) GW216.out)) | (dsimp only; exact Nat.ne_of_lt (Nat.lt_of_lt_of_le (by have := World.block_lt_of_cell? _ _ hw211_0; first | rwa [add_block] at this | exact this) GW216.out))) _).trans (hHeld.1)))), ((cell_far (p := ⟨gb216, _, none⟩) (by first | exact Nat.ne_of_lt (Nat.lt_of_lt_of_le (by have := World.block_lt_of_cell? _ _ hw211_1; first | rwa [add_block] at this | exact this) GW216.out) | (rw [add_block]; exact Nat.ne_of_lt (Nat.lt_of_lt_of_le (by have := World.block_lt_of_cell? _ _ hw211_1; first | rwa [add_block] at this | exact this) GW216.out)) | (show (Addr.add _ _).block ≠ _; rw [add_block]; exact Nat.ne_of_lt (Nat.lt_of_lt_of_le (by have := World.block_lt_of_cell? _ _ hw211_1; first | rwa [add_block] at this | exact this) GW216.out)) | (dsimp only; exact Nat.ne_of_lt (Nat.lt_of_lt_of_le (by have := World.block_lt_of_cell? _ _ hw211_1; first | rwa [add_block] at this | exact this) GW216.out))) _).trans (((cell_far (p := ⟨gb216, _, none⟩) (by first | exact Nat.ne_of_lt (Nat.lt_of_lt_of_le (by have := World.block_lt_of_cell? _ _ hw211_1; first | rwa [add_block] at this | exact this) GW216.out) | (rw [add_block]; exact Nat.ne_of_lt (Nat.lt_of_lt_of_le (by have := World.block_lt_of_cell? _ _ hw211_1; first | rwa [add_block] at this | exact this) GW216.out)) | (show (Addr.add _ _).block ≠ _; rw [add_block]; exact Nat.ne_of_lt (Nat.lt_of_lt_of_le (by have := World.block_lt_of_cell? _ _ hw211_1; first | rwa [add_block] at this | exact this) GW216.out)) | (dsimp only; exact Nat.ne_of_lt (Nat.lt_of_lt_of_le (by have := World.block_lt_of_cell? _ _ hw211_1; first | rwa [add_block] at this | exact this) GW216.out))) _).trans (hHeld.2.1)))), ((cell_far (p := ⟨gb216, _, none⟩) (by first | exact Nat.ne_of_lt (Nat.lt_of_lt_of_le (by have := World.block_lt_of_cell? _ _ hw211_2; first | rwa [add_block] at this | exact this) GW216.out) | (rw [add_block]; exact Nat.ne_of_lt (Nat.lt_of_lt_of_le (by have := World.block_lt_of_cell? _ _ hw211_2; first | rwa [add_block] at this | exact this) GW216.out)) | (show (Addr.add _ _).block ≠ _; rw [add_block]; exact Nat.ne_of_lt (Nat.lt_of_lt_of_le (by have := World.block_lt_of_cell? _ _ hw211_2; first | rwa [add_block] at this | exact this) GW216.out)) | (dsimp only; exact Nat.ne_of_lt (Nat.lt_of_lt_of_le (by have := World.block_lt_of_cell? _ _ hw211_2; first | rwa [add_block] at this | exact this) GW216.out))) _).trans (((cell_far (p := ⟨gb216, _, none⟩) (by first | exact Nat.ne_of_lt (Nat.lt_of_lt_of_le (by have := World.block_lt_of_cell? _ _ hw211_2; first | rwa [add_block] at this | exact this) GW216.out) | (rw [add_block]; exact Nat.ne_of_lt (Nat.lt_of_lt_of_le (by have := World.block_lt_of_cell? _ _ hw211_2; first | rwa [add_block] at this | exact this) GW216.out)) | (show (Addr.add _ _).block ≠ _; rw [add_block]; exact Nat.ne_of_lt (Nat.lt_of_lt_of_le (by have := World.block_lt_of_cell? _ _ hw211_2; first | rwa [add_block] at this | exact this) GW216.out)) | (dsimp only; exact Nat.ne_of_lt (Nat.lt_of_lt_of_le (by have := World.block_lt_of_cell? _ _ hw211_2; first | rwa [add_block] at this | exact this) GW216.out))) _).trans (hHeld.2.2.1)))), ((cell_far (p := ⟨gb216, _, none⟩) (by first | exact Nat.ne_of_lt (Nat.lt_of_lt_of_le (by have := World.block_lt_of_cell? _ _ hw212_0; first | rwa [add_block] at this | exact this) GW216.out) | (rw [add_block]; exact Nat.ne_of_lt (Nat.lt_of_lt_of_le (by have := World.block_lt_of_cell? _ _ hw212_0; first | rwa [add_block] at this | exact this) GW216.out)) | (show (Addr.add _ _).block ≠ _; rw [add_block]; exact Nat.ne_of_lt (Nat.lt_of_lt_of_le (by have := World.block_lt_of_cell? _ _ hw212_0; first | rwa [add_block] at this | exact this) GW216.out)) | (dsimp only; exact Nat.ne_of_lt (Nat.lt_of_lt_of_le (by have := World.block_lt_of_cell? _ _ hw212_0; first | rwa [add_block] at this | exact this) GW216.out))) _).trans (((cell_far (p := ⟨gb216, _, none⟩) (by first | exact Nat.ne_of_lt (Nat.lt_of_lt_of_le (by have := World.block_lt_of_cell? _ _ hw212_0; first | rwa [add_block] at this | exact this) GW216.out) | (rw [add_block]; exact Nat.ne_of_lt (Nat.lt_of_lt_of_le (by have := World.block_lt_of_cell? _ _ hw212_0; first | rwa [add_block] at this | exact this) GW216.out)) | (show (Addr.add _ _).block ≠ _; rw [add_block]; exact Nat.ne_of_lt (Nat.lt_of_lt_of_le (by have := World.block_lt_of_cell? _ _ hw212_0; first | rwa [add_block] at this | exact this) GW216.out)) | (dsimp only; exact Nat.ne_of_lt (Nat.lt_of_lt_of_le (by have := World.block_lt_of_cell? _ _ hw212_0; first | rwa [add_block] at this | exact this) GW216.out))) _).trans (hHeld.2.2.2.1)))), ((cell_far (p := ⟨gb216, _, none⟩) (by first | exact Nat.ne_of_lt (Nat.lt_of_lt_of_le (by have := World.block_lt_of_cell? _ _ hw212_1; first | rwa [add_block] at this | exact this) GW216.out) | (rw [add_block]; exact Nat.ne_of_lt (Nat.lt_of_lt_of_le (by have := World.block_lt_of_cell? _ _ hw212_1; first | rwa [add_block] at this | exact this) GW216.out)) | (show (Addr.add _ _).block ≠ _; rw [add_block]; exact Nat.ne_of_lt (Nat.lt_of_lt_of_le (by have := World.block_lt_of_cell? _ _ hw212_1; first | rwa [add_block] at this | exact this) GW216.out)) | (dsimp only; exact Nat.ne_of_lt (Nat.lt_of_lt_of_le (by have := World.block_lt_of_cell? _ _ hw212_1; first | rwa [add_block] at this | exact this) GW216.out))) _).trans (((cell_far (p := ⟨gb216, _, none⟩) (by first | exact Nat.ne_of_lt (Nat.lt_of_lt_of_le (by have := World.block_lt_of_cell? _ _ hw212_1; first | rwa [add_block] at this | exact this) GW216.out) | (rw [add_block]; exact Nat.ne_of_lt (Nat.lt_of_lt_of_le (by have := World.block_lt_of_cell? _ _ hw212_1; first | rwa [add_block] at this | exact this) GW216.out)) | (show (Addr.add _ _).block ≠ _; rw [add_block]; exact Nat.ne_of_lt (Nat.lt_of_lt_of_le (by have := World.block_lt_of_cell? _ _ hw212_1; first | rwa [add_block] at this | exact this) GW216.out)) | (dsimp only; exact Nat.ne_of_lt (Nat.lt_of_lt_of_le (by have := World.block_lt_of_cell? _ _ hw212_1; first | rwa [add_block] at this | exact this) GW216.out))) _).trans (hHeld.2.2.2.2.1)))), ((cell_far (p := ⟨gb216, _, none⟩) (by first | exact Nat.ne_of_lt (Nat.lt_of_lt_of_le (by have := World.block_lt_of_cell? _ _ hw212_2; first | rwa [add_block] at this | exact this) GW216.out) | (rw [add_block]; exact Nat.ne_of_lt (Nat.lt_of_lt_of_le (by have := World.block_lt_of_cell? _ _ hw212_2; first | rwa [add_block] at this | exact this) GW216.out)) | (show (Addr.add _ _).block ≠ _; rw [add_block]; exact Nat.ne_of_lt (Nat.lt_of_lt_of_le (by have := World.block_lt_of_cell? _ _ hw212_2; first | rwa [add_block] at this | exact this) GW216.out)) | (dsimp only; exact Nat.ne_of_lt (Nat.lt_of_lt_of_le (by have := World.block_lt_of_cell? _ _ hw212_2; first | rwa [add_block] at this | exact this) GW216.out))) _).trans (((cell_far (p := ⟨gb216, _, none⟩) (by first | exact Nat.ne_of_lt (Nat.lt_of_lt_of_le (by have := World.block_lt_of_cell? _ _ hw212_2; first | rwa [add_block] at this | exact this) GW216.out) | (rw [add_block]; exact Nat.ne_of_lt (Nat.lt_of_lt_of_le (by have := World.block_lt_of_cell? _ _ hw212_2; first | rwa [add_block] at this | exact this) GW216.out)) | (show (Addr.add _ _).block ≠ _; rw [add_block]; exact Nat.ne_of_lt (Nat.lt_of_lt_of_le (by have := World.block_lt_of_cell? _ _ hw212_2; first | rwa [add_block] at this | exact this) GW216.out)) | (dsimp only; exact Nat.ne_of_lt (Nat.lt_of_lt_of_le (by have := World.block_lt_of_cell? _ _ hw212_2; first | rwa [add_block] at this | exact this) GW216.out))) _).trans (hHeld.2.2.2.2.2))))⟩ (fun hHeld => ?_)
                  clear hK K
                  refine done_ (done_of HT_.out (by kernel_rfl)) ?_
                  have hcz19_0 : w16.cell? ⟨gb216, 0, none⟩ = some (.int .i64 0) := (blk_cell BK216.out 0).trans rfl
                  have hcz19_1 : w16.cell? ⟨gb216, 1, none⟩ = some (.int .i64 0) := (blk_cell BK216.out 1).trans rfl
                  have hfz19_0 := blk_frozen BK216.out 0
                  have hfz19_1 := blk_frozen BK216.out 1
                  try go_wp2
                  go_roundg k1
                  case measure => have := HK1.out; omega
                  case rel => exact ⟨(wrap64 (x3_1 + 1)), (by first | rfl | (simp; done) | (simp [*]; done)), H', ⟨by have := HK1.out; omega⟩, ⟨by repeat (first | (with_reducible first | exact HB.out | apply below_alloc | apply pw_below_drewN | apply below_drew1 | refine below_set ?_ GE216.out) | exact HB.out)⟩⟩
                · rw [if_neg c12] at H
                  have c12b0 : (t213 == x3_1) = false := beq_eq_false_iff_ne.mpr c12
                  have c12b1 : (t213 != x3_1) = true := bne_iff_ne.mpr c12
                  exact absurd ((Option.some.inj H).trans HT.out) (by decide)
              · rw [if_neg c11] at H
                have c11b0 : (t214 == 0) = false := beq_eq_false_iff_ne.mpr c11
                have c11b1 : (t214 != 0) = true := bne_iff_ne.mpr c11
                exact absurd ((Option.some.inj H).trans HT.out) (by decide)
            · rw [if_neg c9] at H
              exact absurd H (by simp)
          · rw [if_neg c8] at H
            have c8b0 : decide (x3_1 < (l0.length : Int)) = false := decide_eq_false c8
            clear c8
            obtain rfl := Option.some.inj H
            go_wp2
            go_ret
            exact ⟨by first | rfl | (simp [errW_none, errW_some] <;> rfl) | (simp [*, errW_none, errW_some] <;> rfl), by repeat (first | (with_reducible first | exact HB.out | apply below_alloc | apply pw_below_drewN | apply below_drew1) | exact HB.out)⟩
    · rw [if_neg c5] at H
      have c5b0 : (t209 == 0) = false := beq_eq_false_iff_ne.mpr c5
      have c5b1 : (t209 != 0) = true := bne_iff_ne.mpr c5
      obtain rfl := Option.some.inj H
      go_enter Try.func10, Try.ntmps10
      go_wp2_with (first | ((with_reducible refine gate_callee (f := 33) rfl ?_); refine goesL_ (some 6) rfl rfl Try.func33 (by kernel_rfl) rfl #[] rfl (by (try simp only [List.map_toArray, List.map_cons, List.map_nil]); first | done | rfl | (simp only [List.length_drop, List.length_take]; rfl)) ?_; (with_reducible refine (linkhouselaw1_isaExample.calls k  true _ rfl A2.out).mono ?_); rintro e w20 ⟨rfl, hb⟩; refine ⟨_, rfl, ?_⟩; have n0_ := Aside0.mk (below_step (by repeat (first | (with_reducible first | exact HB.out | apply below_alloc | apply pw_below_drewN | apply below_drew1) | exact HB.out)) hb); clear HB; have HB := n0_; clear n0_; (try clear hb); (try clear hb2); (try clear hk); (try clear hi)) | ((with_reducible refine gate_callee (f := 35) rfl ?_); refine goesL_ (some 9) rfl rfl Try.func35 (by kernel_rfl) rfl #[.slice A0 l0.length c0] rfl (by (try simp only [List.map_toArray, List.map_cons, List.map_nil]); first | done | rfl | (simp only [List.length_drop, List.length_take]; rfl)) ?_; (with_reducible refine (isa_Validate.calls k _ _ l0 t209 t210 _ ?side1 ?side2 A4.out).mono ?_); (case side1 => repeat (first | exact (Kd.C_below HR0.out HB.out) | (with_reducible refine Kd.C_alloc ?_ _) | (with_reducible refine Kd.C_drewN ?_ _) | (with_reducible refine Kd.C_drew ?_))); (case side2 => exact HC0.out); rintro e w21 ⟨rfl, hb⟩; refine ⟨_, rfl, ?_⟩; have n0_ := Aside0.mk (below_step (by repeat (first | (with_reducible first | exact HB.out | apply below_alloc | apply pw_below_drewN | apply below_drew1) | exact HB.out)) hb); clear HB; have HB := n0_; clear n0_; (try clear hb); (try clear hb2); (try clear hk); (try clear hi)))
      go_ret
      exact ⟨by first | rfl | (simp [errW_none, errW_some] <;> rfl) | (simp [*, errW_none, errW_some] <;> rfl), by repeat (first | (with_reducible first | exact HB.out | apply below_alloc | apply pw_below_drewN | apply below_drew1) | exact HB.out)⟩
  · replace c3 := Bool.eq_false_iff.mpr c3
    subst c3
    have H1 : (some false) = some r := by rw [if_neg (show ¬ (false = true) by decide)] at H; exact H
    clear H
    have H := H1
    clear H1
    exact absurd ((Option.some.inj H).trans HT.out) (by decide)

end Go.Proofs.Ytipjpdiianopcaa.E
