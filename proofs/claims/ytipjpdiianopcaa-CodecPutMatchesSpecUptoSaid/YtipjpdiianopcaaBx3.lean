/- Functions of the program as plain Lean functions, each with a proof that the call of the Go function answers as it does. -/
import Derived.Test.YtipjpdiianopcaaBx0
import Derived.Test.YtipjpdiianopcaaBx1
import Derived.Test.YtipjpdiianopcaaBx2
import Derived.Test.YtipjpdiianopcaaAx0
import Derived.Test.YtipjpdiianopcaaAx1
import Derived.Test.YtipjpdiianopcaaAx2
import Derived.Test.YtipjpdiianopcaaAx3
import Derived.Test.YtipjpdiianopcaaCw
namespace Go.Proofs.Ytipjpdiianopcaa.B
open Go.RowKit Go.Proofs.YtipjpdiianopcaaW.PrintWords Go.Proofs.YtipjpdiianopcaaW.PrintLast Go.Proofs.YtipjpdiianopcaaW.PrintMore Go.Proofs.Ytipjpdiianopcaa.A Go.Proofs.Ytipjpdiianopcaa.Cw Go.Proofs.Ytipjpdiianopcaa.Cr
attribute [local go_sem] max2_int min2_int max_two min_two max_three min_three max_four min_four   -- for this text's walks alone
set_option linter.unusedVariables false
set_option linter.unusedSimpArgs false

attribute [local go_sem high] eqA27
/-! ### linkhouselaw1_CodecPutMatchesSpec: function 3 -/
def linkhouselaw1_CodecPutMatchesSpec.j0 : Nat → List ByteArray → List Int → Int → Int → Option (Bool)
  | 0, _, _, _, _ => none
  | k + 1, x1, x7, x207000, x207001 => if (x1.length : Int) > 100000 then ((linkhouseref1_At.f 2 (-1)).bind fun bt213 => (if (x207000 == bt213.1 && (x207001 == bt213.2)) = true then (some ((x7.length : Int) == 0)) else (some false))) else (if x207000 = 0 then ((linkhouseref1_TextsCode.f k x1).bind fun t215 => ((linkhouseref1_Bytes.f x7 t215).bind fun t218 => (some t218))) else (some false))
def linkhouselaw1_CodecPutMatchesSpec.f (k : Nat) (l0 : List Int) (l1 : List ByteArray) : Option (Bool) := (linkhouselaw1_codecExample.f k).bind fun t194 => (if t194 = true then ((codec_Put.f l0).bind fun bt195 => ((codec_PutText.f l1).bind fun bt201 => (if (l0.length : Int) > 100000 then ((linkhouseref1_At.f 2 (-1)).bind fun bt207 => (if (!(bt195.2.1 == bt207.1) || (!(bt195.2.2 == bt207.2))) = true then (some false) else (if (bt195.1.length : Int) > 0 then (some false) else (linkhouselaw1_CodecPutMatchesSpec.j0 k l1 bt201.1 bt201.2.1 bt201.2.2)))) else (if bt195.2.1 = 0 then ((linkhouseref1_NumbersCode.f k l0).bind fun t209 => ((linkhouseref1_Bytes.f bt195.1 t209).bind fun t212 => (if t212 = true then (linkhouselaw1_CodecPutMatchesSpec.j0 k l1 bt201.1 bt201.2.1 bt201.2.2) else (some false)))) else (some false))))) else (some false))
theorem linkhouselaw1_CodecPutMatchesSpec.mono_l : ∀ k, (∀ y0 y1 y2 y3, LeO (linkhouselaw1_CodecPutMatchesSpec.j0 k y0 y1 y2 y3) (linkhouselaw1_CodecPutMatchesSpec.j0 (k + 1) y0 y1 y2 y3))
  | 0 => fun _ _ _ _ r h => by simp [linkhouselaw1_CodecPutMatchesSpec.j0] at h
  | k + 1 => by
    have ih0 := linkhouselaw1_CodecPutMatchesSpec.mono_l k
    · intro y0 y1 y2 y3
      unfold linkhouselaw1_CodecPutMatchesSpec.j0
      repeat' first
      | (with_reducible exact ih0 _ _ _ _)
      | (with_reducible exact linkhouselaw1_codecExample.mono _)
      | (with_reducible exact linkhouseref1_NumbersCode.mono _ _)
      | (with_reducible exact linkhouseref1_TextsCode.mono _ _)
      | (with_reducible exact LeO.refl _)
      | (with_reducible exact LeO.none _)
      | (with_reducible refine LeO.ite ?_ ?_)
      | (with_reducible refine LeO.bind ?_ (fun _ => ?_))
      | exact ih0 _ _ _ _
      | exact linkhouselaw1_codecExample.mono _
      | exact linkhouseref1_NumbersCode.mono _ _
      | exact linkhouseref1_TextsCode.mono _ _
      | exact LeO.none _
      | refine LeO.ite ?_ ?_
      | refine LeO.bind ?_ (fun _ => ?_)
theorem linkhouselaw1_CodecPutMatchesSpec.mono : ∀ a0 a1 k, LeO (linkhouselaw1_CodecPutMatchesSpec.f k a0 a1) (linkhouselaw1_CodecPutMatchesSpec.f (k + 1) a0 a1) := by
  intro a0 a1 k
  have ih0 := linkhouselaw1_CodecPutMatchesSpec.mono_l k
  unfold linkhouselaw1_CodecPutMatchesSpec.f
  repeat' first
      | (with_reducible exact ih0 _ _ _ _)
      | (with_reducible exact linkhouselaw1_codecExample.mono _)
      | (with_reducible exact linkhouseref1_NumbersCode.mono _ _)
      | (with_reducible exact linkhouseref1_TextsCode.mono _ _)
      | (with_reducible exact LeO.refl _)
      | (with_reducible exact LeO.none _)
      | (with_reducible refine LeO.ite ?_ ?_)
      | (with_reducible refine LeO.bind ?_ (fun _ => ?_))
      | exact ih0 _ _ _ _
      | exact linkhouselaw1_codecExample.mono _
      | exact linkhouseref1_NumbersCode.mono _ _
      | exact linkhouseref1_TextsCode.mono _ _
      | exact LeO.none _
      | refine LeO.ite ?_ ?_
      | refine LeO.bind ?_ (fun _ => ?_)
def linkhouselaw1_CodecPutMatchesSpec.T6 : Bool × List (List Nat × List Nat) := (true, [([], []), ([], []), ([0, 1], [0, 1]), ([2, 1], [2]), ([3], [3]), ([4, 3], [3, 4]), ([5, 3], [3, 5]), ([3, 6], [3, 6])])
def linkhouselaw1_CodecPutMatchesSpec.B6 : List Nat := [0, 0, 3, 7, 15, 31, 63, 127]
theorem linkhouselaw1_CodecPutMatchesSpec.tab6 : rtab .any (opsOf Try.f3 6) = linkhouselaw1_CodecPutMatchesSpec.T6 := by kernel_rfl
theorem linkhouselaw1_CodecPutMatchesSpec.bits6 : waitsOk linkhouselaw1_CodecPutMatchesSpec.T6.2 linkhouselaw1_CodecPutMatchesSpec.B6 = true := by kernel_rfl
def linkhouselaw1_CodecPutMatchesSpec.T11 : Bool × List (List Nat × List Nat) := (true, [([], []), ([], []), ([0, 1], [0, 1]), ([2, 1], [2]), ([3], [3]), ([4, 3], [3, 4]), ([5, 3], [3, 5]), ([3, 6], [3, 6]), ([7, 3, 0, 1, 2, 3, 4, 5, 6, 7], [7])])
def linkhouselaw1_CodecPutMatchesSpec.B11 : List Nat := [0, 0, 3, 7, 15, 31, 63, 127, 255]
theorem linkhouselaw1_CodecPutMatchesSpec.tab11 : rtab .any (opsOf Try.f3 11) = linkhouselaw1_CodecPutMatchesSpec.T11 := by kernel_rfl
theorem linkhouselaw1_CodecPutMatchesSpec.bits11 : waitsOk linkhouselaw1_CodecPutMatchesSpec.T11.2 linkhouselaw1_CodecPutMatchesSpec.B11 = true := by kernel_rfl
set_option maxHeartbeats 8000000 in
set_option maxRecDepth 100000 in
theorem linkhouselaw1_CodecPutMatchesSpec.calls (k : Nat) (A0 : Option Addr) (c0 : Nat) (l0 : List Int) (A1 : Option Addr) (c1 : Nat) (l1 : List ByteArray) (r : Bool) (w : World) (hr0 : Kd.C (Kd.int .i64) w A0 l0.length l0) (hc0 : l0.length ≤ c0) (hr1 : Kd.C Kd.string w A1 l1.length l1) (hc1 : l1.length ≤ c1) (hT : r = true) (h : linkhouselaw1_CodecPutMatchesSpec.f k l0 l1 = some r) :
    Calls Try.prog 3 #[.slice A0 l0.length c0, .slice A1 l1.length c1] w fun e w' => e = .returned (.bool r) ∧ Below w.heap.size w w' := by
  have hu27 := Try.underlying27
  have HT := Aside0.mk hT
  clear hT
  have HR0 := Aside0.mk hr0
  have HC0 := Aside0.mk hc0
  clear hr0 hc0
  have HR1 := Aside0.mk hr1
  have HC1 := Aside0.mk hc1
  clear hr1 hc1
  have HB := Aside0.mk (Below.refl w.heap.size w)
  have H : ((linkhouselaw1_codecExample.f k).bind fun t194 => (if t194 = true then ((codec_Put.f l0).bind fun bt195 => ((codec_PutText.f l1).bind fun bt201 => (if (l0.length : Int) > 100000 then ((linkhouseref1_At.f 2 (-1)).bind fun bt207 => (if (!(bt195.2.1 == bt207.1) || (!(bt195.2.2 == bt207.2))) = true then (some false) else (if (bt195.1.length : Int) > 0 then (some false) else (linkhouselaw1_CodecPutMatchesSpec.j0 k l1 bt201.1 bt201.2.1 bt201.2.2)))) else (if bt195.2.1 = 0 then ((linkhouseref1_NumbersCode.f k l0).bind fun t209 => ((linkhouseref1_Bytes.f bt195.1 t209).bind fun t212 => (if t212 = true then (linkhouselaw1_CodecPutMatchesSpec.j0 k l1 bt201.1 bt201.2.1 bt201.2.2) else (some false)))) else (some false))))) else (some false))) = some r := h
  clear h
  replace H := Option.bind_eq_some_iff.mp H
  obtain ⟨t194, A30, H⟩ := H
  replace H : (if t194 = true then ((codec_Put.f l0).bind fun bt195 => ((codec_PutText.f l1).bind fun bt201 => (if (l0.length : Int) > 100000 then ((linkhouseref1_At.f 2 (-1)).bind fun bt207 => (if (!(bt195.2.1 == bt207.1) || (!(bt195.2.2 == bt207.2))) = true then (some false) else (if (bt195.1.length : Int) > 0 then (some false) else (linkhouselaw1_CodecPutMatchesSpec.j0 k l1 bt201.1 bt201.2.1 bt201.2.2)))) else (if bt195.2.1 = 0 then ((linkhouseref1_NumbersCode.f k l0).bind fun t209 => ((linkhouseref1_Bytes.f bt195.1 t209).bind fun t212 => (if t212 = true then (linkhouselaw1_CodecPutMatchesSpec.j0 k l1 bt201.1 bt201.2.1 bt201.2.2) else (some false)))) else (some false))))) else (some false)) = some r := H
  have A3 := Aside0.mk A30
  clear A30
  by_cases c4 : t194 = true
  · subst c4
    have H1 : ((codec_Put.f l0).bind fun bt195 => ((codec_PutText.f l1).bind fun bt201 => (if (l0.length : Int) > 100000 then ((linkhouseref1_At.f 2 (-1)).bind fun bt207 => (if (!(bt195.2.1 == bt207.1) || (!(bt195.2.2 == bt207.2))) = true then (some false) else (if (bt195.1.length : Int) > 0 then (some false) else (linkhouselaw1_CodecPutMatchesSpec.j0 k l1 bt201.1 bt201.2.1 bt201.2.2)))) else (if bt195.2.1 = 0 then ((linkhouseref1_NumbersCode.f k l0).bind fun t209 => ((linkhouseref1_Bytes.f bt195.1 t209).bind fun t212 => (if t212 = true then (linkhouselaw1_CodecPutMatchesSpec.j0 k l1 bt201.1 bt201.2.1 bt201.2.2) else (some false)))) else (some false))))) = some r := by rw [if_pos rfl] at H; exact H
    clear H
    have H := H1
    clear H1
    replace H := Option.bind_eq_some_iff.mp H
    obtain ⟨⟨t195, t198, t199⟩, A50, H⟩ := H
    replace H : ((codec_PutText.f l1).bind fun bt201 => (if (l0.length : Int) > 100000 then ((linkhouseref1_At.f 2 (-1)).bind fun bt207 => (if (!(t198 == bt207.1) || (!(t199 == bt207.2))) = true then (some false) else (if (t195.length : Int) > 0 then (some false) else (linkhouselaw1_CodecPutMatchesSpec.j0 k l1 bt201.1 bt201.2.1 bt201.2.2)))) else (if t198 = 0 then ((linkhouseref1_NumbersCode.f k l0).bind fun t209 => ((linkhouseref1_Bytes.f t195 t209).bind fun t212 => (if t212 = true then (linkhouselaw1_CodecPutMatchesSpec.j0 k l1 bt201.1 bt201.2.1 bt201.2.2) else (some false)))) else (some false)))) = some r := H
    have A5 := Aside0.mk A50
    clear A50
    replace H := Option.bind_eq_some_iff.mp H
    obtain ⟨⟨t201, t204, t205⟩, A60, H⟩ := H
    replace H : (if (l0.length : Int) > 100000 then ((linkhouseref1_At.f 2 (-1)).bind fun bt207 => (if (!(t198 == bt207.1) || (!(t199 == bt207.2))) = true then (some false) else (if (t195.length : Int) > 0 then (some false) else (linkhouselaw1_CodecPutMatchesSpec.j0 k l1 t201 t204 t205)))) else (if t198 = 0 then ((linkhouseref1_NumbersCode.f k l0).bind fun t209 => ((linkhouseref1_Bytes.f t195 t209).bind fun t212 => (if t212 = true then (linkhouselaw1_CodecPutMatchesSpec.j0 k l1 t201 t204 t205) else (some false)))) else (some false))) = some r := H
    have A6 := Aside0.mk A60
    clear A60
    have HC7 := Aside0.mk H
    clear H
    go_enter Try.func3, Try.ntmps3
    go_upto_if 23 with (first | ((with_reducible refine gate_callee (f := 20) rfl ?_); refine goesL_ (some 9) rfl rfl Try.func20 (by kernel_rfl) rfl #[] rfl (by (try simp only [List.map_toArray, List.map_cons, List.map_nil]); first | done | rfl | (simp only [List.length_drop, List.length_take]; rfl)) ?_; (with_reducible refine (linkhouselaw1_codecExample.calls k  true _ rfl A3.out).mono ?_); rintro e w8 ⟨rfl, hb⟩; refine ⟨_, rfl, ?_⟩; have n0_ := Aside0.mk (below_step (by repeat (first | (with_reducible first | exact HB.out | apply below_alloc | apply pw_below_drewN | apply below_drew1) | exact HB.out)) hb); clear HB; have HB := n0_; clear n0_; (try clear hb); (try clear hb2); (try clear hk); (try clear hi)) | ((with_reducible refine gate_callee (f := 21) rfl ?_); refine goesL_ (some 13) rfl rfl Try.func21 (by kernel_rfl) rfl #[.slice A0 l0.length c0] rfl (by (try simp only [List.map_toArray, List.map_cons, List.map_nil]); first | done | rfl | (simp only [List.length_drop, List.length_take]; rfl)) ?_; (with_reducible refine (codec_Put.calls _ _ l0 t195 t198 t199 _ ?side1 ?side2 A5.out).mono ?_); (case side1 => repeat (first | exact (Kd.C_below HR0.out HB.out) | (with_reducible refine Kd.C_alloc ?_ _) | (with_reducible refine Kd.C_drewN ?_ _) | (with_reducible refine Kd.C_drew ?_))); (case side2 => exact HC0.out); rintro e w9 ⟨v196, rfl, ho0, hb⟩; refine ⟨_, rfl, ?_⟩; have n0_ := Aside0.mk (Kd.R_lower ho0 (below_size (by repeat (first | (with_reducible first | exact HB.out | apply below_alloc | apply pw_below_drewN | apply below_drew1) | exact HB.out)))); have n1_ := Aside0.mk (below_step (by repeat (first | (with_reducible first | exact HB.out | apply below_alloc | apply pw_below_drewN | apply below_drew1) | exact HB.out)) hb); clear HB; have HO197 := n0_; have HB := n1_; clear n0_ n1_; (try clear hb); (try clear hb2); (try clear hk); (try clear hi); (try clear ho0)) | ((with_reducible refine gate_dst (N := 6) rfl ?_); (try (refine gate_guard (by rfl) ?_; dsimp only)); refine box_event ?hg (N := 6) ?hd (cs := #[.int .i64 0, .int .i64 0]) (t := 27) ?hr ?_; (case hd => rfl); (case hg => rfl); (case hr => first | (go_simp; done) | (go_simp; rfl)); intro gb200 hg w10 hbox hb; have n0_ := Aside0.mk (Kd.R_below (by (with_reducible repeat (first | apply Kd.R_alloc | apply Kd.R_drewN | apply Kd.R_drew)); exact HO197.out) hb); have n1_ := Aside0.mk (below_step (by repeat (first | (with_reducible first | exact HB.out | apply below_alloc | apply pw_below_drewN | apply below_drew1) | exact HB.out)) hb); have n2_ := Aside0.mk (hbox); have n3_ := Aside0.mk ((by rw [hg]; exact (below_size (by repeat (first | (with_reducible first | exact HB.out | apply below_alloc | apply pw_below_drewN | apply below_drew1) | exact HB.out))) : w.heap.size ≤ gb200)); have n4_ := Aside0.mk ((by rw [hg]; exact (below_size (by repeat (first | (with_reducible first | exact HB.out | apply below_alloc | apply pw_below_drewN | apply below_drew1) | exact HB.out))) : w.heap.size ≤ gb200)); clear HO197; clear HB; have HO197 := n0_; have HB := n1_; have BK200 := n2_; have GW200 := n3_; have GE200 := n4_; clear n0_ n1_ n2_ n3_ n4_; clear hb hbox hg; have hcz11_0 : w10.cell? ⟨gb200, 0, none⟩ = some (.int .i64 0) := (blk_cell BK200.out 0).trans rfl; have hcz11_1 : w10.cell? ⟨gb200, 1, none⟩ = some (.int .i64 0) := (blk_cell BK200.out 1).trans rfl; have hfz11_0 := blk_frozen BK200.out 0; have hfz11_1 := blk_frozen BK200.out 1) | ((with_reducible refine gate_callee (f := 22) rfl ?_); refine goesL_ (some 18) rfl rfl Try.func22 (by kernel_rfl) rfl #[.slice A1 l1.length c1] rfl (by (try simp only [List.map_toArray, List.map_cons, List.map_nil]); first | done | rfl | (simp only [List.length_drop, List.length_take]; rfl)) ?_; (with_reducible refine (codec_PutText.calls _ _ l1 t201 t204 t205 _ ?side1 ?side2 A6.out).mono ?_); (case side1 => exact Kd.C_below HR1.out (by repeat (first | (with_reducible first | exact HB.out | apply below_alloc | apply pw_below_drewN | apply below_drew1 | refine below_set ?_ GE200.out) | exact HB.out))); (case side2 => exact HC1.out); rintro e w12 ⟨v202, rfl, ho0, hb⟩; refine ⟨_, rfl, ?_⟩; have n0_ := Aside0.mk (Kd.R_elder' (by (with_reducible repeat (first | apply Kd.R_alloc | apply Kd.R_drewN | apply Kd.R_drew)); exact (Kd.R_mono (Kd.R_far (p := ⟨gb200, 1, none⟩) (Kd.R_far (p := ⟨gb200, 0, none⟩) (Kd.R_types HO197.out BK200.out (by decide)) (fun _ hk => hk.2) (.int .i64 t198)) (fun _ hk => hk.2) (.int .i64 t199)) (fun _ h_ => h_.1))) (Kd.R_base ho0) hb); have n1_ := Aside0.mk (Kd.R_lower (Kd.R_new' ho0 (Kd.R_lt (by (with_reducible repeat (first | apply Kd.R_alloc | apply Kd.R_drewN | apply Kd.R_drew)); exact (Kd.R_mono (Kd.R_far (p := ⟨gb200, 1, none⟩) (Kd.R_far (p := ⟨gb200, 0, none⟩) (Kd.R_types HO197.out BK200.out (by decide)) (fun _ hk => hk.2) (.int .i64 t198)) (fun _ hk => hk.2) (.int .i64 t199)) (fun _ h_ => h_.1))))) (below_size (by repeat (first | (with_reducible first | exact HB.out | apply below_alloc | apply pw_below_drewN | apply below_drew1 | refine below_set ?_ GE200.out) | exact HB.out)))); have n2_ := Aside0.mk (blk_below (g := gb200) (o := .cells #[.int .i64 t198, .int .i64 t199] 27 (0, 0)) (by (with_reducible repeat (first | refine blk_drewN ?_ _ | refine blk_drew ?_ | refine blk_alloc ?_ _)); refine blk_put (cs := #[.int .i64 t198, .int .i64 0]) ?_ 1 _ rfl; (with_reducible repeat (first | refine blk_drewN ?_ _ | refine blk_drew ?_ | refine blk_alloc ?_ _)); refine blk_put (cs := #[.int .i64 0, .int .i64 0]) ?_ 0 _ rfl; (with_reducible repeat (first | refine blk_drewN ?_ _ | refine blk_drew ?_ | refine blk_alloc ?_ _)); exact BK200.out) hb); have n3_ := Aside0.mk (below_step (by repeat (first | (with_reducible first | exact HB.out | apply below_alloc | apply pw_below_drewN | apply below_drew1 | refine below_set ?_ GE200.out) | exact HB.out)) hb); clear HO197; clear BK200; clear HB; have HO197 := n0_; have HO203 := n1_; have BK200 := n2_; have HB := n3_; clear n0_ n1_ n2_ n3_; (try clear hb); (try clear hb2); (try clear hk); (try clear hi); (try clear ho0)) | ((with_reducible refine gate_dst (N := 8) rfl ?_); (try (refine gate_guard (by rfl) ?_; dsimp only)); refine box_event ?hg (N := 8) ?hd (cs := #[.int .i64 0, .int .i64 0]) (t := 27) ?hr ?_; (case hd => rfl); (case hg => rfl); (case hr => first | (go_simp; done) | (go_simp; rfl)); intro gb206 hg w13 hbox hb; have n0_ := Aside0.mk (Kd.R_below (by (with_reducible repeat (first | apply Kd.R_alloc | apply Kd.R_drewN | apply Kd.R_drew)); exact HO197.out) hb); have n1_ := Aside0.mk (Kd.R_below (by (with_reducible repeat (first | apply Kd.R_alloc | apply Kd.R_drewN | apply Kd.R_drew)); exact HO203.out) hb); have n2_ := Aside0.mk (blk_below (g := gb200) (o := .cells #[.int .i64 t198, .int .i64 t199] 27 (0, 0)) (by (with_reducible repeat (first | refine blk_drewN ?_ _ | refine blk_drew ?_ | refine blk_alloc ?_ _)); exact BK200.out) hb); have n3_ := Aside0.mk (below_step (by repeat (first | (with_reducible first | exact HB.out | apply below_alloc | apply pw_below_drewN | apply below_drew1 | refine below_set ?_ GE200.out) | exact HB.out)) hb); have n4_ := Aside0.mk (hbox); have n5_ := Aside0.mk ((by rw [hg]; exact (below_size (by repeat (first | (with_reducible first | exact HB.out | apply below_alloc | apply pw_below_drewN | apply below_drew1 | refine below_set ?_ GE200.out) | exact HB.out))) : w.heap.size ≤ gb206)); have n6_ := Aside0.mk ((by rw [hg]; exact (below_size (by repeat (first | (with_reducible first | exact HB.out | apply below_alloc | apply pw_below_drewN | apply below_drew1 | refine below_set ?_ GE200.out) | exact HB.out))) : w.heap.size ≤ gb206)); have n7_ := Aside0.mk ((by rw [hg]; exact Nat.ne_of_lt (blk_lt (g := gb200) (o := .cells #[.int .i64 t198, .int .i64 t199] 27 (0, 0)) (by (with_reducible repeat (first | refine blk_drewN ?_ _ | refine blk_drew ?_ | refine blk_alloc ?_ _)); exact BK200.out)) : gb200 ≠ gb206)); have n8_ := Aside0.mk ((by rw [hg]; exact Nat.ne_of_gt (blk_lt (g := gb200) (o := .cells #[.int .i64 t198, .int .i64 t199] 27 (0, 0)) (by (with_reducible repeat (first | refine blk_drewN ?_ _ | refine blk_drew ?_ | refine blk_alloc ?_ _)); exact BK200.out)) : gb206 ≠ gb200)); clear HO197; clear HO203; clear BK200; clear HB; have HO197 := n0_; have HO203 := n1_; have BK200 := n2_; have HB := n3_; have BK206 := n4_; have GW206 := n5_; have GE206 := n6_; have NB200_206 := n7_; have NB206_200 := n8_; clear n0_ n1_ n2_ n3_ n4_ n5_ n6_ n7_ n8_; clear hb hbox hg; have hnb14 := NB206_200.out; have hnc14 := NB200_206.out; have hcz15_0 : w13.cell? ⟨gb206, 0, none⟩ = some (.int .i64 0) := (blk_cell BK206.out 0).trans rfl; have hcz15_1 : w13.cell? ⟨gb206, 1, none⟩ = some (.int .i64 0) := (blk_cell BK206.out 1).trans rfl; have hfz15_0 := blk_frozen BK206.out 0; have hfz15_1 := blk_frozen BK206.out 1))
    (try simp only [Act.put, List.setIfInBounds_toArray, List.set_cons_zero, List.set_cons_succ])
    go_cut [] (fun wc => ∃ (kq : Nat), Aside0 (linkhouselaw1_CodecPutMatchesSpec.j0 kq l1 t201 t204 t205 = some r) ∧ Aside0 (kq ≤ k) ∧ Aside0 (Kd.R (Kd.int .u8) 5 wc w.heap.size (fun _ => True) v202 t201) ∧ Aside0 (wc.heap[gb200]? = some (.cells #[.int .i64 t198, .int .i64 t199] 27 (0, 0))) ∧ Aside0 (wc.heap[gb206]? = some (.cells #[.int .i64 t204, .int .i64 t205] 27 (0, 0))) ∧ Aside0 (Below w.heap.size w wc))
    case first =>
      have H := HC7.out
      clear HC7
      by_cases c16 : (l0.length : Int) > 100000
      · rw [if_pos c16] at H
        have c16b0 : decide (100000 < (l0.length : Int)) = true := decide_eq_true c16
        have c16b1 : decide (100000 < l0.length) = true := decide_eq_true (by omega)
        clear c16
        (first | rw [c16b0] | (simp only [i64_w, i32_w]; rw [c16b0]) | skip)
        replace H := Option.bind_eq_some_iff.mp H
        obtain ⟨⟨t207, t208⟩, A170, H⟩ := H
        replace H : (if (!(t198 == t207) || (!(t199 == t208))) = true then (some false) else (if (t195.length : Int) > 0 then (some false) else (linkhouselaw1_CodecPutMatchesSpec.j0 k l1 t201 t204 t205))) = some r := H
        have A17 := Aside0.mk A170
        clear A170
        by_cases c18 : (!(t198 == t207) || (!(t199 == t208))) = true
        · rw [if_pos c18] at H
          have c18b0 : (!(t198 == t207) || (!(t199 == t208))) = true := c18
          clear c18
          exact absurd ((Option.some.inj H).trans HT.out) (by decide)
        · rw [if_neg c18] at H
          have c18b0 : (!(t198 == t207) || (!(t199 == t208))) = false := by simpa using c18
          clear c18
          by_cases c19 : (t195.length : Int) > 0
          · rw [if_pos c19] at H
            have c19b0 : decide (0 < (t195.length : Int)) = true := decide_eq_true c19
            have c19b1 : decide (0 < t195.length) = true := decide_eq_true (by omega)
            clear c19
            exact absurd ((Option.some.inj H).trans HT.out) (by decide)
          · rw [if_neg c19] at H
            have c19b0 : decide (0 < (t195.length : Int)) = false := decide_eq_false c19
            have c19b1 : decide (0 < t195.length) = false := decide_eq_false (by omega)
            clear c19
            have H' := Aside0.mk H
            clear H
            try go_wp2
            have n0_ : Aside0 (Kd.R (Kd.int .u8) 5 ((w13.setCell ⟨gb206, 0, none⟩ (.int .i64 t204)).setCell ⟨gb206, 1, none⟩ (.int .i64 t205)) w.heap.size (fun k_ => some k_ ≠ (v202 : Value).ownBlock) v196 t195) := ⟨by (with_reducible repeat (first | apply Kd.R_alloc | apply Kd.R_drewN | apply Kd.R_drew)); exact Kd.R_mono (Kd.R_far (p := ⟨gb206, 1, none⟩) (Kd.R_far (p := ⟨gb206, 0, none⟩) (Kd.R_types HO197.out BK206.out (by decide)) (fun _ hk => hk.2) (.int .i64 t204)) (fun _ hk => hk.2) (.int .i64 t205)) (fun _ hk => hk.1.2)⟩
            have n1_ : Aside0 (Kd.R (Kd.int .u8) 5 ((w13.setCell ⟨gb206, 0, none⟩ (.int .i64 t204)).setCell ⟨gb206, 1, none⟩ (.int .i64 t205)) w.heap.size (fun k_ => some k_ ≠ (v196 : Value).ownBlock) v202 t201) := ⟨by (with_reducible repeat (first | apply Kd.R_alloc | apply Kd.R_drewN | apply Kd.R_drew)); exact Kd.R_mono (Kd.R_far (p := ⟨gb206, 1, none⟩) (Kd.R_far (p := ⟨gb206, 0, none⟩) (Kd.R_types HO203.out BK206.out (by decide)) (fun _ hk => hk.2) (.int .i64 t204)) (fun _ hk => hk.2) (.int .i64 t205)) (fun _ hk => hk.1.2)⟩
            have n2_ : Aside0 (((w13.setCell ⟨gb206, 0, none⟩ (.int .i64 t204)).setCell ⟨gb206, 1, none⟩ (.int .i64 t205)).heap[gb200]? = some (.cells #[.int .i64 t198, .int .i64 t199] 27 (0, 0))) := ⟨by (with_reducible repeat (first | refine blk_drewN ?_ _ | refine blk_drew ?_ | refine blk_alloc ?_ _)); refine blk_far ?_ NB200_206.out _; (with_reducible repeat (first | refine blk_drewN ?_ _ | refine blk_drew ?_ | refine blk_alloc ?_ _)); refine blk_far ?_ NB200_206.out _; (with_reducible repeat (first | refine blk_drewN ?_ _ | refine blk_drew ?_ | refine blk_alloc ?_ _)); exact BK200.out⟩
            have n3_ : Aside0 (((w13.setCell ⟨gb206, 0, none⟩ (.int .i64 t204)).setCell ⟨gb206, 1, none⟩ (.int .i64 t205)).heap[gb206]? = some (.cells #[.int .i64 t204, .int .i64 t205] 27 (0, 0))) := ⟨by (with_reducible repeat (first | refine blk_drewN ?_ _ | refine blk_drew ?_ | refine blk_alloc ?_ _)); refine blk_put (cs := #[.int .i64 t204, .int .i64 0]) ?_ 1 _ rfl; (with_reducible repeat (first | refine blk_drewN ?_ _ | refine blk_drew ?_ | refine blk_alloc ?_ _)); refine blk_put (cs := #[.int .i64 0, .int .i64 0]) ?_ 0 _ rfl; (with_reducible repeat (first | refine blk_drewN ?_ _ | refine blk_drew ?_ | refine blk_alloc ?_ _)); exact BK206.out⟩
            have n4_ : Aside0 (Below w.heap.size w ((w13.setCell ⟨gb206, 0, none⟩ (.int .i64 t204)).setCell ⟨gb206, 1, none⟩ (.int .i64 t205))) := ⟨by repeat (first | (with_reducible first | exact HB.out | apply below_alloc | apply pw_below_drewN | apply below_drew1 | refine below_set ?_ GE200.out | refine below_set ?_ GE206.out) | exact HB.out)⟩
            (try clear HO197)
            (try clear HO203)
            (try clear BK200)
            (try clear BK206)
            (try clear HB)
            generalize ((w13.setCell ⟨gb206, 0, none⟩ (.int .i64 t204)).setCell ⟨gb206, 1, none⟩ (.int .i64 t205)) = w20 at n0_ n1_ n2_ n3_ n4_ ⊢
            have HO197 := n0_
            have HO203 := n1_
            have BK200 := n2_
            have BK206 := n3_
            have HB := n4_
            clear n0_ n1_ n2_ n3_ n4_
            have n0_ := Aside0.mk (Kd.R_drew HO197.out)
            have n1_ := Aside0.mk (Kd.R_drew HO203.out)
            have n2_ := Aside0.mk (blk_drew BK200.out)
            have n3_ := Aside0.mk (blk_drew BK206.out)
            have n4_ := Aside0.mk (below_drew1 HB.out)
            clear HO197
            clear HO203
            clear BK200
            clear BK206
            clear HB
            have HO197 := n0_
            have HO203 := n1_
            have BK200 := n2_
            have BK206 := n3_
            have HB := n4_
            clear n0_ n1_ n2_ n3_ n4_
            refine start_ (n := 8) (S := fun w' => w'.cell? ⟨gb200, 0, none⟩ = some (.int .i64 t198) ∧ w'.cell? ⟨gb200, 1, none⟩ = some (.int .i64 t199)) (ds := []) #[false, false, false, false, false, false, false, false] (by kernel_rfl) rfl rfl ⟨(blk_cell BK200.out 0).trans rfl, (blk_cell BK200.out 1).trans rfl⟩ (fun hHeld => ?_); refine with_tabW linkhouselaw1_CodecPutMatchesSpec.tab6 linkhouselaw1_CodecPutMatchesSpec.bits6 (fun HT_ HW_ => ?_)
            generalize w20.drew = w21 at HO197 HO203 BK200 BK206 HB hHeld ⊢
            refine take_ (i := 0) (N := some 24) (v := ?_) (a' := ?_) #[true, false, false, false, false, false, false, false] rfl rfl (take_ofW HT_.out HW_.out (by kernel_rfl)) (fun _ _ _ h => h) (Or.inl ⟨by rfl, ?_⟩) hHeld ?_ ?_
            rotate_left
            · rintro w' ⟨s0, s1⟩
              go_simp
              with_reducible rfl
            rotate_left
            · simp only [Act.put, List.setIfInBounds_toArray, List.set_cons_zero, List.set_cons_succ, i64_w, i32_w]
              rfl
            refine one_ (i := 1) (N := some 25) #[true, true, false, false, false, false, false, false] rfl rfl (one_of HT_.out (by kernel_rfl)) (by decide) (fun K hK => ?_)
            refine goes_ Try.func23 (by kernel_rfl) rfl #[.int .i64 2, .int .i64 (-1)] (by rfl) rfl rfl (by (try simp only [List.map_toArray, List.map_cons, List.map_nil]); first | done | rfl | (simp only [List.length_drop, List.length_take]; rfl)) ?_
            with_reducible refine (linkhouseref1_At.calls 2 (-1) t207 t208 _ A17.out).mono ?_
            rintro e w22 ⟨rfl, hb⟩
            refine ⟨_, rfl, ?_⟩
            have n0_ := Aside0.mk (Kd.R_below (by (with_reducible repeat (first | apply Kd.R_alloc | apply Kd.R_drewN | apply Kd.R_drew)); exact HO197.out) hb)
            have n1_ := Aside0.mk (Kd.R_below (by (with_reducible repeat (first | apply Kd.R_alloc | apply Kd.R_drewN | apply Kd.R_drew)); exact HO203.out) hb)
            have n2_ := Aside0.mk (blk_below (g := gb200) (o := .cells #[.int .i64 t198, .int .i64 t199] 27 (0, 0)) (by (with_reducible repeat (first | refine blk_drewN ?_ _ | refine blk_drew ?_ | refine blk_alloc ?_ _)); exact BK200.out) hb)
            have n3_ := Aside0.mk (blk_below (g := gb206) (o := .cells #[.int .i64 t204, .int .i64 t205] 27 (0, 0)) (by (with_reducible repeat (first | refine blk_drewN ?_ _ | refine blk_drew ?_ | refine blk_alloc ?_ _)); exact BK206.out) hb)
            have n4_ := Aside0.mk (below_step (by repeat (first | (with_reducible first | exact HB.out | apply below_alloc | apply pw_below_drewN | apply below_drew1 | refine below_set ?_ GE200.out | refine below_set ?_ GE206.out) | exact HB.out)) hb)
            clear HO197
            clear HO203
            clear BK200
            clear BK206
            clear HB
            have HO197 := n0_
            have HO203 := n1_
            have BK200 := n2_
            have BK206 := n3_
            have HB := n4_
            clear n0_ n1_ n2_ n3_ n4_
            (try clear hb)
            (try clear hb2)
            (try clear hk)
            (try clear hi)
            obtain ⟨Ao23, co23, eo23⟩ := Kd.R_slice HO197.out
            (first | subst eo23 | (injection eo23 with f1_ f2_ f3_; have f4_ := f1_.symm; have f5_ := f3_.symm; clear f1_ f2_ f3_; subst f4_; subst f5_))
            refine hK.out _ _ ⟨(blk_cell BK200.out 0).trans rfl, (blk_cell BK200.out 1).trans rfl⟩ (fun hHeld => ?_)
            clear hK K
            refine norm_ (a' := ?_) ?_ ?_
            rotate_left
            · show Act.put _ (some 25) _ = _
              simp only [Act.put, List.setIfInBounds_toArray, List.set_cons_zero, List.set_cons_succ, i64_w, i32_w]
              rfl
            refine pure_ (i := 2) (N := some 26) (v := ?_) (a' := ?_) #[true, true, true, false, false, false, false, false] rfl rfl (any_of HT_.out (by kernel_rfl)) (fun _ _ _ h => h) (Or.inl ⟨by rfl, ?_⟩) ?_ ?_
            rotate_left
            · intro w'
              go_simp
              with_reducible rfl
            rotate_left
            · simp only [Act.put, List.setIfInBounds_toArray, List.set_cons_zero, List.set_cons_succ, i64_w, i32_w]
              rfl
            refine pure_ (i := 3) (N := some 27) (v := ?_) (a' := ?_) #[true, true, true, true, false, false, false, false] rfl rfl (any_of HT_.out (by kernel_rfl)) (fun _ _ _ h => h) (Or.inl ⟨by rfl, ?_⟩) ?_ ?_
            rotate_left
            · intro w'
              go_simp
              with_reducible rfl
            rotate_left
            · simp only [Act.put, List.setIfInBounds_toArray, List.set_cons_zero, List.set_cons_succ, i64_w, i32_w]
              rfl
            refine pure_ (i := 4) (N := some 28) (v := ?_) (a' := ?_) #[true, true, true, true, true, false, false, false] rfl rfl (any_of HT_.out (by kernel_rfl)) (fun _ _ _ h => h) (Or.inl ⟨by rfl, ?_⟩) ?_ ?_
            rotate_left
            · intro w'
              go_simp
              with_reducible rfl
            rotate_left
            · simp only [Act.put, List.setIfInBounds_toArray, List.set_cons_zero, List.set_cons_succ, i64_w, i32_w]
              rfl
            refine pure_ (i := 5) (N := some 29) (v := ?_) (a' := ?_) #[true, true, true, true, true, true, false, false] rfl rfl (any_of HT_.out (by kernel_rfl)) (fun _ _ _ h => h) (Or.inl ⟨by rfl, ?_⟩) ?_ ?_
            rotate_left
            · intro w'
              go_simp
              with_reducible rfl
            rotate_left
            · simp only [Act.put, List.setIfInBounds_toArray, List.set_cons_zero, List.set_cons_succ, i64_w, i32_w]
              rfl
            refine pure_ (i := 6) (N := some 30) (v := ?_) (a' := ?_) #[true, true, true, true, true, true, true, false] rfl rfl (any_of HT_.out (by kernel_rfl)) (fun _ _ _ h => h) (Or.inl ⟨by rfl, ?_⟩) ?_ ?_
            rotate_left
            · intro w'
              go_simp
              with_reducible rfl
            rotate_left
            · simp only [Act.put, List.setIfInBounds_toArray, List.set_cons_zero, List.set_cons_succ, i64_w, i32_w]
              rfl
            refine pure_ (i := 7) (N := some 31) (v := ?_) (a' := ?_) #[true, true, true, true, true, true, true, true] rfl rfl (any_of HT_.out (by kernel_rfl)) (fun _ _ _ h => h) (Or.inl ⟨by rfl, ?_⟩) ?_ ?_
            rotate_left
            · intro w'
              go_simp
              with_reducible rfl
            rotate_left
            · simp only [Act.put, List.setIfInBounds_toArray, List.set_cons_zero, List.set_cons_succ, i64_w, i32_w]
              rfl
            refine done_ (done_of HT_.out (by kernel_rfl)) ?_
            try go_wp2
            go_meet
            case rel => exact ⟨_, H', ⟨by first | omega | exact Nat.le_refl _⟩, ⟨by (with_reducible repeat (first | apply Kd.R_alloc | apply Kd.R_drewN | apply Kd.R_drew)); exact Kd.R_mono HO203.out (fun _ hk => trivial)⟩, ⟨by (with_reducible repeat (first | refine blk_drewN ?_ _ | refine blk_drew ?_ | refine blk_alloc ?_ _)); exact BK200.out⟩, ⟨by (with_reducible repeat (first | refine blk_drewN ?_ _ | refine blk_drew ?_ | refine blk_alloc ?_ _)); exact BK206.out⟩, ⟨by repeat (first | (with_reducible first | exact HB.out | apply below_alloc | apply pw_below_drewN | apply below_drew1 | refine below_set ?_ GE200.out | refine below_set ?_ GE206.out) | exact HB.out)⟩⟩
      · rw [if_neg c16] at H
        have c16b0 : decide (100000 < (l0.length : Int)) = false := decide_eq_false c16
        have c16b1 : decide (100000 < l0.length) = false := decide_eq_false (by omega)
        clear c16
        (first | rw [c16b0] | (simp only [i64_w, i32_w]; rw [c16b0]) | skip)
        by_cases c24 : t198 = 0
        · rw [if_pos c24] at H
          have c24b0 : (t198 == 0) = true := beq_iff_eq.mpr c24
          have c24b1 : (t198 != 0) = false := bne_eq_false_iff_eq.mpr c24
          clear c24
          replace H := Option.bind_eq_some_iff.mp H
          obtain ⟨t209, A250, H⟩ := H
          replace H : ((linkhouseref1_Bytes.f t195 t209).bind fun t212 => (if t212 = true then (linkhouselaw1_CodecPutMatchesSpec.j0 k l1 t201 t204 t205) else (some false))) = some r := H
          have A25 := Aside0.mk A250
          clear A250
          replace H := Option.bind_eq_some_iff.mp H
          obtain ⟨t212, A260, H⟩ := H
          replace H : (if t212 = true then (linkhouselaw1_CodecPutMatchesSpec.j0 k l1 t201 t204 t205) else (some false)) = some r := H
          have A26 := Aside0.mk A260
          clear A260
          by_cases c27 : t212 = true
          · subst c27
            have H1 : (linkhouselaw1_CodecPutMatchesSpec.j0 k l1 t201 t204 t205) = some r := by rw [if_pos rfl] at H; exact H
            clear H
            have H := H1
            clear H1
            have H' := Aside0.mk H
            clear H
            have hnb28 := NB200_206.out
            have hnc28 := NB206_200.out
            have hcz29_0 : w13.cell? ⟨gb200, 0, none⟩ = some (.int .i64 t198) := (blk_cell BK200.out 0).trans rfl
            have hcz29_1 : w13.cell? ⟨gb200, 1, none⟩ = some (.int .i64 t199) := (blk_cell BK200.out 1).trans rfl
            have hfz29_0 := blk_frozen BK200.out 0
            have hfz29_1 := blk_frozen BK200.out 1
            go_wp2_with (first | (go_at_call 25; (with_reducible refine (linkhouseref1_NumbersCode.calls k _ _ l0 t209 _ ?side1 ?side2 A25.out).mono ?_); (case side1 => exact Kd.C_below HR0.out (by repeat (first | (with_reducible first | exact HB.out | apply below_alloc | apply pw_below_drewN | apply below_drew1 | refine below_set ?_ GE200.out | refine below_set ?_ GE206.out) | exact HB.out))); (case side2 => exact HC0.out); rintro e w30 ⟨v210, rfl, ho0, hb⟩; have n0_ := Aside0.mk (Kd.R_elder' (by (with_reducible repeat (first | apply Kd.R_alloc | apply Kd.R_drewN | apply Kd.R_drew)); exact (Kd.R_mono (Kd.R_far (p := ⟨gb206, 1, none⟩) (Kd.R_far (p := ⟨gb206, 0, none⟩) (Kd.R_types HO197.out BK206.out (by decide)) (fun _ hk => hk.2) (.int .i64 t204)) (fun _ hk => hk.2) (.int .i64 t205)) (fun _ h_ => h_.1))) (Kd.R_base ho0) hb); have n1_ := Aside0.mk (Kd.R_elder' (by (with_reducible repeat (first | apply Kd.R_alloc | apply Kd.R_drewN | apply Kd.R_drew)); exact (Kd.R_mono (Kd.R_far (p := ⟨gb206, 1, none⟩) (Kd.R_far (p := ⟨gb206, 0, none⟩) (Kd.R_types HO203.out BK206.out (by decide)) (fun _ hk => hk.2) (.int .i64 t204)) (fun _ hk => hk.2) (.int .i64 t205)) (fun _ h_ => h_.1))) (Kd.R_base ho0) hb); have n2_ := Aside0.mk (Kd.R_lower (Kd.R_new' (Kd.R_new' ho0 (Kd.R_lt (by (with_reducible repeat (first | apply Kd.R_alloc | apply Kd.R_drewN | apply Kd.R_drew)); exact (Kd.R_mono (Kd.R_far (p := ⟨gb206, 1, none⟩) (Kd.R_far (p := ⟨gb206, 0, none⟩) (Kd.R_types HO197.out BK206.out (by decide)) (fun _ hk => hk.2) (.int .i64 t204)) (fun _ hk => hk.2) (.int .i64 t205)) (fun _ h_ => h_.1))))) (Kd.R_lt (by (with_reducible repeat (first | apply Kd.R_alloc | apply Kd.R_drewN | apply Kd.R_drew)); exact (Kd.R_mono (Kd.R_far (p := ⟨gb206, 1, none⟩) (Kd.R_far (p := ⟨gb206, 0, none⟩) (Kd.R_types HO203.out BK206.out (by decide)) (fun _ hk => hk.2) (.int .i64 t204)) (fun _ hk => hk.2) (.int .i64 t205)) (fun _ h_ => h_.1))))) (below_size (by repeat (first | (with_reducible first | exact HB.out | apply below_alloc | apply pw_below_drewN | apply below_drew1 | refine below_set ?_ GE200.out | refine below_set ?_ GE206.out) | exact HB.out)))); have n3_ := Aside0.mk (blk_below (g := gb200) (o := .cells #[.int .i64 t198, .int .i64 t199] 27 (0, 0)) (by (with_reducible repeat (first | refine blk_drewN ?_ _ | refine blk_drew ?_ | refine blk_alloc ?_ _)); refine blk_far ?_ NB200_206.out _; (with_reducible repeat (first | refine blk_drewN ?_ _ | refine blk_drew ?_ | refine blk_alloc ?_ _)); refine blk_far ?_ NB200_206.out _; (with_reducible repeat (first | refine blk_drewN ?_ _ | refine blk_drew ?_ | refine blk_alloc ?_ _)); exact BK200.out) hb); have n4_ := Aside0.mk (blk_below (g := gb206) (o := .cells #[.int .i64 t204, .int .i64 t205] 27 (0, 0)) (by (with_reducible repeat (first | refine blk_drewN ?_ _ | refine blk_drew ?_ | refine blk_alloc ?_ _)); refine blk_put (cs := #[.int .i64 t204, .int .i64 0]) ?_ 1 _ rfl; (with_reducible repeat (first | refine blk_drewN ?_ _ | refine blk_drew ?_ | refine blk_alloc ?_ _)); refine blk_put (cs := #[.int .i64 0, .int .i64 0]) ?_ 0 _ rfl; (with_reducible repeat (first | refine blk_drewN ?_ _ | refine blk_drew ?_ | refine blk_alloc ?_ _)); exact BK206.out) hb); have n5_ := Aside0.mk (below_step (by repeat (first | (with_reducible first | exact HB.out | apply below_alloc | apply pw_below_drewN | apply below_drew1 | refine below_set ?_ GE200.out | refine below_set ?_ GE206.out) | exact HB.out)) hb); clear HO197; clear HO203; clear BK200; clear BK206; clear HB; have HO197 := n0_; have HO203 := n1_; have HO211 := n2_; have BK200 := n3_; have BK206 := n4_; have HB := n5_; clear n0_ n1_ n2_ n3_ n4_ n5_; (try clear hb); (try clear hb2); (try clear hk); (try clear hi); (try clear ho0); obtain ⟨Ao31, co31, eo31⟩ := Kd.R_slice HO197.out; subst eo31; obtain ⟨Ao32, co32, eo32⟩ := Kd.R_slice HO211.out; subst eo32) | (go_at_call 24; (with_reducible refine (linkhouseref1_Bytes.calls _ _ t195 _ _ t209 true _ ?side1 ?side2 ?side3 ?side4 A26.out).mono ?_); (case side1 => repeat (first | exact (Kd.R_reads' HO197.out).2.2 | (with_reducible refine Kd.C_alloc ?_ _) | (with_reducible refine Kd.C_drewN ?_ _) | (with_reducible refine Kd.C_drew ?_))); (case side2 => exact (Kd.R_reads' HO197.out).2.1); (case side3 => repeat (first | exact (Kd.R_reads' HO211.out).2.2 | (with_reducible refine Kd.C_alloc ?_ _) | (with_reducible refine Kd.C_drewN ?_ _) | (with_reducible refine Kd.C_drew ?_))); (case side4 => exact (Kd.R_reads' HO211.out).2.1); rintro e w' ⟨rfl, ⟨nd, rfl⟩⟩))
            go_meet
            case rel => exact ⟨_, H', ⟨by first | omega | exact Nat.le_refl _⟩, ⟨by (with_reducible repeat (first | apply Kd.R_alloc | apply Kd.R_drewN | apply Kd.R_drew)); exact Kd.R_mono HO203.out (fun _ hk => trivial)⟩, ⟨by (with_reducible repeat (first | refine blk_drewN ?_ _ | refine blk_drew ?_ | refine blk_alloc ?_ _)); exact BK200.out⟩, ⟨by (with_reducible repeat (first | refine blk_drewN ?_ _ | refine blk_drew ?_ | refine blk_alloc ?_ _)); exact BK206.out⟩, ⟨by repeat (first | (with_reducible first | exact HB.out | apply below_alloc | apply pw_below_drewN | apply below_drew1 | refine below_set ?_ GE200.out | refine below_set ?_ GE206.out) | exact HB.out)⟩⟩
          · replace c27 := Bool.eq_false_iff.mpr c27
            subst c27
            have H1 : (some false) = some r := by rw [if_neg (show ¬ (false = true) by decide)] at H; exact H
            clear H
            have H := H1
            clear H1
            exact absurd ((Option.some.inj H).trans HT.out) (by decide)
        · rw [if_neg c24] at H
          have c24b0 : (t198 == 0) = false := beq_eq_false_iff_ne.mpr c24
          have c24b1 : (t198 != 0) = true := bne_iff_ne.mpr c24
          exact absurd ((Option.some.inj H).trans HT.out) (by decide)
    case rest =>
      clear HC7
      try clear c1
      try clear c2
      try clear p2
      try clear c3
      try clear c4
      try clear c14
      try clear c16
      try clear c16b0
      try clear c16b1
      try clear c18
      try clear c18b0
      try clear c19
      try clear c19b0
      try clear c19b1
      try clear c20
      try clear c21
      try clear c22
      try clear c23
      try clear c24
      try clear c24b0
      try clear c24b1
      try clear c27
      try clear c28
      try clear hcz11_0
      try clear hcz11_1
      try clear hcz15_0
      try clear hcz15_1
      try clear hcz29_0
      try clear hcz29_1
      try clear hfz11_0
      try clear hfz11_1
      try clear hfz15_0
      try clear hfz15_1
      try clear hfz29_0
      try clear hfz29_1
      obtain ⟨kq, HA, HJ6, HO_7, BK200, BK206, HB⟩ := hcut
      cases kq with
      | zero => exact absurd HA.out (by simp [linkhouselaw1_CodecPutMatchesSpec.j0])
      | succ kj6 =>
        have H := HA.out
        clear HA
        simp only [linkhouselaw1_CodecPutMatchesSpec.j0] at H
        by_cases c33 : (l1.length : Int) > 100000
        · rw [if_pos c33] at H
          have c33b0 : decide (100000 < (l1.length : Int)) = true := decide_eq_true c33
          have c33b1 : decide (100000 < l1.length) = true := decide_eq_true (by omega)
          clear c33
          replace H := Option.bind_eq_some_iff.mp H
          obtain ⟨⟨t213, t214⟩, A340, H⟩ := H
          replace H : (if (t204 == t213 && (t205 == t214)) = true then (some ((t201.length : Int) == 0)) else (some false)) = some r := H
          have A34 := Aside0.mk A340
          clear A340
          by_cases c35 : (t204 == t213 && (t205 == t214)) = true
          · rw [if_pos c35] at H
            have c35b0 : (t204 == t213 && (t205 == t214)) = true := c35
            (try (have c35b1 : decide (t204 = t213 && (t205 == t214)) = true := by simpa using c35))
            (try (have c35b2 : (t204 == t213 && (t205 == t214)) = true := by simpa using c35))
            clear c35
            obtain rfl := Option.some.inj H
            try go_wp2
            have n0_ := Aside0.mk (Kd.R_drew HO_7.out)
            have n1_ := Aside0.mk (blk_drew BK200.out)
            have n2_ := Aside0.mk (blk_drew BK206.out)
            have n3_ := Aside0.mk (below_drew1 HB.out)
            clear HO_7
            clear BK200
            clear BK206
            clear HB
            have HO_7 := n0_
            have BK200 := n1_
            have BK206 := n2_
            have HB := n3_
            clear n0_ n1_ n2_ n3_
            refine start_ (n := 9) (S := fun w' => w'.cell? ⟨gb206, 0, none⟩ = some (.int .i64 t204) ∧ w'.cell? ⟨gb206, 1, none⟩ = some (.int .i64 t205)) (ds := []) #[false, false, false, false, false, false, false, false, false] (by kernel_rfl) rfl rfl ⟨(blk_cell BK206.out 0).trans rfl, (blk_cell BK206.out 1).trans rfl⟩ (fun hHeld => ?_); refine with_tabW linkhouselaw1_CodecPutMatchesSpec.tab11 linkhouselaw1_CodecPutMatchesSpec.bits11 (fun HT_ HW_ => ?_)
            generalize wc.drew = w36 at HO_7 BK200 BK206 HB hHeld ⊢
            refine take_ (i := 0) (N := some 45) (v := ?_) (a' := ?_) #[true, false, false, false, false, false, false, false, false] rfl rfl (take_ofW HT_.out HW_.out (by kernel_rfl)) (fun _ _ _ h => h) (Or.inl ⟨by rfl, ?_⟩) hHeld ?_ ?_
            rotate_left
            · rintro w' ⟨s0, s1⟩
              go_simp
              with_reducible rfl
            rotate_left
            · simp only [Act.put, List.setIfInBounds_toArray, List.set_cons_zero, List.set_cons_succ, i64_w, i32_w]
              rfl
            refine one_ (i := 1) (N := some 46) #[true, true, false, false, false, false, false, false, false] rfl rfl (one_of HT_.out (by kernel_rfl)) (by decide) (fun K hK => ?_)
            refine goes_ Try.func23 (by kernel_rfl) rfl #[.int .i64 2, .int .i64 (-1)] (by rfl) rfl rfl (by (try simp only [List.map_toArray, List.map_cons, List.map_nil]); first | done | rfl | (simp only [List.length_drop, List.length_take]; rfl)) ?_
            with_reducible refine (linkhouseref1_At.calls 2 (-1) t213 t214 _ A34.out).mono ?_
            rintro e w37 ⟨rfl, hb⟩
            refine ⟨_, rfl, ?_⟩
            have n0_ := Aside0.mk (Kd.R_below (by (with_reducible repeat (first | apply Kd.R_alloc | apply Kd.R_drewN | apply Kd.R_drew)); exact HO_7.out) hb)
            have n1_ := Aside0.mk (blk_below (g := gb200) (o := .cells #[.int .i64 t198, .int .i64 t199] 27 (0, 0)) (by (with_reducible repeat (first | refine blk_drewN ?_ _ | refine blk_drew ?_ | refine blk_alloc ?_ _)); exact BK200.out) hb)
            have n2_ := Aside0.mk (blk_below (g := gb206) (o := .cells #[.int .i64 t204, .int .i64 t205] 27 (0, 0)) (by (with_reducible repeat (first | refine blk_drewN ?_ _ | refine blk_drew ?_ | refine blk_alloc ?_ _)); exact BK206.out) hb)
            have n3_ := Aside0.mk (below_step (by repeat (first | (with_reducible first | exact HB.out | apply below_alloc | apply pw_below_drewN | apply below_drew1 | refine below_set ?_ GE200.out | refine below_set ?_ GE206.out) | exact HB.out)) hb)
            clear HO_7
            clear BK200
            clear BK206
            clear HB
            have HO_7 := n0_
            have BK200 := n1_
            have BK206 := n2_
            have HB := n3_
            clear n0_ n1_ n2_ n3_
            (try clear hb)
            (try clear hb2)
            (try clear hk)
            (try clear hi)
            obtain ⟨Ao38, co38, eo38⟩ := Kd.R_slice HO_7.out
            (first | subst eo38 | (injection eo38 with f1_ f2_ f3_; have f4_ := f1_.symm; have f5_ := f3_.symm; clear f1_ f2_ f3_; subst f4_; subst f5_))
            refine hK.out _ _ ⟨(blk_cell BK206.out 0).trans rfl, (blk_cell BK206.out 1).trans rfl⟩ (fun hHeld => ?_)
            clear hK K
            refine norm_ (a' := ?_) ?_ ?_
            rotate_left
            · show Act.put _ (some 46) _ = _
              simp only [Act.put, List.setIfInBounds_toArray, List.set_cons_zero, List.set_cons_succ, i64_w, i32_w]
              rfl
            refine pure_ (i := 2) (N := some 47) (v := ?_) (a' := ?_) #[true, true, true, false, false, false, false, false, false] rfl rfl (any_of HT_.out (by kernel_rfl)) (fun _ _ _ h => h) (Or.inl ⟨by rfl, ?_⟩) ?_ ?_
            rotate_left
            · intro w'
              go_simp
              with_reducible rfl
            rotate_left
            · simp only [Act.put, List.setIfInBounds_toArray, List.set_cons_zero, List.set_cons_succ, i64_w, i32_w]
              rfl
            refine pure_ (i := 3) (N := some 48) (v := ?_) (a' := ?_) #[true, true, true, true, false, false, false, false, false] rfl rfl (any_of HT_.out (by kernel_rfl)) (fun _ _ _ h => h) (Or.inl ⟨by rfl, ?_⟩) ?_ ?_
            rotate_left
            · intro w'
              go_simp
              with_reducible rfl
            rotate_left
            · simp only [Act.put, List.setIfInBounds_toArray, List.set_cons_zero, List.set_cons_succ, i64_w, i32_w]
              rfl
            refine pure_ (i := 4) (N := some 49) (v := ?_) (a' := ?_) #[true, true, true, true, true, false, false, false, false] rfl rfl (any_of HT_.out (by kernel_rfl)) (fun _ _ _ h => h) (Or.inl ⟨by rfl, ?_⟩) ?_ ?_
            rotate_left
            · intro w'
              go_simp
              with_reducible rfl
            rotate_left
            · simp only [Act.put, List.setIfInBounds_toArray, List.set_cons_zero, List.set_cons_succ, i64_w, i32_w]
              rfl
            refine pure_ (i := 5) (N := some 50) (v := ?_) (a' := ?_) #[true, true, true, true, true, true, false, false, false] rfl rfl (any_of HT_.out (by kernel_rfl)) (fun _ _ _ h => h) (Or.inl ⟨by rfl, ?_⟩) ?_ ?_
            rotate_left
            · intro w'
              go_simp
              with_reducible rfl
            rotate_left
            · simp only [Act.put, List.setIfInBounds_toArray, List.set_cons_zero, List.set_cons_succ, i64_w, i32_w]
              rfl
            refine pure_ (i := 6) (N := some 51) (v := ?_) (a' := ?_) #[true, true, true, true, true, true, true, false, false] rfl rfl (any_of HT_.out (by kernel_rfl)) (fun _ _ _ h => h) (Or.inl ⟨by rfl, ?_⟩) ?_ ?_
            rotate_left
            · intro w'
              go_simp
              with_reducible rfl
            rotate_left
            · simp only [Act.put, List.setIfInBounds_toArray, List.set_cons_zero, List.set_cons_succ, i64_w, i32_w]
              rfl
            refine pure_ (i := 7) (N := some 52) (v := ?_) (a' := ?_) #[true, true, true, true, true, true, true, true, false] rfl rfl (any_of HT_.out (by kernel_rfl)) (fun _ _ _ h => h) (Or.inl ⟨by rfl, ?_⟩) ?_ ?_
            rotate_left
            · intro w'
              go_simp
              with_reducible rfl
            rotate_left
            · simp only [Act.put, List.setIfInBounds_toArray, List.set_cons_zero, List.set_cons_succ, i64_w, i32_w]
              rfl
            refine pure_ (i := 8) (N := some 4) (v := ?_) (a' := ?_) #[true, true, true, true, true, true, true, true, true] rfl rfl (any_of HT_.out (by kernel_rfl)) (fun _ _ _ h => h) (Or.inl ⟨by rfl, ?_⟩) ?_ ?_
            rotate_left
            · intro w'
              go_simp
              with_reducible rfl
            rotate_left
            · simp only [Act.put, List.setIfInBounds_toArray, List.set_cons_zero, List.set_cons_succ, i64_w, i32_w]
              rfl
            refine done_ (done_of HT_.out (by kernel_rfl)) ?_
            try go_wp2
            go_ret
            exact ⟨by first | rfl | (simp [errW_none, errW_some] <;> rfl) | (simp [*, errW_none, errW_some] <;> rfl), by repeat (first | (with_reducible first | exact HB.out | apply below_alloc | apply pw_below_drewN | apply below_drew1 | refine below_set ?_ GE200.out | refine below_set ?_ GE206.out) | exact HB.out)⟩
          · rw [if_neg c35] at H
            have c35b0 : (t204 == t213 && (t205 == t214)) = false := by simpa using c35
            (try (have c35b1 : decide (t204 = t213 && (t205 == t214)) = false := by simpa using c35))
            (try (have c35b2 : (t204 == t213 && (t205 == t214)) = false := by simpa using c35))
            (try (have c35b3 : ¬ (t204 = t213 && (t205 == t214)) := by simpa using c35))
            clear c35
            exact absurd ((Option.some.inj H).trans HT.out) (by decide)
        · rw [if_neg c33] at H
          have c33b0 : decide (100000 < (l1.length : Int)) = false := decide_eq_false c33
          have c33b1 : decide (100000 < l1.length) = false := decide_eq_false (by omega)
          clear c33
          by_cases c39 : t204 = 0
          · rw [if_pos c39] at H
            have c39b0 : (t204 == 0) = true := beq_iff_eq.mpr c39
            have c39b1 : (t204 != 0) = false := bne_eq_false_iff_eq.mpr c39
            clear c39
            replace H := Option.bind_eq_some_iff.mp H
            obtain ⟨t215, A400, H⟩ := H
            replace H : ((linkhouseref1_Bytes.f t201 t215).bind fun t218 => (some t218)) = some r := H
            have A40 := Aside0.mk A400
            clear A400
            replace H := Option.bind_eq_some_iff.mp H
            obtain ⟨t218, A410, H⟩ := H
            replace H : (some t218) = some r := H
            have A41 := Aside0.mk A410
            clear A410
            obtain rfl := Option.some.inj H
            have hnb42 := NB206_200.out
            have hnc42 := NB200_206.out
            have hcz43_0 : wc.cell? ⟨gb206, 0, none⟩ = some (.int .i64 t204) := (blk_cell BK206.out 0).trans rfl
            have hcz43_1 : wc.cell? ⟨gb206, 1, none⟩ = some (.int .i64 t205) := (blk_cell BK206.out 1).trans rfl
            have hfz43_0 := blk_frozen BK206.out 0
            have hfz43_1 := blk_frozen BK206.out 1
            go_wp2_with (first | (go_at_call 26; (with_reducible refine (linkhouseref1_TextsCode.calls kj6 _ _ l1 t215 _ ?side1 ?side2 A40.out).mono ?_); (case side1 => repeat (first | exact (Kd.C_below HR1.out HB.out) | (with_reducible refine Kd.C_alloc ?_ _) | (with_reducible refine Kd.C_drewN ?_ _) | (with_reducible refine Kd.C_drew ?_))); (case side2 => exact HC1.out); rintro e w44 ⟨v216, rfl, ho0, hb⟩; have n0_ := Aside0.mk (Kd.R_elder' (by (with_reducible repeat (first | apply Kd.R_alloc | apply Kd.R_drewN | apply Kd.R_drew)); exact HO_7.out) (Kd.R_base ho0) hb); have n1_ := Aside0.mk (Kd.R_lower (Kd.R_new' ho0 (Kd.R_lt (by (with_reducible repeat (first | apply Kd.R_alloc | apply Kd.R_drewN | apply Kd.R_drew)); exact HO_7.out))) (below_size (by repeat (first | (with_reducible first | exact HB.out | apply below_alloc | apply pw_below_drewN | apply below_drew1 | refine below_set ?_ GE200.out | refine below_set ?_ GE206.out) | exact HB.out)))); have n2_ := Aside0.mk (blk_below (g := gb200) (o := .cells #[.int .i64 t198, .int .i64 t199] 27 (0, 0)) (by (with_reducible repeat (first | refine blk_drewN ?_ _ | refine blk_drew ?_ | refine blk_alloc ?_ _)); exact BK200.out) hb); have n3_ := Aside0.mk (blk_below (g := gb206) (o := .cells #[.int .i64 t204, .int .i64 t205] 27 (0, 0)) (by (with_reducible repeat (first | refine blk_drewN ?_ _ | refine blk_drew ?_ | refine blk_alloc ?_ _)); exact BK206.out) hb); have n4_ := Aside0.mk (below_step (by repeat (first | (with_reducible first | exact HB.out | apply below_alloc | apply pw_below_drewN | apply below_drew1 | refine below_set ?_ GE200.out | refine below_set ?_ GE206.out) | exact HB.out)) hb); clear HO_7; clear BK200; clear BK206; clear HB; have HO_7 := n0_; have HO217 := n1_; have BK200 := n2_; have BK206 := n3_; have HB := n4_; clear n0_ n1_ n2_ n3_ n4_; (try clear hb); (try clear hb2); (try clear hk); (try clear hi); (try clear ho0); obtain ⟨Ao45, co45, eo45⟩ := Kd.R_slice HO_7.out; subst eo45; obtain ⟨Ao46, co46, eo46⟩ := Kd.R_slice HO217.out; subst eo46) | (go_at_call 24; (with_reducible refine (linkhouseref1_Bytes.calls _ _ t201 _ _ t215 t218 _ ?side1 ?side2 ?side3 ?side4 A41.out).mono ?_); (case side1 => repeat (first | exact (Kd.R_reads' HO_7.out).2.2 | (with_reducible refine Kd.C_alloc ?_ _) | (with_reducible refine Kd.C_drewN ?_ _) | (with_reducible refine Kd.C_drew ?_))); (case side2 => exact (Kd.R_reads' HO_7.out).2.1); (case side3 => repeat (first | exact (Kd.R_reads' HO217.out).2.2 | (with_reducible refine Kd.C_alloc ?_ _) | (with_reducible refine Kd.C_drewN ?_ _) | (with_reducible refine Kd.C_drew ?_))); (case side4 => exact (Kd.R_reads' HO217.out).2.1); rintro e w' ⟨rfl, ⟨nd, rfl⟩⟩))
            go_ret
            exact ⟨by first | rfl | (simp [errW_none, errW_some] <;> rfl) | (simp [*, errW_none, errW_some] <;> rfl), by repeat (first | (with_reducible first | exact HB.out | apply below_alloc | apply pw_below_drewN | apply below_drew1 | refine below_set ?_ GE200.out | refine below_set ?_ GE206.out) | exact HB.out)⟩
          · rw [if_neg c39] at H
            have c39b0 : (t204 == 0) = false := beq_eq_false_iff_ne.mpr c39
            have c39b1 : (t204 != 0) = true := bne_iff_ne.mpr c39
            exact absurd ((Option.some.inj H).trans HT.out) (by decide)
  · replace c4 := Bool.eq_false_iff.mpr c4
    subst c4
    have H1 : (some false) = some r := by rw [if_neg (show ¬ (false = true) by decide)] at H; exact H
    clear H
    have H := H1
    clear H1
    exact absurd ((Option.some.inj H).trans HT.out) (by decide)

end Go.Proofs.Ytipjpdiianopcaa.B
