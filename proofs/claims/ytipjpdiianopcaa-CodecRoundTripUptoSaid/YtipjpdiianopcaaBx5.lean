/- Functions of the program as plain Lean functions, each with a proof that the call of the Go function answers as it does. -/
import Derived.Test.YtipjpdiianopcaaBx0
import Derived.Test.YtipjpdiianopcaaBx2
import Derived.Test.YtipjpdiianopcaaAx0
import Derived.Test.YtipjpdiianopcaaAx2
import Derived.Test.YtipjpdiianopcaaCg
import Derived.Test.YtipjpdiianopcaaCw
namespace Go.Proofs.Ytipjpdiianopcaa.B
open Go.RowKit Go.Proofs.YtipjpdiianopcaaW.PrintWords Go.Proofs.YtipjpdiianopcaaW.PrintLast Go.Proofs.YtipjpdiianopcaaW.PrintMore Go.Proofs.Ytipjpdiianopcaa.A Go.Proofs.Ytipjpdiianopcaa.Cw Go.Proofs.Ytipjpdiianopcaa.Cr
attribute [local go_sem] max2_int min2_int max_two min_two max_three min_three max_four min_four   -- for this text's walks alone
set_option linter.unusedVariables false
set_option linter.unusedSimpArgs false

/-! ### linkhouselaw1_CodecRoundTrip: function 5 -/
def linkhouselaw1_CodecRoundTrip.j0 : Nat → List Int → List ByteArray → List Int → List Int → Bool → Int → Int → Int → Int → Option (Bool)
  | 0, _, _, _, _, _, _, _, _, _ => none
  | k + 1, x0, x1, x5, x7, x42, x257000, x257001, x263000, x263001 => if x42 = true then (some true) else ((codec_Get.f x5).bind fun bt263 => ((codec_GetText.f x7).bind fun bt269 => (if x257000 = 0 then (if x263000 = 0 then (if bt263.2.1 = 0 then (if bt269.2.1 = 0 then ((linkhouseref1_Ints.f k bt263.1 x0).bind fun t275 => (if t275 = true then ((linkhouseref1_Strings.f k bt269.1 x1).bind fun t276 => (some t276)) else (some false))) else (some false)) else (some false)) else (some false)) else (some false))))
def linkhouselaw1_CodecRoundTrip.f (k : Nat) (l0 : List Int) (l1 : List ByteArray) : Option (Bool) := (linkhouselaw1_codecExample.f k).bind fun t250 => (if t250 = true then ((codec_Put.f l0).bind fun bt251 => ((codec_PutText.f l1).bind fun bt257 => (if (l0.length : Int) > 100000 then (linkhouselaw1_CodecRoundTrip.j0 k l0 l1 bt251.1 bt257.1 true bt251.2.1 bt251.2.2 bt257.2.1 bt257.2.2) else (if (l1.length : Int) > 100000 then (linkhouselaw1_CodecRoundTrip.j0 k l0 l1 bt251.1 bt257.1 true bt251.2.1 bt251.2.2 bt257.2.1 bt257.2.2) else (if (bt251.1.length : Int) > 200000 then (linkhouselaw1_CodecRoundTrip.j0 k l0 l1 bt251.1 bt257.1 true bt251.2.1 bt251.2.2 bt257.2.1 bt257.2.2) else (linkhouselaw1_CodecRoundTrip.j0 k l0 l1 bt251.1 bt257.1 (decide ((bt257.1.length : Int) > 200000)) bt251.2.1 bt251.2.2 bt257.2.1 bt257.2.2)))))) else (some false))
theorem linkhouselaw1_CodecRoundTrip.mono_l : ∀ k, (∀ y0 y1 y2 y3 y4 y5 y6 y7 y8, LeO (linkhouselaw1_CodecRoundTrip.j0 k y0 y1 y2 y3 y4 y5 y6 y7 y8) (linkhouselaw1_CodecRoundTrip.j0 (k + 1) y0 y1 y2 y3 y4 y5 y6 y7 y8))
  | 0 => fun _ _ _ _ _ _ _ _ _ r h => by simp [linkhouselaw1_CodecRoundTrip.j0] at h
  | k + 1 => by
    have ih0 := linkhouselaw1_CodecRoundTrip.mono_l k
    · intro y0 y1 y2 y3 y4 y5 y6 y7 y8
      unfold linkhouselaw1_CodecRoundTrip.j0
      repeat' first
      | (with_reducible exact ih0 _ _ _ _ _ _ _ _ _)
      | (with_reducible exact linkhouselaw1_codecExample.mono _)
      | (with_reducible exact linkhouseref1_Ints.mono _ _ _)
      | (with_reducible exact linkhouseref1_Strings.mono _ _ _)
      | (with_reducible exact LeO.refl _)
      | (with_reducible exact LeO.none _)
      | (with_reducible refine LeO.ite ?_ ?_)
      | (with_reducible refine LeO.bind ?_ (fun _ => ?_))
      | exact ih0 _ _ _ _ _ _ _ _ _
      | exact linkhouselaw1_codecExample.mono _
      | exact linkhouseref1_Ints.mono _ _ _
      | exact linkhouseref1_Strings.mono _ _ _
      | exact LeO.none _
      | refine LeO.ite ?_ ?_
      | refine LeO.bind ?_ (fun _ => ?_)
theorem linkhouselaw1_CodecRoundTrip.mono : ∀ a0 a1 k, LeO (linkhouselaw1_CodecRoundTrip.f k a0 a1) (linkhouselaw1_CodecRoundTrip.f (k + 1) a0 a1) := by
  intro a0 a1 k
  have ih0 := linkhouselaw1_CodecRoundTrip.mono_l k
  unfold linkhouselaw1_CodecRoundTrip.f
  repeat' first
      | (with_reducible exact ih0 _ _ _ _ _ _ _ _ _)
      | (with_reducible exact linkhouselaw1_codecExample.mono _)
      | (with_reducible exact linkhouseref1_Ints.mono _ _ _)
      | (with_reducible exact linkhouseref1_Strings.mono _ _ _)
      | (with_reducible exact LeO.refl _)
      | (with_reducible exact LeO.none _)
      | (with_reducible refine LeO.ite ?_ ?_)
      | (with_reducible refine LeO.bind ?_ (fun _ => ?_))
      | exact ih0 _ _ _ _ _ _ _ _ _
      | exact linkhouselaw1_codecExample.mono _
      | exact linkhouseref1_Ints.mono _ _ _
      | exact linkhouseref1_Strings.mono _ _ _
      | exact LeO.none _
      | refine LeO.ite ?_ ?_
      | refine LeO.bind ?_ (fun _ => ?_)
set_option maxHeartbeats 8000000 in
set_option maxRecDepth 100000 in
theorem linkhouselaw1_CodecRoundTrip.calls (k : Nat) (A0 : Option Addr) (c0 : Nat) (l0 : List Int) (A1 : Option Addr) (c1 : Nat) (l1 : List ByteArray) (r : Bool) (w : World) (hr0 : Kd.C (Kd.int .i64) w A0 l0.length l0) (hc0 : l0.length ≤ c0) (hr1 : Kd.C Kd.string w A1 l1.length l1) (hc1 : l1.length ≤ c1) (hT : r = true) (h : linkhouselaw1_CodecRoundTrip.f k l0 l1 = some r) :
    Calls Try.prog 5 #[.slice A0 l0.length c0, .slice A1 l1.length c1] w fun e w' => e = .returned (.bool r) ∧ Below w.heap.size w w' := by
  have hu27 := Try.underlying27
  have HT := Aside0.mk hT
  clear hT
  have HR0 := Aside0.mk hr0
  have HC0 := Aside0.mk hc0
  clear hr0 hc0
  have HR1 := Aside0.mk hr1
  have HC1 := Aside0.mk hc1
  clear hr1 hc1
  have HB := Aside0.mk (Below.refl w.heap.size w)
  have H : ((linkhouselaw1_codecExample.f k).bind fun t250 => (if t250 = true then ((codec_Put.f l0).bind fun bt251 => ((codec_PutText.f l1).bind fun bt257 => (if (l0.length : Int) > 100000 then (linkhouselaw1_CodecRoundTrip.j0 k l0 l1 bt251.1 bt257.1 true bt251.2.1 bt251.2.2 bt257.2.1 bt257.2.2) else (if (l1.length : Int) > 100000 then (linkhouselaw1_CodecRoundTrip.j0 k l0 l1 bt251.1 bt257.1 true bt251.2.1 bt251.2.2 bt257.2.1 bt257.2.2) else (if (bt251.1.length : Int) > 200000 then (linkhouselaw1_CodecRoundTrip.j0 k l0 l1 bt251.1 bt257.1 true bt251.2.1 bt251.2.2 bt257.2.1 bt257.2.2) else (linkhouselaw1_CodecRoundTrip.j0 k l0 l1 bt251.1 bt257.1 (decide ((bt257.1.length : Int) > 200000)) bt251.2.1 bt251.2.2 bt257.2.1 bt257.2.2)))))) else (some false))) = some r := h
  clear h
  replace H := Option.bind_eq_some_iff.mp H
  obtain ⟨t250, A30, H⟩ := H
  replace H : (if t250 = true then ((codec_Put.f l0).bind fun bt251 => ((codec_PutText.f l1).bind fun bt257 => (if (l0.length : Int) > 100000 then (linkhouselaw1_CodecRoundTrip.j0 k l0 l1 bt251.1 bt257.1 true bt251.2.1 bt251.2.2 bt257.2.1 bt257.2.2) else (if (l1.length : Int) > 100000 then (linkhouselaw1_CodecRoundTrip.j0 k l0 l1 bt251.1 bt257.1 true bt251.2.1 bt251.2.2 bt257.2.1 bt257.2.2) else (if (bt251.1.length : Int) > 200000 then (linkhouselaw1_CodecRoundTrip.j0 k l0 l1 bt251.1 bt257.1 true bt251.2.1 bt251.2.2 bt257.2.1 bt257.2.2) else (linkhouselaw1_CodecRoundTrip.j0 k l0 l1 bt251.1 bt257.1 (decide ((bt257.1.length : Int) > 200000)) bt251.2.1 bt251.2.2 bt257.2.1 bt257.2.2)))))) else (some false)) = some r := H
  have A3 := Aside0.mk A30
  clear A30
  by_cases c4 : t250 = true
  · subst c4
    have H1 : ((codec_Put.f l0).bind fun bt251 => ((codec_PutText.f l1).bind fun bt257 => (if (l0.length : Int) > 100000 then (linkhouselaw1_CodecRoundTrip.j0 k l0 l1 bt251.1 bt257.1 true bt251.2.1 bt251.2.2 bt257.2.1 bt257.2.2) else (if (l1.length : Int) > 100000 then (linkhouselaw1_CodecRoundTrip.j0 k l0 l1 bt251.1 bt257.1 true bt251.2.1 bt251.2.2 bt257.2.1 bt257.2.2) else (if (bt251.1.length : Int) > 200000 then (linkhouselaw1_CodecRoundTrip.j0 k l0 l1 bt251.1 bt257.1 true bt251.2.1 bt251.2.2 bt257.2.1 bt257.2.2) else (linkhouselaw1_CodecRoundTrip.j0 k l0 l1 bt251.1 bt257.1 (decide ((bt257.1.length : Int) > 200000)) bt251.2.1 bt251.2.2 bt257.2.1 bt257.2.2)))))) = some r := by rw [if_pos rfl] at H; exact H
    clear H
    have H := H1
    clear H1
    replace H := Option.bind_eq_some_iff.mp H
    obtain ⟨⟨t251, t254, t255⟩, A50, H⟩ := H
    replace H : ((codec_PutText.f l1).bind fun bt257 => (if (l0.length : Int) > 100000 then (linkhouselaw1_CodecRoundTrip.j0 k l0 l1 t251 bt257.1 true t254 t255 bt257.2.1 bt257.2.2) else (if (l1.length : Int) > 100000 then (linkhouselaw1_CodecRoundTrip.j0 k l0 l1 t251 bt257.1 true t254 t255 bt257.2.1 bt257.2.2) else (if (t251.length : Int) > 200000 then (linkhouselaw1_CodecRoundTrip.j0 k l0 l1 t251 bt257.1 true t254 t255 bt257.2.1 bt257.2.2) else (linkhouselaw1_CodecRoundTrip.j0 k l0 l1 t251 bt257.1 (decide ((bt257.1.length : Int) > 200000)) t254 t255 bt257.2.1 bt257.2.2))))) = some r := H
    have A5 := Aside0.mk A50
    clear A50
    replace H := Option.bind_eq_some_iff.mp H
    obtain ⟨⟨t257, t260, t261⟩, A60, H⟩ := H
    replace H : (if (l0.length : Int) > 100000 then (linkhouselaw1_CodecRoundTrip.j0 k l0 l1 t251 t257 true t254 t255 t260 t261) else (if (l1.length : Int) > 100000 then (linkhouselaw1_CodecRoundTrip.j0 k l0 l1 t251 t257 true t254 t255 t260 t261) else (if (t251.length : Int) > 200000 then (linkhouselaw1_CodecRoundTrip.j0 k l0 l1 t251 t257 true t254 t255 t260 t261) else (linkhouselaw1_CodecRoundTrip.j0 k l0 l1 t251 t257 (decide ((t257.length : Int) > 200000)) t254 t255 t260 t261)))) = some r := H
    have A6 := Aside0.mk A60
    clear A60
    have HC7 := Aside0.mk H
    clear H
    go_enter Try.func5, Try.ntmps5
    go_upto_region 5 with (first | ((with_reducible refine gate_callee (f := 20) rfl ?_); refine goesL_ (some 13) rfl rfl Try.func20 (by kernel_rfl) rfl #[] rfl (by (try simp only [List.map_toArray, List.map_cons, List.map_nil]); first | done | rfl | (simp only [List.length_drop, List.length_take]; rfl)) ?_; (with_reducible refine (linkhouselaw1_codecExample.calls k  true _ rfl A3.out).mono ?_); rintro e w8 ⟨rfl, hb⟩; refine ⟨_, rfl, ?_⟩; have n0_ := Aside0.mk (below_step (by repeat (first | (with_reducible first | exact HB.out | apply below_alloc | apply pw_below_drewN | apply below_drew1) | exact HB.out)) hb); clear HB; have HB := n0_; clear n0_; (try clear hb); (try clear hb2); (try clear hk); (try clear hi)) | ((with_reducible refine gate_callee (f := 21) rfl ?_); refine goesL_ (some 17) rfl rfl Try.func21 (by kernel_rfl) rfl #[.slice A0 l0.length c0] rfl (by (try simp only [List.map_toArray, List.map_cons, List.map_nil]); first | done | rfl | (simp only [List.length_drop, List.length_take]; rfl)) ?_; (with_reducible refine (codec_Put.calls _ _ l0 t251 t254 t255 _ ?side1 ?side2 A5.out).mono ?_); (case side1 => repeat (first | exact (Kd.C_below HR0.out HB.out) | (with_reducible refine Kd.C_alloc ?_ _) | (with_reducible refine Kd.C_drewN ?_ _) | (with_reducible refine Kd.C_drew ?_))); (case side2 => exact HC0.out); rintro e w9 ⟨v252, rfl, ho0, hb⟩; refine ⟨_, rfl, ?_⟩; have n0_ := Aside0.mk (Kd.R_lower ho0 (below_size (by repeat (first | (with_reducible first | exact HB.out | apply below_alloc | apply pw_below_drewN | apply below_drew1) | exact HB.out)))); have n1_ := Aside0.mk (below_step (by repeat (first | (with_reducible first | exact HB.out | apply below_alloc | apply pw_below_drewN | apply below_drew1) | exact HB.out)) hb); clear HB; have HO253 := n0_; have HB := n1_; clear n0_ n1_; (try clear hb); (try clear hb2); (try clear hk); (try clear hi); (try clear ho0)) | ((with_reducible refine gate_dst (N := 6) rfl ?_); (try (refine gate_guard (by rfl) ?_; dsimp only)); refine box_event ?hg (N := 6) ?hd (cs := #[.int .i64 0, .int .i64 0]) (t := 27) ?hr ?_; (case hd => rfl); (case hg => rfl); (case hr => first | (go_simp; done) | (go_simp; rfl)); intro gb256 hg w10 hbox hb; have n0_ := Aside0.mk (Kd.R_below (by (with_reducible repeat (first | apply Kd.R_alloc | apply Kd.R_drewN | apply Kd.R_drew)); exact HO253.out) hb); have n1_ := Aside0.mk (below_step (by repeat (first | (with_reducible first | exact HB.out | apply below_alloc | apply pw_below_drewN | apply below_drew1) | exact HB.out)) hb); have n2_ := Aside0.mk (hbox); have n3_ := Aside0.mk ((by rw [hg]; exact (below_size (by repeat (first | (with_reducible first | exact HB.out | apply below_alloc | apply pw_below_drewN | apply below_drew1) | exact HB.out))) : w.heap.size ≤ gb256)); have n4_ := Aside0.mk ((by rw [hg]; exact (below_size (by repeat (first | (with_reducible first | exact HB.out | apply below_alloc | apply pw_below_drewN | apply below_drew1) | exact HB.out))) : w.heap.size ≤ gb256)); clear HO253; clear HB; have HO253 := n0_; have HB := n1_; have BK256 := n2_; have GW256 := n3_; have GE256 := n4_; clear n0_ n1_ n2_ n3_ n4_; clear hb hbox hg; have hcz11_0 : w10.cell? ⟨gb256, 0, none⟩ = some (.int .i64 0) := (blk_cell BK256.out 0).trans rfl; have hcz11_1 : w10.cell? ⟨gb256, 1, none⟩ = some (.int .i64 0) := (blk_cell BK256.out 1).trans rfl; have hfz11_0 := blk_frozen BK256.out 0; have hfz11_1 := blk_frozen BK256.out 1) | ((with_reducible refine gate_callee (f := 22) rfl ?_); refine goesL_ (some 22) rfl rfl Try.func22 (by kernel_rfl) rfl #[.slice A1 l1.length c1] rfl (by (try simp only [List.map_toArray, List.map_cons, List.map_nil]); first | done | rfl | (simp only [List.length_drop, List.length_take]; rfl)) ?_; (with_reducible refine (codec_PutText.calls _ _ l1 t257 t260 t261 _ ?side1 ?side2 A6.out).mono ?_); (case side1 => exact Kd.C_below HR1.out (by repeat (first | (with_reducible first | exact HB.out | apply below_alloc | apply pw_below_drewN | apply below_drew1 | refine below_set ?_ GE256.out) | exact HB.out))); (case side2 => exact HC1.out); rintro e w12 ⟨v258, rfl, ho0, hb⟩; refine ⟨_, rfl, ?_⟩; have n0_ := Aside0.mk (Kd.R_elder' (by (with_reducible repeat (first | apply Kd.R_alloc | apply Kd.R_drewN | apply Kd.R_drew)); exact (Kd.R_mono (Kd.R_far (p := ⟨gb256, 1, none⟩) (Kd.R_far (p := ⟨gb256, 0, none⟩) (Kd.R_types HO253.out BK256.out (by decide)) (fun _ hk => hk.2) (.int .i64 t254)) (fun _ hk => hk.2) (.int .i64 t255)) (fun _ h_ => h_.1))) (Kd.R_base ho0) hb); have n1_ := Aside0.mk (Kd.R_lower (Kd.R_new' ho0 (Kd.R_lt (by (with_reducible repeat (first | apply Kd.R_alloc | apply Kd.R_drewN | apply Kd.R_drew)); exact (Kd.R_mono (Kd.R_far (p := ⟨gb256, 1, none⟩) (Kd.R_far (p := ⟨gb256, 0, none⟩) (Kd.R_types HO253.out BK256.out (by decide)) (fun _ hk => hk.2) (.int .i64 t254)) (fun _ hk => hk.2) (.int .i64 t255)) (fun _ h_ => h_.1))))) (below_size (by repeat (first | (with_reducible first | exact HB.out | apply below_alloc | apply pw_below_drewN | apply below_drew1 | refine below_set ?_ GE256.out) | exact HB.out)))); have n2_ := Aside0.mk (blk_below (g := gb256) (o := .cells #[.int .i64 t254, .int .i64 t255] 27 (0, 0)) (by (with_reducible repeat (first | refine blk_drewN ?_ _ | refine blk_drew ?_ | refine blk_alloc ?_ _)); refine blk_put (cs := #[.int .i64 t254, .int .i64 0]) ?_ 1 _ rfl; (with_reducible repeat (first | refine blk_drewN ?_ _ | refine blk_drew ?_ | refine blk_alloc ?_ _)); refine blk_put (cs := #[.int .i64 0, .int .i64 0]) ?_ 0 _ rfl; (with_reducible repeat (first | refine blk_drewN ?_ _ | refine blk_drew ?_ | refine blk_alloc ?_ _)); exact BK256.out) hb); have n3_ := Aside0.mk (below_step (by repeat (first | (with_reducible first | exact HB.out | apply below_alloc | apply pw_below_drewN | apply below_drew1 | refine below_set ?_ GE256.out) | exact HB.out)) hb); clear HO253; clear BK256; clear HB; have HO253 := n0_; have HO259 := n1_; have BK256 := n2_; have HB := n3_; clear n0_ n1_ n2_ n3_; (try clear hb); (try clear hb2); (try clear hk); (try clear hi); (try clear ho0)) | ((with_reducible refine gate_dst (N := 8) rfl ?_); (try (refine gate_guard (by rfl) ?_; dsimp only)); refine box_event ?hg (N := 8) ?hd (cs := #[.int .i64 0, .int .i64 0]) (t := 27) ?hr ?_; (case hd => rfl); (case hg => rfl); (case hr => first | (go_simp; done) | (go_simp; rfl)); intro gb262 hg w13 hbox hb; have n0_ := Aside0.mk (Kd.R_below (by (with_reducible repeat (first | apply Kd.R_alloc | apply Kd.R_drewN | apply Kd.R_drew)); exact HO253.out) hb); have n1_ := Aside0.mk (Kd.R_below (by (with_reducible repeat (first | apply Kd.R_alloc | apply Kd.R_drewN | apply Kd.R_drew)); exact HO259.out) hb); have n2_ := Aside0.mk (blk_below (g := gb256) (o := .cells #[.int .i64 t254, .int .i64 t255] 27 (0, 0)) (by (with_reducible repeat (first | refine blk_drewN ?_ _ | refine blk_drew ?_ | refine blk_alloc ?_ _)); exact BK256.out) hb); have n3_ := Aside0.mk (below_step (by repeat (first | (with_reducible first | exact HB.out | apply below_alloc | apply pw_below_drewN | apply below_drew1 | refine below_set ?_ GE256.out) | exact HB.out)) hb); have n4_ := Aside0.mk (hbox); have n5_ := Aside0.mk ((by rw [hg]; exact (below_size (by repeat (first | (with_reducible first | exact HB.out | apply below_alloc | apply pw_below_drewN | apply below_drew1 | refine below_set ?_ GE256.out) | exact HB.out))) : w.heap.size ≤ gb262)); have n6_ := Aside0.mk ((by rw [hg]; exact (below_size (by repeat (first | (with_reducible first | exact HB.out | apply below_alloc | apply pw_below_drewN | apply below_drew1 | refine below_set ?_ GE256.out) | exact HB.out))) : w.heap.size ≤ gb262)); have n7_ := Aside0.mk ((by rw [hg]; exact Nat.ne_of_lt (blk_lt (g := gb256) (o := .cells #[.int .i64 t254, .int .i64 t255] 27 (0, 0)) (by (with_reducible repeat (first | refine blk_drewN ?_ _ | refine blk_drew ?_ | refine blk_alloc ?_ _)); exact BK256.out)) : gb256 ≠ gb262)); have n8_ := Aside0.mk ((by rw [hg]; exact Nat.ne_of_gt (blk_lt (g := gb256) (o := .cells #[.int .i64 t254, .int .i64 t255] 27 (0, 0)) (by (with_reducible repeat (first | refine blk_drewN ?_ _ | refine blk_drew ?_ | refine blk_alloc ?_ _)); exact BK256.out)) : gb262 ≠ gb256)); clear HO253; clear HO259; clear BK256; clear HB; have HO253 := n0_; have HO259 := n1_; have BK256 := n2_; have HB := n3_; have BK262 := n4_; have GW262 := n5_; have GE262 := n6_; have NB256_262 := n7_; have NB262_256 := n8_; clear n0_ n1_ n2_ n3_ n4_ n5_ n6_ n7_ n8_; clear hb hbox hg; have hnb14 := NB262_256.out; have hnc14 := NB256_262.out; have hcz15_0 : w13.cell? ⟨gb262, 0, none⟩ = some (.int .i64 0) := (blk_cell BK262.out 0).trans rfl; have hcz15_1 : w13.cell? ⟨gb262, 1, none⟩ = some (.int .i64 0) := (blk_cell BK262.out 1).trans rfl; have hfz15_0 := blk_frozen BK262.out 0; have hfz15_1 := blk_frozen BK262.out 1))
    (try simp only [Act.put, List.setIfInBounds_toArray, List.set_cons_zero, List.set_cons_succ])
    go_cut [42] (fun v42 wc => ∃ (kq : Nat) (x42_6 : Bool), v42 = .bool x42_6 ∧ Aside0 (linkhouselaw1_CodecRoundTrip.j0 kq l0 l1 t251 t257 x42_6 t254 t255 t260 t261 = some r) ∧ Aside0 (kq ≤ k) ∧ Aside0 (Kd.R (Kd.int .u8) 5 wc w.heap.size (fun k_ => some k_ ≠ (v258 : Value).ownBlock) v252 t251) ∧ Aside0 (Kd.R (Kd.int .u8) 5 wc w.heap.size (fun k_ => some k_ ≠ (v252 : Value).ownBlock) v258 t257) ∧ Aside0 (wc.heap[gb256]? = some (.cells #[.int .i64 t254, .int .i64 t255] 27 (0, 0))) ∧ Aside0 (wc.heap[gb262]? = some (.cells #[.int .i64 t260, .int .i64 t261] 27 (0, 0))) ∧ Aside0 (Below w.heap.size w wc))
    case first =>
      have H := HC7.out
      clear HC7
      by_cases c16 : (l0.length : Int) > 100000
      · rw [if_pos c16] at H
        have c16b0 : decide (100000 < (l0.length : Int)) = true := decide_eq_true c16
        have c16b1 : decide (100000 < l0.length) = true := decide_eq_true (by omega)
        clear c16
        (first | rw [c16b0] | (simp only [i64_w, i32_w]; rw [c16b0]) | skip)
        have H' := Aside0.mk H
        clear H
        go_wp2
        go_meet
        case rel => exact ⟨_, (true), (by first | rfl | (simp; done) | (simp [*]; done)), H', ⟨by first | omega | exact Nat.le_refl _⟩, ⟨by (with_reducible repeat (first | apply Kd.R_alloc | apply Kd.R_drewN | apply Kd.R_drew)); exact Kd.R_mono (Kd.R_far (p := ⟨gb262, 1, none⟩) (Kd.R_far (p := ⟨gb262, 0, none⟩) (Kd.R_types HO253.out BK262.out (by decide)) (fun _ hk => hk.2) (.int .i64 t260)) (fun _ hk => hk.2) (.int .i64 t261)) (fun _ hk => hk.1.2)⟩, ⟨by (with_reducible repeat (first | apply Kd.R_alloc | apply Kd.R_drewN | apply Kd.R_drew)); exact Kd.R_mono (Kd.R_far (p := ⟨gb262, 1, none⟩) (Kd.R_far (p := ⟨gb262, 0, none⟩) (Kd.R_types HO259.out BK262.out (by decide)) (fun _ hk => hk.2) (.int .i64 t260)) (fun _ hk => hk.2) (.int .i64 t261)) (fun _ hk => hk.1.2)⟩, ⟨by (with_reducible repeat (first | refine blk_drewN ?_ _ | refine blk_drew ?_ | refine blk_alloc ?_ _)); refine blk_far ?_ NB256_262.out _; (with_reducible repeat (first | refine blk_drewN ?_ _ | refine blk_drew ?_ | refine blk_alloc ?_ _)); refine blk_far ?_ NB256_262.out _; (with_reducible repeat (first | refine blk_drewN ?_ _ | refine blk_drew ?_ | refine blk_alloc ?_ _)); exact BK256.out⟩, ⟨by (with_reducible repeat (first | refine blk_drewN ?_ _ | refine blk_drew ?_ | refine blk_alloc ?_ _)); refine blk_put (cs := #[.int .i64 t260, .int .i64 0]) ?_ 1 _ rfl; (with_reducible repeat (first | refine blk_drewN ?_ _ | refine blk_drew ?_ | refine blk_alloc ?_ _)); refine blk_put (cs := #[.int .i64 0, .int .i64 0]) ?_ 0 _ rfl; (with_reducible repeat (first | refine blk_drewN ?_ _ | refine blk_drew ?_ | refine blk_alloc ?_ _)); exact BK262.out⟩, ⟨by repeat (first | (with_reducible first | exact HB.out | apply below_alloc | apply pw_below_drewN | apply below_drew1 | refine below_set ?_ GE256.out | refine below_set ?_ GE262.out) | exact HB.out)⟩⟩
      · rw [if_neg c16] at H
        have c16b0 : decide (100000 < (l0.length : Int)) = false := decide_eq_false c16
        have c16b1 : decide (100000 < l0.length) = false := decide_eq_false (by omega)
        clear c16
        (first | rw [c16b0] | (simp only [i64_w, i32_w]; rw [c16b0]) | skip)
        by_cases c17 : (l1.length : Int) > 100000
        · rw [if_pos c17] at H
          have c17b0 : decide (100000 < (l1.length : Int)) = true := decide_eq_true c17
          have c17b1 : decide (100000 < l1.length) = true := decide_eq_true (by omega)
          clear c17
          have H' := Aside0.mk H
          clear H
          go_wp2
          go_meet
          case rel => exact ⟨_, (true), (by first | rfl | (simp; done) | (simp [*]; done)), H', ⟨by first | omega | exact Nat.le_refl _⟩, ⟨by (with_reducible repeat (first | apply Kd.R_alloc | apply Kd.R_drewN | apply Kd.R_drew)); exact Kd.R_mono (Kd.R_far (p := ⟨gb262, 1, none⟩) (Kd.R_far (p := ⟨gb262, 0, none⟩) (Kd.R_types HO253.out BK262.out (by decide)) (fun _ hk => hk.2) (.int .i64 t260)) (fun _ hk => hk.2) (.int .i64 t261)) (fun _ hk => hk.1.2)⟩, ⟨by (with_reducible repeat (first | apply Kd.R_alloc | apply Kd.R_drewN | apply Kd.R_drew)); exact Kd.R_mono (Kd.R_far (p := ⟨gb262, 1, none⟩) (Kd.R_far (p := ⟨gb262, 0, none⟩) (Kd.R_types HO259.out BK262.out (by decide)) (fun _ hk => hk.2) (.int .i64 t260)) (fun _ hk => hk.2) (.int .i64 t261)) (fun _ hk => hk.1.2)⟩, ⟨by (with_reducible repeat (first | refine blk_drewN ?_ _ | refine blk_drew ?_ | refine blk_alloc ?_ _)); refine blk_far ?_ NB256_262.out _; (with_reducible repeat (first | refine blk_drewN ?_ _ | refine blk_drew ?_ | refine blk_alloc ?_ _)); refine blk_far ?_ NB256_262.out _; (with_reducible repeat (first | refine blk_drewN ?_ _ | refine blk_drew ?_ | refine blk_alloc ?_ _)); exact BK256.out⟩, ⟨by (with_reducible repeat (first | refine blk_drewN ?_ _ | refine blk_drew ?_ | refine blk_alloc ?_ _)); refine blk_put (cs := #[.int .i64 t260, .int .i64 0]) ?_ 1 _ rfl; (with_reducible repeat (first | refine blk_drewN ?_ _ | refine blk_drew ?_ | refine blk_alloc ?_ _)); refine blk_put (cs := #[.int .i64 0, .int .i64 0]) ?_ 0 _ rfl; (with_reducible repeat (first | refine blk_drewN ?_ _ | refine blk_drew ?_ | refine blk_alloc ?_ _)); exact BK262.out⟩, ⟨by repeat (first | (with_reducible first | exact HB.out | apply below_alloc | apply pw_below_drewN | apply below_drew1 | refine below_set ?_ GE256.out | refine below_set ?_ GE262.out) | exact HB.out)⟩⟩
        · rw [if_neg c17] at H
          have c17b0 : decide (100000 < (l1.length : Int)) = false := decide_eq_false c17
          have c17b1 : decide (100000 < l1.length) = false := decide_eq_false (by omega)
          clear c17
          by_cases c18 : (t251.length : Int) > 200000
          · rw [if_pos c18] at H
            have c18b0 : decide (200000 < (t251.length : Int)) = true := decide_eq_true c18
            have c18b1 : decide (200000 < t251.length) = true := decide_eq_true (by omega)
            clear c18
            have H' := Aside0.mk H
            clear H
            obtain ⟨Ao19, co19, eo19⟩ := Kd.R_slice HO253.out
            subst eo19
            go_wp2
            go_meet
            case rel => exact ⟨_, (true), (by first | rfl | (simp; done) | (simp [*]; done)), H', ⟨by first | omega | exact Nat.le_refl _⟩, ⟨by (with_reducible repeat (first | apply Kd.R_alloc | apply Kd.R_drewN | apply Kd.R_drew)); exact Kd.R_mono (Kd.R_far (p := ⟨gb262, 1, none⟩) (Kd.R_far (p := ⟨gb262, 0, none⟩) (Kd.R_types HO253.out BK262.out (by decide)) (fun _ hk => hk.2) (.int .i64 t260)) (fun _ hk => hk.2) (.int .i64 t261)) (fun _ hk => hk.1.2)⟩, ⟨by (with_reducible repeat (first | apply Kd.R_alloc | apply Kd.R_drewN | apply Kd.R_drew)); exact Kd.R_mono (Kd.R_far (p := ⟨gb262, 1, none⟩) (Kd.R_far (p := ⟨gb262, 0, none⟩) (Kd.R_types HO259.out BK262.out (by decide)) (fun _ hk => hk.2) (.int .i64 t260)) (fun _ hk => hk.2) (.int .i64 t261)) (fun _ hk => hk.1.2)⟩, ⟨by (with_reducible repeat (first | refine blk_drewN ?_ _ | refine blk_drew ?_ | refine blk_alloc ?_ _)); refine blk_far ?_ NB256_262.out _; (with_reducible repeat (first | refine blk_drewN ?_ _ | refine blk_drew ?_ | refine blk_alloc ?_ _)); refine blk_far ?_ NB256_262.out _; (with_reducible repeat (first | refine blk_drewN ?_ _ | refine blk_drew ?_ | refine blk_alloc ?_ _)); exact BK256.out⟩, ⟨by (with_reducible repeat (first | refine blk_drewN ?_ _ | refine blk_drew ?_ | refine blk_alloc ?_ _)); refine blk_put (cs := #[.int .i64 t260, .int .i64 0]) ?_ 1 _ rfl; (with_reducible repeat (first | refine blk_drewN ?_ _ | refine blk_drew ?_ | refine blk_alloc ?_ _)); refine blk_put (cs := #[.int .i64 0, .int .i64 0]) ?_ 0 _ rfl; (with_reducible repeat (first | refine blk_drewN ?_ _ | refine blk_drew ?_ | refine blk_alloc ?_ _)); exact BK262.out⟩, ⟨by repeat (first | (with_reducible first | exact HB.out | apply below_alloc | apply pw_below_drewN | apply below_drew1 | refine below_set ?_ GE256.out | refine below_set ?_ GE262.out) | exact HB.out)⟩⟩
          · rw [if_neg c18] at H
            have c18b0 : decide (200000 < (t251.length : Int)) = false := decide_eq_false c18
            have c18b1 : decide (200000 < t251.length) = false := decide_eq_false (by omega)
            clear c18
            have H' := Aside0.mk H
            clear H
            obtain ⟨Ao20, co20, eo20⟩ := Kd.R_slice HO253.out
            subst eo20
            obtain ⟨Ao21, co21, eo21⟩ := Kd.R_slice HO259.out
            subst eo21
            go_wp2
            go_meet
            case rel => exact ⟨_, (decide ((t257.length : Int) > 200000)), (by first | rfl | (simp; done) | (simp [*]; done)), H', ⟨by first | omega | exact Nat.le_refl _⟩, ⟨by (with_reducible repeat (first | apply Kd.R_alloc | apply Kd.R_drewN | apply Kd.R_drew)); exact Kd.R_mono (Kd.R_far (p := ⟨gb262, 1, none⟩) (Kd.R_far (p := ⟨gb262, 0, none⟩) (Kd.R_types HO253.out BK262.out (by decide)) (fun _ hk => hk.2) (.int .i64 t260)) (fun _ hk => hk.2) (.int .i64 t261)) (fun _ hk => hk.1.2)⟩, ⟨by (with_reducible repeat (first | apply Kd.R_alloc | apply Kd.R_drewN | apply Kd.R_drew)); exact Kd.R_mono (Kd.R_far (p := ⟨gb262, 1, none⟩) (Kd.R_far (p := ⟨gb262, 0, none⟩) (Kd.R_types HO259.out BK262.out (by decide)) (fun _ hk => hk.2) (.int .i64 t260)) (fun _ hk => hk.2) (.int .i64 t261)) (fun _ hk => hk.1.2)⟩, ⟨by (with_reducible repeat (first | refine blk_drewN ?_ _ | refine blk_drew ?_ | refine blk_alloc ?_ _)); refine blk_far ?_ NB256_262.out _; (with_reducible repeat (first | refine blk_drewN ?_ _ | refine blk_drew ?_ | refine blk_alloc ?_ _)); refine blk_far ?_ NB256_262.out _; (with_reducible repeat (first | refine blk_drewN ?_ _ | refine blk_drew ?_ | refine blk_alloc ?_ _)); exact BK256.out⟩, ⟨by (with_reducible repeat (first | refine blk_drewN ?_ _ | refine blk_drew ?_ | refine blk_alloc ?_ _)); refine blk_put (cs := #[.int .i64 t260, .int .i64 0]) ?_ 1 _ rfl; (with_reducible repeat (first | refine blk_drewN ?_ _ | refine blk_drew ?_ | refine blk_alloc ?_ _)); refine blk_put (cs := #[.int .i64 0, .int .i64 0]) ?_ 0 _ rfl; (with_reducible repeat (first | refine blk_drewN ?_ _ | refine blk_drew ?_ | refine blk_alloc ?_ _)); exact BK262.out⟩, ⟨by repeat (first | (with_reducible first | exact HB.out | apply below_alloc | apply pw_below_drewN | apply below_drew1 | refine below_set ?_ GE256.out | refine below_set ?_ GE262.out) | exact HB.out)⟩⟩
    case rest =>
      clear HC7
      try clear c1
      try clear c2
      try clear p2
      try clear c4
      try clear c5
      try clear c14
      try clear c16
      try clear c16b0
      try clear c16b1
      try clear c17
      try clear c17b0
      try clear c17b1
      try clear c18
      try clear c18b0
      try clear c18b1
      try clear c20
      try clear c21
      try clear hcz11_0
      try clear hcz11_1
      try clear hcz15_0
      try clear hcz15_1
      try clear hfz11_0
      try clear hfz11_1
      try clear hfz15_0
      try clear hfz15_1
      obtain ⟨kq, x42_6, rfl, HA, HJ6, HO_5, HO_7, BK256, BK262, HB⟩ := hcut
      cases kq with
      | zero => exact absurd HA.out (by simp [linkhouselaw1_CodecRoundTrip.j0])
      | succ kj6 =>
        have H := HA.out
        clear HA
        simp only [linkhouselaw1_CodecRoundTrip.j0] at H
        by_cases c22 : x42_6 = true
        · subst c22
          have H1 : (some true) = some r := by rw [if_pos rfl] at H; exact H
          clear H
          have H := H1
          clear H1
          obtain rfl := Option.some.inj H
          go_wp2
          go_ret
          exact ⟨by first | rfl | (simp [errW_none, errW_some] <;> rfl) | (simp [*, errW_none, errW_some] <;> rfl), by repeat (first | (with_reducible first | exact HB.out | apply below_alloc | apply pw_below_drewN | apply below_drew1 | refine below_set ?_ GE256.out | refine below_set ?_ GE262.out) | exact HB.out)⟩
        · replace c22 := Bool.eq_false_iff.mpr c22
          subst c22
          have H1 : ((codec_Get.f t251).bind fun bt263 => ((codec_GetText.f t257).bind fun bt269 => (if t254 = 0 then (if t260 = 0 then (if bt263.2.1 = 0 then (if bt269.2.1 = 0 then ((linkhouseref1_Ints.f kj6 bt263.1 l0).bind fun t275 => (if t275 = true then ((linkhouseref1_Strings.f kj6 bt269.1 l1).bind fun t276 => (some t276)) else (some false))) else (some false)) else (some false)) else (some false)) else (some false)))) = some r := by rw [if_neg (show ¬ (false = true) by decide)] at H; exact H
          clear H
          have H := H1
          clear H1
          replace H := Option.bind_eq_some_iff.mp H
          obtain ⟨⟨t263, t266, t267⟩, A230, H⟩ := H
          replace H : ((codec_GetText.f t257).bind fun bt269 => (if t254 = 0 then (if t260 = 0 then (if t266 = 0 then (if bt269.2.1 = 0 then ((linkhouseref1_Ints.f kj6 t263 l0).bind fun t275 => (if t275 = true then ((linkhouseref1_Strings.f kj6 bt269.1 l1).bind fun t276 => (some t276)) else (some false))) else (some false)) else (some false)) else (some false)) else (some false))) = some r := H
          have A23 := Aside0.mk A230
          clear A230
          replace H := Option.bind_eq_some_iff.mp H
          obtain ⟨⟨t269, t272, t273⟩, A240, H⟩ := H
          replace H : (if t254 = 0 then (if t260 = 0 then (if t266 = 0 then (if t272 = 0 then ((linkhouseref1_Ints.f kj6 t263 l0).bind fun t275 => (if t275 = true then ((linkhouseref1_Strings.f kj6 t269 l1).bind fun t276 => (some t276)) else (some false))) else (some false)) else (some false)) else (some false)) else (some false)) = some r := H
          have A24 := Aside0.mk A240
          clear A240
          by_cases c25 : t254 = 0
          · rw [if_pos c25] at H
            have c25b0 : (t254 == 0) = true := beq_iff_eq.mpr c25
            have c25b1 : (t254 != 0) = false := bne_eq_false_iff_eq.mpr c25
            clear c25
            by_cases c26 : t260 = 0
            · rw [if_pos c26] at H
              have c26b0 : (t260 == 0) = true := beq_iff_eq.mpr c26
              have c26b1 : (t260 != 0) = false := bne_eq_false_iff_eq.mpr c26
              clear c26
              by_cases c27 : t266 = 0
              · rw [if_pos c27] at H
                have c27b0 : (t266 == 0) = true := beq_iff_eq.mpr c27
                have c27b1 : (t266 != 0) = false := bne_eq_false_iff_eq.mpr c27
                clear c27
                by_cases c28 : t272 = 0
                · rw [if_pos c28] at H
                  have c28b0 : (t272 == 0) = true := beq_iff_eq.mpr c28
                  have c28b1 : (t272 != 0) = false := bne_eq_false_iff_eq.mpr c28
                  clear c28
                  replace H := Option.bind_eq_some_iff.mp H
                  obtain ⟨t275, A290, H⟩ := H
                  replace H : (if t275 = true then ((linkhouseref1_Strings.f kj6 t269 l1).bind fun t276 => (some t276)) else (some false)) = some r := H
                  have A29 := Aside0.mk A290
                  clear A290
                  by_cases c30 : t275 = true
                  · subst c30
                    have H1 : ((linkhouseref1_Strings.f kj6 t269 l1).bind fun t276 => (some t276)) = some r := by rw [if_pos rfl] at H; exact H
                    clear H
                    have H := H1
                    clear H1
                    replace H := Option.bind_eq_some_iff.mp H
                    obtain ⟨t276, A310, H⟩ := H
                    replace H : (some t276) = some r := H
                    have A31 := Aside0.mk A310
                    clear A310
                    obtain rfl := Option.some.inj H
                    obtain ⟨Ao32, co32, eo32⟩ := Kd.R_slice HO_5.out
                    subst eo32
                    go_wp2_with (first | ((with_reducible refine gate_callee (f := 27) rfl ?_); refine goesL_ (some 45) rfl rfl Try.func27 (by kernel_rfl) rfl #[.slice Ao32 t251.length co32] rfl (by (try simp only [List.map_toArray, List.map_cons, List.map_nil]); first | done | rfl | (simp only [List.length_drop, List.length_take]; rfl)) ?_; (with_reducible refine (codec_Get.calls _ _ t251 t263 t266 t267 _ ?side1 ?side2 A23.out).mono ?_); (case side1 => repeat (first | exact (Kd.R_reads' HO_5.out).2.2 | (with_reducible refine Kd.C_alloc ?_ _) | (with_reducible refine Kd.C_drewN ?_ _) | (with_reducible refine Kd.C_drew ?_))); (case side2 => exact (Kd.R_reads' HO_5.out).2.1); rintro e w33 ⟨v264, rfl, ho0, hb⟩; refine ⟨_, rfl, ?_⟩; have n0_ := Aside0.mk (Kd.R_below (by (with_reducible repeat (first | apply Kd.R_alloc | apply Kd.R_drewN | apply Kd.R_drew)); exact HO_5.out) hb); have n1_ := Aside0.mk (Kd.R_below (by (with_reducible repeat (first | apply Kd.R_alloc | apply Kd.R_drewN | apply Kd.R_drew)); exact HO_7.out) hb); have n2_ := Aside0.mk (Kd.R_lower ho0 (below_size (by repeat (first | (with_reducible first | exact HB.out | apply below_alloc | apply pw_below_drewN | apply below_drew1 | refine below_set ?_ GE256.out | refine below_set ?_ GE262.out) | exact HB.out)))); have n3_ := Aside0.mk (blk_below (g := gb256) (o := .cells #[.int .i64 t254, .int .i64 t255] 27 (0, 0)) (by (with_reducible repeat (first | refine blk_drewN ?_ _ | refine blk_drew ?_ | refine blk_alloc ?_ _)); exact BK256.out) hb); have n4_ := Aside0.mk (blk_below (g := gb262) (o := .cells #[.int .i64 t260, .int .i64 t261] 27 (0, 0)) (by (with_reducible repeat (first | refine blk_drewN ?_ _ | refine blk_drew ?_ | refine blk_alloc ?_ _)); exact BK262.out) hb); have n5_ := Aside0.mk (below_step (by repeat (first | (with_reducible first | exact HB.out | apply below_alloc | apply pw_below_drewN | apply below_drew1 | refine below_set ?_ GE256.out | refine below_set ?_ GE262.out) | exact HB.out)) hb); clear HO_5; clear HO_7; clear BK256; clear BK262; clear HB; have HO_5 := n0_; have HO_7 := n1_; have HO265 := n2_; have BK256 := n3_; have BK262 := n4_; have HB := n5_; clear n0_ n1_ n2_ n3_ n4_ n5_; (try clear hb); (try clear hb2); (try clear hk); (try clear hi); (try clear ho0)) | ((with_reducible refine gate_dst (N := 10) rfl ?_); (try (refine gate_guard (by rfl) ?_; dsimp only)); refine box_event ?hg (N := 10) ?hd (cs := #[.int .i64 0, .int .i64 0]) (t := 27) ?hr ?_; (case hd => rfl); (case hg => rfl); (case hr => first | (go_simp; done) | (go_simp; rfl)); intro gb268 hg w34 hbox hb; have n0_ := Aside0.mk (Kd.R_below (by (with_reducible repeat (first | apply Kd.R_alloc | apply Kd.R_drewN | apply Kd.R_drew)); exact HO_5.out) hb); have n1_ := Aside0.mk (Kd.R_below (by (with_reducible repeat (first | apply Kd.R_alloc | apply Kd.R_drewN | apply Kd.R_drew)); exact HO_7.out) hb); have n2_ := Aside0.mk (Kd.R_below (by (with_reducible repeat (first | apply Kd.R_alloc | apply Kd.R_drewN | apply Kd.R_drew)); exact HO265.out) hb); have n3_ := Aside0.mk (blk_below (g := gb256) (o := .cells #[.int .i64 t254, .int .i64 t255] 27 (0, 0)) (by (with_reducible repeat (first | refine blk_drewN ?_ _ | refine blk_drew ?_ | refine blk_alloc ?_ _)); exact BK256.out) hb); have n4_ := Aside0.mk (blk_below (g := gb262) (o := .cells #[.int .i64 t260, .int .i64 t261] 27 (0, 0)) (by (with_reducible repeat (first | refine blk_drewN ?_ _ | refine blk_drew ?_ | refine blk_alloc ?_ _)); exact BK262.out) hb); have n5_ := Aside0.mk (below_step (by repeat (first | (with_reducible first | exact HB.out | apply below_alloc | apply pw_below_drewN | apply below_drew1 | refine below_set ?_ GE256.out | refine below_set ?_ GE262.out) | exact HB.out)) hb); have n6_ := Aside0.mk (hbox); have n7_ := Aside0.mk ((by rw [hg]; exact (below_size (by repeat (first | (with_reducible first | exact HB.out | apply below_alloc | apply pw_below_drewN | apply below_drew1 | refine below_set ?_ GE256.out | refine below_set ?_ GE262.out) | exact HB.out))) : w.heap.size ≤ gb268)); have n8_ := Aside0.mk ((by rw [hg]; exact (below_size (by repeat (first | (with_reducible first | exact HB.out | apply below_alloc | apply pw_below_drewN | apply below_drew1 | refine below_set ?_ GE256.out | refine below_set ?_ GE262.out) | exact HB.out))) : w.heap.size ≤ gb268)); have n9_ := Aside0.mk ((by rw [hg]; exact Nat.ne_of_lt (blk_lt (g := gb256) (o := .cells #[.int .i64 t254, .int .i64 t255] 27 (0, 0)) (by (with_reducible repeat (first | refine blk_drewN ?_ _ | refine blk_drew ?_ | refine blk_alloc ?_ _)); exact BK256.out)) : gb256 ≠ gb268)); have n10_ := Aside0.mk ((by rw [hg]; exact Nat.ne_of_gt (blk_lt (g := gb256) (o := .cells #[.int .i64 t254, .int .i64 t255] 27 (0, 0)) (by (with_reducible repeat (first | refine blk_drewN ?_ _ | refine blk_drew ?_ | refine blk_alloc ?_ _)); exact BK256.out)) : gb268 ≠ gb256)); have n11_ := Aside0.mk ((by rw [hg]; exact Nat.ne_of_lt (blk_lt (g := gb262) (o := .cells #[.int .i64 t260, .int .i64 t261] 27 (0, 0)) (by (with_reducible repeat (first | refine blk_drewN ?_ _ | refine blk_drew ?_ | refine blk_alloc ?_ _)); exact BK262.out)) : gb262 ≠ gb268)); have n12_ := Aside0.mk ((by rw [hg]; exact Nat.ne_of_gt (blk_lt (g := gb262) (o := .cells #[.int .i64 t260, .int .i64 t261] 27 (0, 0)) (by (with_reducible repeat (first | refine blk_drewN ?_ _ | refine blk_drew ?_ | refine blk_alloc ?_ _)); exact BK262.out)) : gb268 ≠ gb262)); clear HO_5; clear HO_7; clear HO265; clear BK256; clear BK262; clear HB; have HO_5 := n0_; have HO_7 := n1_; have HO265 := n2_; have BK256 := n3_; have BK262 := n4_; have HB := n5_; have BK268 := n6_; have GW268 := n7_; have GE268 := n8_; have NB256_268 := n9_; have NB268_256 := n10_; have NB262_268 := n11_; have NB268_262 := n12_; clear n0_ n1_ n2_ n3_ n4_ n5_ n6_ n7_ n8_ n9_ n10_ n11_ n12_; clear hb hbox hg; have hnb35 := NB268_256.out; have hnc35 := NB256_268.out; have hnb36 := NB268_262.out; have hnc36 := NB262_268.out; have hcz37_0 : w34.cell? ⟨gb268, 0, none⟩ = some (.int .i64 0) := (blk_cell BK268.out 0).trans rfl; have hcz37_1 : w34.cell? ⟨gb268, 1, none⟩ = some (.int .i64 0) := (blk_cell BK268.out 1).trans rfl; have hfz37_0 := blk_frozen BK268.out 0; have hfz37_1 := blk_frozen BK268.out 1; obtain ⟨Ao38, co38, eo38⟩ := Kd.R_slice HO_7.out; subst eo38) | ((with_reducible refine gate_callee (f := 30) rfl ?_); refine goesL_ (some 50) rfl rfl Try.func30 (by kernel_rfl) rfl #[.slice Ao38 t257.length co38] rfl (by (try simp only [List.map_toArray, List.map_cons, List.map_nil]); first | done | rfl | (simp only [List.length_drop, List.length_take]; rfl)) ?_; (with_reducible refine (codec_GetText.calls _ _ t257 t269 t272 t273 _ ?side1 ?side2 A24.out).mono ?_); (case side1 => refine (Kd.R_reads' (e := 5) (base := w.heap.size) (ok := fun k_ => some k_ ≠ (.slice Ao32 t251.length co32 : Value).ownBlock) (n := t257.length) (c := co38) ?_).2.2; exact (by (with_reducible repeat (first | apply Kd.R_alloc | apply Kd.R_drewN | apply Kd.R_drew)); exact (Kd.R_mono (Kd.R_far (p := ⟨gb268, 1, none⟩) (Kd.R_far (p := ⟨gb268, 0, none⟩) (Kd.R_types HO_7.out BK268.out (by decide)) (fun _ hk => hk.2) (.int .i64 t266)) (fun _ hk => hk.2) (.int .i64 t267)) (fun _ h_ => h_.1)))); (case side2 => exact (Kd.R_reads' HO_7.out).2.1); rintro e w39 ⟨v270, rfl, ho0, hb⟩; refine ⟨_, rfl, ?_⟩; have n0_ := Aside0.mk (Kd.R_below (by (with_reducible repeat (first | apply Kd.R_alloc | apply Kd.R_drewN | apply Kd.R_drew)); exact (Kd.R_mono (Kd.R_far (p := ⟨gb268, 1, none⟩) (Kd.R_far (p := ⟨gb268, 0, none⟩) (Kd.R_types HO_5.out BK268.out (by decide)) (fun _ hk => hk.2) (.int .i64 t266)) (fun _ hk => hk.2) (.int .i64 t267)) (fun _ h_ => h_.1))) hb); have n1_ := Aside0.mk (Kd.R_below (by (with_reducible repeat (first | apply Kd.R_alloc | apply Kd.R_drewN | apply Kd.R_drew)); exact (Kd.R_mono (Kd.R_far (p := ⟨gb268, 1, none⟩) (Kd.R_far (p := ⟨gb268, 0, none⟩) (Kd.R_types HO_7.out BK268.out (by decide)) (fun _ hk => hk.2) (.int .i64 t266)) (fun _ hk => hk.2) (.int .i64 t267)) (fun _ h_ => h_.1))) hb); have n2_ := Aside0.mk (Kd.R_below (by (with_reducible repeat (first | apply Kd.R_alloc | apply Kd.R_drewN | apply Kd.R_drew)); exact (Kd.R_mono (Kd.R_far (p := ⟨gb268, 1, none⟩) (Kd.R_far (p := ⟨gb268, 0, none⟩) (Kd.R_types HO265.out BK268.out (by decide)) (fun _ hk => hk.2) (.int .i64 t266)) (fun _ hk => hk.2) (.int .i64 t267)) (fun _ h_ => h_.1))) hb); have n3_ := Aside0.mk (Kd.R_lower ho0 (below_size (by repeat (first | (with_reducible first | exact HB.out | apply below_alloc | apply pw_below_drewN | apply below_drew1 | refine below_set ?_ GE256.out | refine below_set ?_ GE262.out | refine below_set ?_ GE268.out) | exact HB.out)))); have n4_ := Aside0.mk (blk_below (g := gb256) (o := .cells #[.int .i64 t254, .int .i64 t255] 27 (0, 0)) (by (with_reducible repeat (first | refine blk_drewN ?_ _ | refine blk_drew ?_ | refine blk_alloc ?_ _)); refine blk_far ?_ NB256_268.out _; (with_reducible repeat (first | refine blk_drewN ?_ _ | refine blk_drew ?_ | refine blk_alloc ?_ _)); refine blk_far ?_ NB256_268.out _; (with_reducible repeat (first | refine blk_drewN ?_ _ | refine blk_drew ?_ | refine blk_alloc ?_ _)); exact BK256.out) hb); have n5_ := Aside0.mk (blk_below (g := gb262) (o := .cells #[.int .i64 t260, .int .i64 t261] 27 (0, 0)) (by (with_reducible repeat (first | refine blk_drewN ?_ _ | refine blk_drew ?_ | refine blk_alloc ?_ _)); refine blk_far ?_ NB262_268.out _; (with_reducible repeat (first | refine blk_drewN ?_ _ | refine blk_drew ?_ | refine blk_alloc ?_ _)); refine blk_far ?_ NB262_268.out _; (with_reducible repeat (first | refine blk_drewN ?_ _ | refine blk_drew ?_ | refine blk_alloc ?_ _)); exact BK262.out) hb); have n6_ := Aside0.mk (blk_below (g := gb268) (o := .cells #[.int .i64 t266, .int .i64 t267] 27 (0, 0)) (by (with_reducible repeat (first | refine blk_drewN ?_ _ | refine blk_drew ?_ | refine blk_alloc ?_ _)); refine blk_put (cs := #[.int .i64 t266, .int .i64 0]) ?_ 1 _ rfl; (with_reducible repeat (first | refine blk_drewN ?_ _ | refine blk_drew ?_ | refine blk_alloc ?_ _)); refine blk_put (cs := #[.int .i64 0, .int .i64 0]) ?_ 0 _ rfl; (with_reducible repeat (first | refine blk_drewN ?_ _ | refine blk_drew ?_ | refine blk_alloc ?_ _)); exact BK268.out) hb); have n7_ := Aside0.mk (below_step (by repeat (first | (with_reducible first | exact HB.out | apply below_alloc | apply pw_below_drewN | apply below_drew1 | refine below_set ?_ GE256.out | refine below_set ?_ GE262.out | refine below_set ?_ GE268.out) | exact HB.out)) hb); clear HO_5; clear HO_7; clear HO265; clear BK256; clear BK262; clear BK268; clear HB; have HO_5 := n0_; have HO_7 := n1_; have HO265 := n2_; have HO271 := n3_; have BK256 := n4_; have BK262 := n5_; have BK268 := n6_; have HB := n7_; clear n0_ n1_ n2_ n3_ n4_ n5_ n6_ n7_; (try clear hb); (try clear hb2); (try clear hk); (try clear hi); (try clear ho0)) | ((with_reducible refine gate_dst (N := 12) rfl ?_); (try (refine gate_guard (by rfl) ?_; dsimp only)); refine box_event ?hg (N := 12) ?hd (cs := #[.int .i64 0, .int .i64 0]) (t := 27) ?hr ?_; (case hd => rfl); (case hg => rfl); (case hr => first | (go_simp; done) | (go_simp; rfl)); intro gb274 hg w40 hbox hb; have n0_ := Aside0.mk (Kd.R_below (by (with_reducible repeat (first | apply Kd.R_alloc | apply Kd.R_drewN | apply Kd.R_drew)); exact HO_5.out) hb); have n1_ := Aside0.mk (Kd.R_below (by (with_reducible repeat (first | apply Kd.R_alloc | apply Kd.R_drewN | apply Kd.R_drew)); exact HO_7.out) hb); have n2_ := Aside0.mk (Kd.R_below (by (with_reducible repeat (first | apply Kd.R_alloc | apply Kd.R_drewN | apply Kd.R_drew)); exact HO265.out) hb); have n3_ := Aside0.mk (Kd.R_below (by (with_reducible repeat (first | apply Kd.R_alloc | apply Kd.R_drewN | apply Kd.R_drew)); exact HO271.out) hb); have n4_ := Aside0.mk (blk_below (g := gb256) (o := .cells #[.int .i64 t254, .int .i64 t255] 27 (0, 0)) (by (with_reducible repeat (first | refine blk_drewN ?_ _ | refine blk_drew ?_ | refine blk_alloc ?_ _)); exact BK256.out) hb); have n5_ := Aside0.mk (blk_below (g := gb262) (o := .cells #[.int .i64 t260, .int .i64 t261] 27 (0, 0)) (by (with_reducible repeat (first | refine blk_drewN ?_ _ | refine blk_drew ?_ | refine blk_alloc ?_ _)); exact BK262.out) hb); have n6_ := Aside0.mk (blk_below (g := gb268) (o := .cells #[.int .i64 t266, .int .i64 t267] 27 (0, 0)) (by (with_reducible repeat (first | refine blk_drewN ?_ _ | refine blk_drew ?_ | refine blk_alloc ?_ _)); exact BK268.out) hb); have n7_ := Aside0.mk (below_step (by repeat (first | (with_reducible first | exact HB.out | apply below_alloc | apply pw_below_drewN | apply below_drew1 | refine below_set ?_ GE256.out | refine below_set ?_ GE262.out | refine below_set ?_ GE268.out) | exact HB.out)) hb); have n8_ := Aside0.mk (hbox); have n9_ := Aside0.mk ((by rw [hg]; exact (below_size (by repeat (first | (with_reducible first | exact HB.out | apply below_alloc | apply pw_below_drewN | apply below_drew1 | refine below_set ?_ GE256.out | refine below_set ?_ GE262.out | refine below_set ?_ GE268.out) | exact HB.out))) : w.heap.size ≤ gb274)); have n10_ := Aside0.mk ((by rw [hg]; exact (below_size (by repeat (first | (with_reducible first | exact HB.out | apply below_alloc | apply pw_below_drewN | apply below_drew1 | refine below_set ?_ GE256.out | refine below_set ?_ GE262.out | refine below_set ?_ GE268.out) | exact HB.out))) : w.heap.size ≤ gb274)); have n11_ := Aside0.mk ((by rw [hg]; exact Nat.ne_of_lt (blk_lt (g := gb256) (o := .cells #[.int .i64 t254, .int .i64 t255] 27 (0, 0)) (by (with_reducible repeat (first | refine blk_drewN ?_ _ | refine blk_drew ?_ | refine blk_alloc ?_ _)); exact BK256.out)) : gb256 ≠ gb274)); have n12_ := Aside0.mk ((by rw [hg]; exact Nat.ne_of_gt (blk_lt (g := gb256) (o := .cells #[.int .i64 t254, .int .i64 t255] 27 (0, 0)) (by (with_reducible repeat (first | refine blk_drewN ?_ _ | refine blk_drew ?_ | refine blk_alloc ?_ _)); exact BK256.out)) : gb274 ≠ gb256)); have n13_ := Aside0.mk ((by rw [hg]; exact Nat.ne_of_lt (blk_lt (g := gb262) (o := .cells #[.int .i64 t260, .int .i64 t261] 27 (0, 0)) (by (with_reducible repeat (first | refine blk_drewN ?_ _ | refine blk_drew ?_ | refine blk_alloc ?_ _)); exact BK262.out)) : gb262 ≠ gb274)); have n14_ := Aside0.mk ((by rw [hg]; exact Nat.ne_of_gt (blk_lt (g := gb262) (o := .cells #[.int .i64 t260, .int .i64 t261] 27 (0, 0)) (by (with_reducible repeat (first | refine blk_drewN ?_ _ | refine blk_drew ?_ | refine blk_alloc ?_ _)); exact BK262.out)) : gb274 ≠ gb262)); have n15_ := Aside0.mk ((by rw [hg]; exact Nat.ne_of_lt (blk_lt (g := gb268) (o := .cells #[.int .i64 t266, .int .i64 t267] 27 (0, 0)) (by (with_reducible repeat (first | refine blk_drewN ?_ _ | refine blk_drew ?_ | refine blk_alloc ?_ _)); exact BK268.out)) : gb268 ≠ gb274)); have n16_ := Aside0.mk ((by rw [hg]; exact Nat.ne_of_gt (blk_lt (g := gb268) (o := .cells #[.int .i64 t266, .int .i64 t267] 27 (0, 0)) (by (with_reducible repeat (first | refine blk_drewN ?_ _ | refine blk_drew ?_ | refine blk_alloc ?_ _)); exact BK268.out)) : gb274 ≠ gb268)); clear HO_5; clear HO_7; clear HO265; clear HO271; clear BK256; clear BK262; clear BK268; clear HB; have HO_5 := n0_; have HO_7 := n1_; have HO265 := n2_; have HO271 := n3_; have BK256 := n4_; have BK262 := n5_; have BK268 := n6_; have HB := n7_; have BK274 := n8_; have GW274 := n9_; have GE274 := n10_; have NB256_274 := n11_; have NB274_256 := n12_; have NB262_274 := n13_; have NB274_262 := n14_; have NB268_274 := n15_; have NB274_268 := n16_; clear n0_ n1_ n2_ n3_ n4_ n5_ n6_ n7_ n8_ n9_ n10_ n11_ n12_ n13_ n14_ n15_ n16_; clear hb hbox hg; have hnb41 := NB274_256.out; have hnc41 := NB256_274.out; have hnb42 := NB274_262.out; have hnc42 := NB262_274.out; have hnb43 := NB274_268.out; have hnc43 := NB268_274.out; have hcz44_0 : w40.cell? ⟨gb274, 0, none⟩ = some (.int .i64 0) := (blk_cell BK274.out 0).trans rfl; have hcz44_1 : w40.cell? ⟨gb274, 1, none⟩ = some (.int .i64 0) := (blk_cell BK274.out 1).trans rfl; have hfz44_0 := blk_frozen BK274.out 0; have hfz44_1 := blk_frozen BK274.out 1; have hnb45 := NB256_262.out; have hnc45 := NB262_256.out; have hcz46_0 : w40.cell? ⟨gb256, 0, none⟩ = some (.int .i64 t254) := (blk_cell BK256.out 0).trans rfl; have hcz46_1 : w40.cell? ⟨gb256, 1, none⟩ = some (.int .i64 t255) := (blk_cell BK256.out 1).trans rfl; have hfz46_0 := blk_frozen BK256.out 0; have hfz46_1 := blk_frozen BK256.out 1; have hcz47_0 : w40.cell? ⟨gb262, 0, none⟩ = some (.int .i64 t260) := (blk_cell BK262.out 0).trans rfl; have hcz47_1 : w40.cell? ⟨gb262, 1, none⟩ = some (.int .i64 t261) := (blk_cell BK262.out 1).trans rfl; have hfz47_0 := blk_frozen BK262.out 0; have hfz47_1 := blk_frozen BK262.out 1; have hcz48_0 : w40.cell? ⟨gb268, 0, none⟩ = some (.int .i64 t266) := (blk_cell BK268.out 0).trans rfl; have hcz48_1 : w40.cell? ⟨gb268, 1, none⟩ = some (.int .i64 t267) := (blk_cell BK268.out 1).trans rfl; have hfz48_0 := blk_frozen BK268.out 0; have hfz48_1 := blk_frozen BK268.out 1; obtain ⟨Ao49, co49, eo49⟩ := Kd.R_slice HO265.out; subst eo49) | (go_at_call 29; (with_reducible refine (linkhouseref1_Ints.calls kj6 _ _ t263 _ _ l0 true _ ?side1 ?side2 ?side3 ?side4 A29.out).mono ?_); (case side1 => refine (Kd.R_reads' (e := 3) (base := w.heap.size) (ok := fun k_ => True) (n := t263.length) (c := co49) ?_).2.2; exact (by (with_reducible repeat (first | apply Kd.R_alloc | apply Kd.R_drewN | apply Kd.R_drew)); exact (Kd.R_mono (Kd.R_far (p := ⟨gb274, 1, none⟩) (Kd.R_far (p := ⟨gb274, 0, none⟩) (Kd.R_types HO265.out BK274.out (by decide)) (fun _ hk => hk.2) (.int .i64 t272)) (fun _ hk => hk.2) (.int .i64 t273)) (fun _ h_ => h_.1)))); (case side2 => exact (Kd.R_reads' HO265.out).2.1); (case side3 => exact Kd.C_below HR0.out (by repeat (first | (with_reducible first | exact HB.out | apply below_alloc | apply pw_below_drewN | apply below_drew1 | refine below_set ?_ GE256.out | refine below_set ?_ GE262.out | refine below_set ?_ GE268.out | refine below_set ?_ GE274.out) | exact HB.out))); (case side4 => exact HC0.out); rintro e w' ⟨rfl, ⟨nd, rfl⟩⟩; obtain ⟨Ao50, co50, eo50⟩ := Kd.R_slice HO271.out; subst eo50) | (go_at_call 31; (with_reducible refine (linkhouseref1_Strings.calls kj6 _ _ t269 _ _ l1 t276 _ ?side1 ?side2 ?side3 ?side4 A31.out).mono ?_); (case side1 => refine (Kd.R_reads' (e := 9) (base := w.heap.size) (ok := fun k_ => True) (n := t269.length) (c := co50) ?_).2.2; exact (by (with_reducible repeat (first | apply Kd.R_alloc | apply Kd.R_drewN | apply Kd.R_drew)); exact (Kd.R_mono (Kd.R_far (p := ⟨gb274, 1, none⟩) (Kd.R_far (p := ⟨gb274, 0, none⟩) (Kd.R_types HO271.out BK274.out (by decide)) (fun _ hk => hk.2) (.int .i64 t272)) (fun _ hk => hk.2) (.int .i64 t273)) (fun _ h_ => h_.1)))); (case side2 => exact (Kd.R_reads' HO271.out).2.1); (case side3 => exact Kd.C_below HR1.out (by repeat (first | (with_reducible first | exact HB.out | apply below_alloc | apply pw_below_drewN | apply below_drew1 | refine below_set ?_ GE256.out | refine below_set ?_ GE262.out | refine below_set ?_ GE268.out | refine below_set ?_ GE274.out) | exact HB.out))); (case side4 => exact HC1.out); rintro e w' ⟨rfl, ⟨nd, rfl⟩⟩))
                    go_ret
                    exact ⟨by first | rfl | (simp [errW_none, errW_some] <;> rfl) | (simp [*, errW_none, errW_some] <;> rfl), by repeat (first | (with_reducible first | exact HB.out | apply below_alloc | apply pw_below_drewN | apply below_drew1 | refine below_set ?_ GE256.out | refine below_set ?_ GE262.out | refine below_set ?_ GE268.out | refine below_set ?_ GE274.out) | exact HB.out)⟩
                  · replace c30 := Bool.eq_false_iff.mpr c30
                    subst c30
                    have H1 : (some false) = some r := by rw [if_neg (show ¬ (false = true) by decide)] at H; exact H
                    clear H
                    have H := H1
                    clear H1
                    exact absurd ((Option.some.inj H).trans HT.out) (by decide)
                · rw [if_neg c28] at H
                  have c28b0 : (t272 == 0) = false := beq_eq_false_iff_ne.mpr c28
                  have c28b1 : (t272 != 0) = true := bne_iff_ne.mpr c28
                  exact absurd ((Option.some.inj H).trans HT.out) (by decide)
              · rw [if_neg c27] at H
                have c27b0 : (t266 == 0) = false := beq_eq_false_iff_ne.mpr c27
                have c27b1 : (t266 != 0) = true := bne_iff_ne.mpr c27
                exact absurd ((Option.some.inj H).trans HT.out) (by decide)
            · rw [if_neg c26] at H
              have c26b0 : (t260 == 0) = false := beq_eq_false_iff_ne.mpr c26
              have c26b1 : (t260 != 0) = true := bne_iff_ne.mpr c26
              exact absurd ((Option.some.inj H).trans HT.out) (by decide)
          · rw [if_neg c25] at H
            have c25b0 : (t254 == 0) = false := beq_eq_false_iff_ne.mpr c25
            have c25b1 : (t254 != 0) = true := bne_iff_ne.mpr c25
            exact absurd ((Option.some.inj H).trans HT.out) (by decide)
  · replace c4 := Bool.eq_false_iff.mpr c4
    subst c4
    have H1 : (some false) = some r := by rw [if_neg (show ¬ (false = true) by decide)] at H; exact H
    clear H
    have H := H1
    clear H1
    exact absurd ((Option.some.inj H).trans HT.out) (by decide)

end Go.Proofs.Ytipjpdiianopcaa.B
