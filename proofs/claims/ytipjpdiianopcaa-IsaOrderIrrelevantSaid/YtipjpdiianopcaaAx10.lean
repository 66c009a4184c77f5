/- Functions of the program as plain Lean functions, each with a proof that the call of the Go function answers as it does. -/
import Derived.Test.YtipjpdiianopcaaAx0
namespace Go.Proofs.Ytipjpdiianopcaa.A
open Go.RowKit Go.Proofs.YtipjpdiianopcaaW.PrintWords Go.Proofs.YtipjpdiianopcaaW.PrintLast Go.Proofs.YtipjpdiianopcaaW.PrintMore
attribute [local go_sem] max2_int min2_int max_two min_two max_three min_three max_four min_four   -- for this text's walks alone
set_option linter.unusedVariables false
set_option linter.unusedSimpArgs false

/-! ### linkhouseref1_FormSize: function 38 -/
mutual
def linkhouseref1_FormSize.l0 : Nat → Int → Int → Int → ByteArray → Int → List Int → Option (Int)
  | 0, _, _, _, _, _, _ => none
  | k + 1, x3, x4, x5, x225000, x225001, x225002 => if x5 < (x225002.length : Int) then (if 0 ≤ x5 then (if (rd x225002 x5) = 1 then (linkhouseref1_FormSize.j1 k x3 x4 x5 (rd x225002 x5) ((rd x225002 x5) == 1) x225000 x225001 x225002) else (linkhouseref1_FormSize.j1 k x3 x4 x5 (rd x225002 x5) ((rd x225002 x5) == 2) x225000 x225001 x225002)) else (none)) else (some (wrap64 ((wrap64 (x4 + (wrap64 (Int.tdiv x3 2)))) + (Int.tmod x3 2))))
def linkhouseref1_FormSize.j1 : Nat → Int → Int → Int → Int → Bool → ByteArray → Int → List Int → Option (Int)
  | 0, _, _, _, _, _, _, _, _ => none
  | k + 1, x3, x4, x5, x17, x18, x225000, x225001, x225002 => if x18 = true then (linkhouseref1_FormSize.l0 k (wrap64 (x3 + 1)) x4 (wrap64 (x5 + 1)) x225000 x225001 x225002) else (if x17 = 3 then (linkhouseref1_FormSize.j2 k x3 x4 x5 x17 (x17 == 3) x225000 x225001 x225002) else (linkhouseref1_FormSize.j2 k x3 x4 x5 x17 (x17 == 5) x225000 x225001 x225002))
def linkhouseref1_FormSize.j2 : Nat → Int → Int → Int → Int → Bool → ByteArray → Int → List Int → Option (Int)
  | 0, _, _, _, _, _, _, _, _ => none
  | k + 1, x3, x4, x5, x17, x23, x225000, x225001, x225002 => if x23 = true then (linkhouseref1_FormSize.l0 k x3 (wrap64 (x4 + 1)) (wrap64 (x5 + 1)) x225000 x225001 x225002) else (if x17 = 6 then (linkhouseref1_FormSize.l0 k x3 (wrap64 (x4 + 2)) (wrap64 (x5 + 1)) x225000 x225001 x225002) else (if x17 = 4 then (linkhouseref1_FormSize.l0 k x3 (wrap64 (x4 + 4)) (wrap64 (x5 + 1)) x225000 x225001 x225002) else (linkhouseref1_FormSize.l0 k x3 x4 (wrap64 (x5 + 1)) x225000 x225001 x225002)))
end
def linkhouseref1_FormSize.f (k : Nat) (a0_0 : ByteArray) (a0_1 : Int) (l0_2 : List Int) : Option (Int) := linkhouseref1_FormSize.l0 k 0 1 0 a0_0 a0_1 l0_2
theorem linkhouseref1_FormSize.mono_l : ∀ k, (∀ y0 y1 y2 y3 y4 y5, LeO (linkhouseref1_FormSize.l0 k y0 y1 y2 y3 y4 y5) (linkhouseref1_FormSize.l0 (k + 1) y0 y1 y2 y3 y4 y5)) ∧ (∀ y0 y1 y2 y3 y4 y5 y6 y7, LeO (linkhouseref1_FormSize.j1 k y0 y1 y2 y3 y4 y5 y6 y7) (linkhouseref1_FormSize.j1 (k + 1) y0 y1 y2 y3 y4 y5 y6 y7)) ∧ (∀ y0 y1 y2 y3 y4 y5 y6 y7, LeO (linkhouseref1_FormSize.j2 k y0 y1 y2 y3 y4 y5 y6 y7) (linkhouseref1_FormSize.j2 (k + 1) y0 y1 y2 y3 y4 y5 y6 y7))
  | 0 => ⟨fun _ _ _ _ _ _ r h => by simp [linkhouseref1_FormSize.l0] at h, fun _ _ _ _ _ _ _ _ r h => by simp [linkhouseref1_FormSize.j1] at h, fun _ _ _ _ _ _ _ _ r h => by simp [linkhouseref1_FormSize.j2] at h⟩
  | k + 1 => by
    obtain ⟨ih0, ih1, ih2⟩ := linkhouseref1_FormSize.mono_l k
    refine ⟨?_, ?_, ?_⟩
    · intro y0 y1 y2 y3 y4 y5
      unfold linkhouseref1_FormSize.l0
      repeat' first
      | (with_reducible exact ih0 _ _ _ _ _ _)
      | (with_reducible exact ih1 _ _ _ _ _ _ _ _)
      | (with_reducible exact ih2 _ _ _ _ _ _ _ _)
      | (with_reducible exact LeO.refl _)
      | (with_reducible exact LeO.none _)
      | (with_reducible refine LeO.ite ?_ ?_)
      | (with_reducible refine LeO.bind ?_ (fun _ => ?_))
      | exact ih0 _ _ _ _ _ _
      | exact ih1 _ _ _ _ _ _ _ _
      | exact ih2 _ _ _ _ _ _ _ _
      | exact LeO.none _
      | refine LeO.ite ?_ ?_
      | refine LeO.bind ?_ (fun _ => ?_)
    · intro y0 y1 y2 y3 y4 y5 y6 y7
      unfold linkhouseref1_FormSize.j1
      repeat' first
      | (with_reducible exact ih0 _ _ _ _ _ _)
      | (with_reducible exact ih1 _ _ _ _ _ _ _ _)
      | (with_reducible exact ih2 _ _ _ _ _ _ _ _)
      | (with_reducible exact LeO.refl _)
      | (with_reducible exact LeO.none _)
      | (with_reducible refine LeO.ite ?_ ?_)
      | (with_reducible refine LeO.bind ?_ (fun _ => ?_))
      | exact ih0 _ _ _ _ _ _
      | exact ih1 _ _ _ _ _ _ _ _
      | exact ih2 _ _ _ _ _ _ _ _
      | exact LeO.none _
      | refine LeO.ite ?_ ?_
      | refine LeO.bind ?_ (fun _ => ?_)
    · intro y0 y1 y2 y3 y4 y5 y6 y7
      unfold linkhouseref1_FormSize.j2
      repeat' first
      | (with_reducible exact ih0 _ _ _ _ _ _)
      | (with_reducible exact ih1 _ _ _ _ _ _ _ _)
      | (with_reducible exact ih2 _ _ _ _ _ _ _ _)
      | (with_reducible exact LeO.refl _)
      | (with_reducible exact LeO.none _)
      | (with_reducible refine LeO.ite ?_ ?_)
      | (with_reducible refine LeO.bind ?_ (fun _ => ?_))
      | exact ih0 _ _ _ _ _ _
      | exact ih1 _ _ _ _ _ _ _ _
      | exact ih2 _ _ _ _ _ _ _ _
      | exact LeO.none _
      | refine LeO.ite ?_ ?_
      | refine LeO.bind ?_ (fun _ => ?_)
theorem linkhouseref1_FormSize.mono : ∀ a0 a1 a2 k, LeO (linkhouseref1_FormSize.f k a0 a1 a2) (linkhouseref1_FormSize.f (k + 1) a0 a1 a2) := by
  intro a0 a1 a2 k
  obtain ⟨ih0, ih1, ih2⟩ := linkhouseref1_FormSize.mono_l k
  unfold linkhouseref1_FormSize.f
  repeat' first
      | (with_reducible exact ih0 _ _ _ _ _ _)
      | (with_reducible exact ih1 _ _ _ _ _ _ _ _)
      | (with_reducible exact ih2 _ _ _ _ _ _ _ _)
      | (with_reducible exact LeO.refl _)
      | (with_reducible exact LeO.none _)
      | (with_reducible refine LeO.ite ?_ ?_)
      | (with_reducible refine LeO.bind ?_ (fun _ => ?_))
      | exact ih0 _ _ _ _ _ _
      | exact ih1 _ _ _ _ _ _ _ _
      | exact ih2 _ _ _ _ _ _ _ _
      | exact LeO.none _
      | refine LeO.ite ?_ ?_
      | refine LeO.bind ?_ (fun _ => ?_)
set_option maxHeartbeats 8000000 in
set_option maxRecDepth 100000 in
theorem linkhouseref1_FormSize.calls (k : Nat) (a0_0 : ByteArray) (a0_1 : Int) (A0_2 : Option Addr) (c0_2 : Nat) (l0_2 : List Int) (r : Int) (w : World) (hr0_2 : Kd.C (Kd.int .i64) w A0_2 l0_2.length l0_2) (hc0_2 : l0_2.length ≤ c0_2) (h : linkhouseref1_FormSize.f k a0_0 a0_1 l0_2 = some r) :
    Calls Try.prog 38 #[.agg #[.string a0_0, .int .i64 a0_1, .slice A0_2 l0_2.length c0_2]] w fun e w' => e = .returned (.int .i64 r) ∧ Below w.heap.size w w' := by
  have hu54 := Try.underlying54
  have HR0_2 := Aside0.mk hr0_2
  have HC0_2 := Aside0.mk hc0_2
  clear hr0_2 hc0_2
  have HB := Aside0.mk (Below.refl w.heap.size w)
  have H : (linkhouseref1_FormSize.l0 k 0 1 0 a0_0 a0_1 l0_2) = some r := h
  clear h
  have H' := Aside0.mk H
  clear H
  go_enter Try.func38, Try.ntmps38
  go_wp2_with (first | ((with_reducible refine gate_dst (N := 1) rfl ?_); refine box_event ?hg (N := 1) ?hd (cs := #[.string a0_0, .int .i64 a0_1, .slice A0_2 l0_2.length c0_2]) (t := 54) ?hr ?_; (case hd => rfl); (case hg => rfl); (case hr => first | (go_simp; done) | (go_simp; rfl)); intro gb224 hg w2 hbox hb; have n0_ := Aside0.mk (below_step (by repeat (first | (with_reducible first | exact HB.out | apply below_alloc | apply pw_below_drewN | apply below_drew1) | exact HB.out)) hb); have n1_ := Aside0.mk (hbox); have n2_ := Aside0.mk ((by rw [hg]; exact (below_size (by repeat (first | (with_reducible first | exact HB.out | apply below_alloc | apply pw_below_drewN | apply below_drew1) | exact HB.out))) : w.heap.size ≤ gb224)); have n3_ := Aside0.mk ((by rw [hg]; exact (below_size (by repeat (first | (with_reducible first | exact HB.out | apply below_alloc | apply pw_below_drewN | apply below_drew1) | exact HB.out))) : w.heap.size ≤ gb224)); clear HB; have HB := n0_; have BK224 := n1_; have GW224 := n2_; have GE224 := n3_; clear n0_ n1_ n2_ n3_; clear hb hbox hg))
  go_loopg [3, 4, 5] k (fun kq v3 v4 v5 w' => ∃ (x3_1 : Int) (x4_1 : Int) (x5_1 : Int), v3 = .int .i64 x3_1 ∧ v4 = .int .i64 x4_1 ∧ v5 = .int .i64 x5_1 ∧ Aside0 (linkhouseref1_FormSize.l0 kq x3_1 x4_1 x5_1 a0_0 a0_1 l0_2 = some r) ∧ Aside0 (kq ≤ k) ∧ Aside0 (w'.heap[gb224]? = some (.cells #[.string a0_0, .int .i64 a0_1, (.slice A0_2 l0_2.length c0_2)] 54 (0, 0))) ∧ Aside0 (Below w.heap.size w w'))
  case atStart => exact ⟨(0), (1), (0), (by first | rfl | (simp; done) | (simp [*]; done)), (by first | rfl | (simp; done) | (simp [*]; done)), (by first | rfl | (simp; done) | (simp [*]; done)), H', ⟨Nat.le_refl _⟩, ⟨by (with_reducible repeat (first | refine blk_drewN ?_ _ | refine blk_drew ?_ | refine blk_alloc ?_ _)); exact BK224.out⟩, ⟨by repeat (first | (with_reducible first | exact HB.out | apply below_alloc | apply pw_below_drewN | apply below_drew1 | refine below_set ?_ GE224.out) | exact HB.out)⟩⟩
  case round =>
    clear H'
    try clear p2
    obtain ⟨x3_1, x4_1, x5_1, rfl, rfl, rfl, HA, HK1, BK224, HB⟩ := hrel
    cases gk with
    | zero => exact absurd HA.out (by simp [linkhouseref1_FormSize.l0])
    | succ k1 =>
      have H := HA.out
      clear HA
      simp only [linkhouseref1_FormSize.l0] at H
      by_cases c3 : x5_1 < (l0_2.length : Int)
      · rw [if_pos c3] at H
        have c3b0 : decide (x5_1 < (l0_2.length : Int)) = true := decide_eq_true c3
        clear c3
        by_cases c4 : 0 ≤ x5_1
        · rw [if_pos c4] at H
          have c4b0 : decide (0 ≤ x5_1) = true := decide_eq_true c4
          clear c4
          have HC5 := Aside0.mk H
          clear H
          have hcz6_0 : wr.cell? ⟨gb224, 0, none⟩ = some (.string a0_0) := (blk_cell BK224.out 0).trans rfl
          have hcz6_1 : wr.cell? ⟨gb224, 1, none⟩ = some (.int .i64 a0_1) := (blk_cell BK224.out 1).trans rfl
          have hcz6_2 : wr.cell? ⟨gb224, 2, none⟩ = some (.slice A0_2 l0_2.length c0_2) := (blk_cell BK224.out 2).trans rfl
          have hfz6_0 := blk_frozen BK224.out 0
          have hfz6_1 := blk_frozen BK224.out 1
          have hfz6_2 := blk_frozen BK224.out 2
          have p225 : 0 ≤ (x5_1 : Int) := of_decide_eq_true (by first | (with_reducible assumption) | assumption)
          have q225 : x5_1 < (l0_2.length : Int) := of_decide_eq_true (by first | (with_reducible assumption) | assumption)
          obtain ⟨ad225, e225, hx225_0⟩ := Kd.at_int HR0_2.out x5_1 p225 q225
          cases e225
          replace hx225_0 := (HB.out.cell (World.block_lt_of_cell? w _ hx225_0)).trans hx225_0
          replace p225 := eq_true p225
          replace q225 := eq_true q225
          go_upto_if 18 with (fail)
          go_cut [18] (fun v18 wc => ∃ (kq : Nat) (x18_4 : Bool), v18 = .bool x18_4 ∧ Aside0 (linkhouseref1_FormSize.j1 kq x3_1 x4_1 x5_1 (rd l0_2 x5_1) x18_4 a0_0 a0_1 l0_2 = some r) ∧ Aside0 (kq ≤ k1) ∧ Aside0 (wc.heap[gb224]? = some (.cells #[.string a0_0, .int .i64 a0_1, (.slice (some ad225) l0_2.length c0_2)] 54 (0, 0))) ∧ Aside0 (Below w.heap.size w wc))
          case first =>
            have H := HC5.out
            clear HC5
            by_cases c7 : (rd l0_2 x5_1) = 1
            · rw [if_pos c7] at H
              have c7b0 : ((rd l0_2 x5_1) == 1) = true := beq_iff_eq.mpr c7
              have c7b1 : ((rd l0_2 x5_1) != 1) = false := bne_eq_false_iff_eq.mpr c7
              clear c7
              (first | rw [c7b0] | (simp only [i64_w, i32_w]; rw [c7b0]) | skip)
              have H' := Aside0.mk H
              clear H
              go_wp2
              go_meet
              case rel => exact ⟨_, (((rd l0_2 x5_1) == 1)), (by first | rfl | (simp; done) | (simp [*]; done)), H', ⟨by have := HK1.out; first | omega | exact Nat.le_refl _⟩, ⟨by (with_reducible repeat (first | refine blk_drewN ?_ _ | refine blk_drew ?_ | refine blk_alloc ?_ _)); exact BK224.out⟩, ⟨by repeat (first | (with_reducible first | exact HB.out | apply below_alloc | apply pw_below_drewN | apply below_drew1 | refine below_set ?_ GE224.out) | exact HB.out)⟩⟩
            · rw [if_neg c7] at H
              have c7b0 : ((rd l0_2 x5_1) == 1) = false := beq_eq_false_iff_ne.mpr c7
              have c7b1 : ((rd l0_2 x5_1) != 1) = true := bne_iff_ne.mpr c7
              (first | rw [c7b0] | (simp only [i64_w, i32_w]; rw [c7b0]) | skip)
              have H' := Aside0.mk H
              clear H
              go_wp2
              go_meet
              case rel => exact ⟨_, (((rd l0_2 x5_1) == 2)), (by first | rfl | (simp; done) | (simp [*]; done)), H', ⟨by have := HK1.out; first | omega | exact Nat.le_refl _⟩, ⟨by (with_reducible repeat (first | refine blk_drewN ?_ _ | refine blk_drew ?_ | refine blk_alloc ?_ _)); exact BK224.out⟩, ⟨by repeat (first | (with_reducible first | exact HB.out | apply below_alloc | apply pw_below_drewN | apply below_drew1 | refine below_set ?_ GE224.out) | exact HB.out)⟩⟩
          case rest =>
            clear HC5
            try clear p2
            try clear q2
            try clear hx2
            try clear c3
            try clear c3b0
            try clear c4
            try clear c4b0
            try clear c7
            try clear c7b0
            try clear c7b1
            try clear hcz6_0
            try clear hcz6_1
            try clear hcz6_2
            try clear hfz6_0
            try clear hfz6_1
            try clear hfz6_2
            try clear hx225_0
            try clear p2
            try clear p225
            try clear q225
            obtain ⟨kq, x18_4, rfl, HA, HJ4, BK224, HB⟩ := hcut
            cases kq with
            | zero => exact absurd HA.out (by simp [linkhouseref1_FormSize.j1])
            | succ kj4 =>
              have H := HA.out
              clear HA
              simp only [linkhouseref1_FormSize.j1] at H
              by_cases c8 : x18_4 = true
              · subst c8
                have H1 : (linkhouseref1_FormSize.l0 kj4 (wrap64 (x3_1 + 1)) x4_1 (wrap64 (x5_1 + 1)) a0_0 a0_1 l0_2) = some r := by rw [if_pos rfl] at H; exact H
                clear H
                have H := H1
                clear H1
                have H' := Aside0.mk H
                clear H
                go_wp2
                go_roundg kj4
                case measure => have := HK1.out; have := HJ4.out; omega
                case rel => exact ⟨(wrap64 (x3_1 + 1)), (x4_1), (wrap64 (x5_1 + 1)), (by first | rfl | (simp; done) | (simp [*]; done)), (by first | rfl | (simp; done) | (simp [*]; done)), (by first | rfl | (simp; done) | (simp [*]; done)), H', ⟨by have := HK1.out; have := HJ4.out; omega⟩, ⟨by (with_reducible repeat (first | refine blk_drewN ?_ _ | refine blk_drew ?_ | refine blk_alloc ?_ _)); exact BK224.out⟩, ⟨by repeat (first | (with_reducible first | exact HB.out | apply below_alloc | apply pw_below_drewN | apply below_drew1 | refine below_set ?_ GE224.out) | exact HB.out)⟩⟩
              · replace c8 := Bool.eq_false_iff.mpr c8
                subst c8
                have H1 : (if (rd l0_2 x5_1) = 3 then (linkhouseref1_FormSize.j2 kj4 x3_1 x4_1 x5_1 (rd l0_2 x5_1) ((rd l0_2 x5_1) == 3) a0_0 a0_1 l0_2) else (linkhouseref1_FormSize.j2 kj4 x3_1 x4_1 x5_1 (rd l0_2 x5_1) ((rd l0_2 x5_1) == 5) a0_0 a0_1 l0_2)) = some r := by rw [if_neg (show ¬ (false = true) by decide)] at H; exact H
                clear H
                have H := H1
                clear H1
                have HC9 := Aside0.mk H
                clear H
                go_upto_if 23 with (fail)
                go_cut [23] (fun v23 wc => ∃ (kq : Nat) (x23_8 : Bool), v23 = .bool x23_8 ∧ Aside0 (linkhouseref1_FormSize.j2 kq x3_1 x4_1 x5_1 (rd l0_2 x5_1) x23_8 a0_0 a0_1 l0_2 = some r) ∧ Aside0 (kq ≤ kj4) ∧ Aside0 (wc.heap[gb224]? = some (.cells #[.string a0_0, .int .i64 a0_1, (.slice (some ad225) l0_2.length c0_2)] 54 (0, 0))) ∧ Aside0 (Below w.heap.size w wc))
                case first =>
                  have H := HC9.out
                  clear HC9
                  by_cases c10 : (rd l0_2 x5_1) = 3
                  · rw [if_pos c10] at H
                    have c10b0 : ((rd l0_2 x5_1) == 3) = true := beq_iff_eq.mpr c10
                    have c10b1 : ((rd l0_2 x5_1) != 3) = false := bne_eq_false_iff_eq.mpr c10
                    clear c10
                    (first | rw [c10b0] | (simp only [i64_w, i32_w]; rw [c10b0]) | skip)
                    have H' := Aside0.mk H
                    clear H
                    go_wp2
                    go_meet
                    case rel => exact ⟨_, (((rd l0_2 x5_1) == 3)), (by first | rfl | (simp; done) | (simp [*]; done)), H', ⟨by have := HK1.out; have := HJ4.out; first | omega | exact Nat.le_refl _⟩, ⟨by (with_reducible repeat (first | refine blk_drewN ?_ _ | refine blk_drew ?_ | refine blk_alloc ?_ _)); exact BK224.out⟩, ⟨by repeat (first | (with_reducible first | exact HB.out | apply below_alloc | apply pw_below_drewN | apply below_drew1 | refine below_set ?_ GE224.out) | exact HB.out)⟩⟩
                  · rw [if_neg c10] at H
                    have c10b0 : ((rd l0_2 x5_1) == 3) = false := beq_eq_false_iff_ne.mpr c10
                    have c10b1 : ((rd l0_2 x5_1) != 3) = true := bne_iff_ne.mpr c10
                    (first | rw [c10b0] | (simp only [i64_w, i32_w]; rw [c10b0]) | skip)
                    have H' := Aside0.mk H
                    clear H
                    go_wp2
                    go_meet
                    case rel => exact ⟨_, (((rd l0_2 x5_1) == 5)), (by first | rfl | (simp; done) | (simp [*]; done)), H', ⟨by have := HK1.out; have := HJ4.out; first | omega | exact Nat.le_refl _⟩, ⟨by (with_reducible repeat (first | refine blk_drewN ?_ _ | refine blk_drew ?_ | refine blk_alloc ?_ _)); exact BK224.out⟩, ⟨by repeat (first | (with_reducible first | exact HB.out | apply below_alloc | apply pw_below_drewN | apply below_drew1 | refine below_set ?_ GE224.out) | exact HB.out)⟩⟩
                case rest =>
                  clear HC9
                  try clear c1
                  try clear p2
                  try clear q2
                  try clear hx2
                  try clear c3
                  try clear c3b0
                  try clear c4
                  try clear c4b0
                  try clear p6
                  try clear c7
                  try clear c7b0
                  try clear c7b1
                  try clear c8
                  try clear c10
                  try clear c10b0
                  try clear c10b1
                  try clear hcz6_0
                  try clear hcz6_1
                  try clear hcz6_2
                  try clear hfz6_0
                  try clear hfz6_1
                  try clear hfz6_2
                  try clear hx225_0
                  try clear p2
                  try clear p225
                  try clear q2
                  try clear q225
                  obtain ⟨kq, x23_8, rfl, HA, HJ8, BK224, HB⟩ := hcut
                  cases kq with
                  | zero => exact absurd HA.out (by simp [linkhouseref1_FormSize.j2])
                  | succ kj8 =>
                    have H := HA.out
                    clear HA
                    simp only [linkhouseref1_FormSize.j2] at H
                    by_cases c11 : x23_8 = true
                    · subst c11
                      have H1 : (linkhouseref1_FormSize.l0 kj8 x3_1 (wrap64 (x4_1 + 1)) (wrap64 (x5_1 + 1)) a0_0 a0_1 l0_2) = some r := by rw [if_pos rfl] at H; exact H
                      clear H
                      have H := H1
                      clear H1
                      have H' := Aside0.mk H
                      clear H
                      go_wp2
                      go_roundg kj8
                      case measure => have := HK1.out; have := HJ4.out; have := HJ8.out; omega
                      case rel => exact ⟨(x3_1), (wrap64 (x4_1 + 1)), (wrap64 (x5_1 + 1)), (by first | rfl | (simp; done) | (simp [*]; done)), (by first | rfl | (simp; done) | (simp [*]; done)), (by first | rfl | (simp; done) | (simp [*]; done)), H', ⟨by have := HK1.out; have := HJ4.out; have := HJ8.out; omega⟩, ⟨by (with_reducible repeat (first | refine blk_drewN ?_ _ | refine blk_drew ?_ | refine blk_alloc ?_ _)); exact BK224.out⟩, ⟨by repeat (first | (with_reducible first | exact HB.out | apply below_alloc | apply pw_below_drewN | apply below_drew1 | refine below_set ?_ GE224.out) | exact HB.out)⟩⟩
                    · replace c11 := Bool.eq_false_iff.mpr c11
                      subst c11
                      have H1 : (if (rd l0_2 x5_1) = 6 then (linkhouseref1_FormSize.l0 kj8 x3_1 (wrap64 (x4_1 + 2)) (wrap64 (x5_1 + 1)) a0_0 a0_1 l0_2) else (if (rd l0_2 x5_1) = 4 then (linkhouseref1_FormSize.l0 kj8 x3_1 (wrap64 (x4_1 + 4)) (wrap64 (x5_1 + 1)) a0_0 a0_1 l0_2) else (linkhouseref1_FormSize.l0 kj8 x3_1 x4_1 (wrap64 (x5_1 + 1)) a0_0 a0_1 l0_2))) = some r := by rw [if_neg (show ¬ (false = true) by decide)] at H; exact H
                      clear H
                      have H := H1
                      clear H1
                      by_cases c12 : (rd l0_2 x5_1) = 6
                      · rw [if_pos c12] at H
                        have c12b0 : ((rd l0_2 x5_1) == 6) = true := beq_iff_eq.mpr c12
                        have c12b1 : ((rd l0_2 x5_1) != 6) = false := bne_eq_false_iff_eq.mpr c12
                        clear c12
                        have H' := Aside0.mk H
                        clear H
                        go_wp2
                        go_roundg kj8
                        case measure => have := HK1.out; have := HJ4.out; have := HJ8.out; omega
                        case rel => exact ⟨(x3_1), (wrap64 (x4_1 + 2)), (wrap64 (x5_1 + 1)), (by first | rfl | (simp; done) | (simp [*]; done)), (by first | rfl | (simp; done) | (simp [*]; done)), (by first | rfl | (simp; done) | (simp [*]; done)), H', ⟨by have := HK1.out; have := HJ4.out; have := HJ8.out; omega⟩, ⟨by (with_reducible repeat (first | refine blk_drewN ?_ _ | refine blk_drew ?_ | refine blk_alloc ?_ _)); exact BK224.out⟩, ⟨by repeat (first | (with_reducible first | exact HB.out | apply below_alloc | apply pw_below_drewN | apply below_drew1 | refine below_set ?_ GE224.out) | exact HB.out)⟩⟩
                      · rw [if_neg c12] at H
                        have c12b0 : ((rd l0_2 x5_1) == 6) = false := beq_eq_false_iff_ne.mpr c12
                        have c12b1 : ((rd l0_2 x5_1) != 6) = true := bne_iff_ne.mpr c12
                        by_cases c13 : (rd l0_2 x5_1) = 4
                        · rw [if_pos c13] at H
                          have c13b0 : ((rd l0_2 x5_1) == 4) = true := beq_iff_eq.mpr c13
                          have c13b1 : ((rd l0_2 x5_1) != 4) = false := bne_eq_false_iff_eq.mpr c13
                          clear c13
                          have H' := Aside0.mk H
                          clear H
                          go_wp2
                          go_roundg kj8
                          case measure => have := HK1.out; have := HJ4.out; have := HJ8.out; omega
                          case rel => exact ⟨(x3_1), (wrap64 (x4_1 + 4)), (wrap64 (x5_1 + 1)), (by first | rfl | (simp; done) | (simp [*]; done)), (by first | rfl | (simp; done) | (simp [*]; done)), (by first | rfl | (simp; done) | (simp [*]; done)), H', ⟨by have := HK1.out; have := HJ4.out; have := HJ8.out; omega⟩, ⟨by (with_reducible repeat (first | refine blk_drewN ?_ _ | refine blk_drew ?_ | refine blk_alloc ?_ _)); exact BK224.out⟩, ⟨by repeat (first | (with_reducible first | exact HB.out | apply below_alloc | apply pw_below_drewN | apply below_drew1 | refine below_set ?_ GE224.out) | exact HB.out)⟩⟩
                        · rw [if_neg c13] at H
                          have c13b0 : ((rd l0_2 x5_1) == 4) = false := beq_eq_false_iff_ne.mpr c13
                          have c13b1 : ((rd l0_2 x5_1) != 4) = true := bne_iff_ne.mpr c13
                          have H' := Aside0.mk H
                          clear H
                          go_wp2
                          go_roundg kj8
                          case measure => have := HK1.out; have := HJ4.out; have := HJ8.out; omega
                          case rel => exact ⟨(x3_1), (x4_1), (wrap64 (x5_1 + 1)), (by first | rfl | (simp; done) | (simp [*]; done)), (by first | rfl | (simp; done) | (simp [*]; done)), (by first | rfl | (simp; done) | (simp [*]; done)), H', ⟨by have := HK1.out; have := HJ4.out; have := HJ8.out; omega⟩, ⟨by (with_reducible repeat (first | refine blk_drewN ?_ _ | refine blk_drew ?_ | refine blk_alloc ?_ _)); exact BK224.out⟩, ⟨by repeat (first | (with_reducible first | exact HB.out | apply below_alloc | apply pw_below_drewN | apply below_drew1 | refine below_set ?_ GE224.out) | exact HB.out)⟩⟩
        · rw [if_neg c4] at H
          exact absurd H (by simp)
      · rw [if_neg c3] at H
        have c3b0 : decide (x5_1 < (l0_2.length : Int)) = false := decide_eq_false c3
        clear c3
        obtain rfl := Option.some.inj H
        have hcz14_0 : wr.cell? ⟨gb224, 0, none⟩ = some (.string a0_0) := (blk_cell BK224.out 0).trans rfl
        have hcz14_1 : wr.cell? ⟨gb224, 1, none⟩ = some (.int .i64 a0_1) := (blk_cell BK224.out 1).trans rfl
        have hcz14_2 : wr.cell? ⟨gb224, 2, none⟩ = some (.slice A0_2 l0_2.length c0_2) := (blk_cell BK224.out 2).trans rfl
        have hfz14_0 := blk_frozen BK224.out 0
        have hfz14_1 := blk_frozen BK224.out 1
        have hfz14_2 := blk_frozen BK224.out 2
        go_wp2
        go_ret
        exact ⟨by first | rfl | (simp [errW_none, errW_some] <;> rfl) | (simp [*, errW_none, errW_some] <;> rfl), by repeat (first | (with_reducible first | exact HB.out | apply below_alloc | apply pw_below_drewN | apply below_drew1 | refine below_set ?_ GE224.out) | exact HB.out)⟩

-- NOT PRINTED: function 8 (linkhouselaw1_IsaValidateMatchesSpec)

-- NOT PRINTED: function 9 (linkhouselaw1_IsaFindMatchesSpec)

-- NOT PRINTED: function 10 (linkhouselaw1_IsaFindsAll)

-- NOT PRINTED: function 11 (linkhouselaw1_IsaOrderIrrelevant)

-- NOT PRINTED: function 42 (linkhouseref1_Default)

end Go.Proofs.Ytipjpdiianopcaa.A
