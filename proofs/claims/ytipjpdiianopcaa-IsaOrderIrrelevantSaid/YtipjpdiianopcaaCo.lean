/- linkhouselaw1.IsaOrderIrrelevant, as a call: the walk. -/
import Derived.Test.YtipjpdiianopcaaEx2
import Derived.Test.YtipjpdiianopcaaCfl
namespace Go.Proofs.Ytipjpdiianopcaa.Co
open Go.RowKit Go.Proofs.YtipjpdiianopcaaW.PrintWords Go.Proofs.YtipjpdiianopcaaW.PrintLast Go.Proofs.YtipjpdiianopcaaW.PrintMore Go.Proofs.Ytipjpdiianopcaa.A Go.Proofs.Ytipjpdiianopcaa.Cv Go.Proofs.Ytipjpdiianopcaa.Cd Go.Proofs.Ytipjpdiianopcaa.E
set_option linter.unusedVariables false
set_option linter.unusedSimpArgs false
/-- What came in, read where it came in. -/
abbrev kf (w : World) : Kd S54 := Kd.fixed k54 w
theorem rd_rev (t : List S54) (m : Nat) (h : m < t.length) : t.reverse.take (m + 1) = t.reverse.take m ++ [rd_T54 t ((t.length : Int) - 1 - m)] := by
  rw [List.take_succ_eq_append_getElem (by simpa using h)]
  congr 2
  rw [List.getElem_reverse, rd_T54_get t _ (by omega) (by omega)]
  congr 1
  omega
/-- The row that was made reads as its forms. -/
theorem kf_reads {w W : World} {v : Value} {xs : List S54} {ok : Nat → Prop} (h : Kd.R (kf w) 54 W w.heap.size ok v xs) (hb : Below w.heap.size w W) : ∃ A c, v = .slice A xs.length c ∧ xs.length ≤ c ∧ Kd.C k54 W A xs.length xs := by
  obtain ⟨A, c, e, hl, hC⟩ := Kd.R_reads h
  refine ⟨A, c, e, hl, ?_⟩
  exact ReadsRow.imp_ hC (Below.refl _ _) (fun x cs hx => k54.K_below hb hx)
set_option maxHeartbeats 8000000 in
set_option maxRecDepth 100000 in
theorem order_calls (k : Nat) (A0 : Option Addr) (c0 : Nat) (l0 : List (S54)) (e1 e2 e3 e4 : Int) (w : World) (hr0 : Kd.C k54 w A0 l0.length l0) (hc0 : l0.length ≤ c0) (hn : l0.length * 48 ≤ 140737488351232)
    (hex : linkhouselaw1_isaExample.f k = some true) (hv1 : isa_Validate.f k l0 = some (e1, e2)) (hv2 : isa_Validate.f k l0.reverse = some (e3, e4)) (h13 : e1 = 0 ↔ e3 = 0)
    (hs : e1 = 0 → ∀ i : Nat, i < l0.length → ∃ n : Int, 1 ≤ n ∧ isa_Size.f k l0 i = some (n, 0, 0) ∧ isa_Size.f k l0.reverse ((l0.length : Int) - 1 - i) = some (n, 0, 0)) :
    Calls Try.prog 11 #[.slice A0 l0.length c0] w fun e w' => e = .returned (.bool true) ∧ Below w.heap.size w w' := by
  have hu27 := Try.underlying27
  have hu54 := Try.underlying54
  have HR0 := Aside0.mk hr0
  have HC0 := Aside0.mk hc0
  have HS := Aside0.mk hs
  have HX := Aside0.mk hex
  have HV1 := Aside0.mk hv1
  have HV2 := Aside0.mk hv2
  have H13 := Aside0.mk h13
  have HN := Aside0.mk hn
  clear hr0 hc0 hs hex hv1 hv2 h13
  have HB := Aside0.mk (Below.refl w.heap.size w)
  go_enter Try.func11, Try.ntmps11
  go_wp2_with (first | ((with_reducible refine gate_callee (f := 33) rfl ?_); refine goesL_ (some 12) rfl rfl Try.func33 (by kernel_rfl) rfl #[] rfl (by (try simp only [List.map_toArray, List.map_cons, List.map_nil]); first | done | rfl) ?_; (with_reducible refine (linkhouselaw1_isaExample.calls k true _ rfl HX.out).mono ?_); rintro e w6 ⟨rfl, hb⟩; refine ⟨_, rfl, ?_⟩; have n0_ := Aside0.mk (below_step HB.out hb); clear HB; have HB := n0_; clear n0_; clear hb))
  go_loopw [3, 4] (fun v i W => ∃ (m : Nat) (j : Int), m ≤ l0.length ∧ i = .int .i64 j ∧ Aside0 (j = (l0.length : Int) - 1 - m) ∧ Aside0 (Kd.R (kf w) 54 W w.heap.size (fun _ => True) v (l0.reverse.take m)) ∧ Aside0 (Below w.heap.size w W)) (fun _ i _ => (intOf i + 1).toNat)
  case atStart => exact ⟨0, (l0.length : Int) - 1, Nat.zero_le _, rfl, ⟨by simp⟩, ⟨Kd.R_nil _ _ _ _ _⟩, HB⟩
  case round =>
    clear HB
    obtain ⟨m, j, hm, rfl, HJ, HV, HB⟩ := hrel
    by_cases hlt : m < l0.length
    · have p0 : 0 ≤ j := by have := HJ.out; omega
      have p1 : j < (l0.length : Int) := by have := HJ.out; omega
      obtain ⟨ad, A2, c2, e0, hx0, hx1, hx2, hl2, hi2⟩ := at_T54 HR0.out j p0 p1
      have hk := k54_mk w (rd_T54 l0 j) hl2 hi2
      cases e0
      replace hx0 := (HB.out.cell (World.block_lt_of_cell? w _ hx0)).trans hx0
      replace hx1 := (HB.out.cell (World.block_lt_of_cell? w _ hx1)).trans hx1
      replace hx2 := (HB.out.cell (World.block_lt_of_cell? w _ hx2)).trans hx2
      have HK := Aside0.mk hk
      have RR := Aside0.mk (rd_rev l0 m hlt)
      rw [← HJ.out] at RR
      have HW := Aside0.mk (show wrap64 (j - 1) = j - 1 by unfold wrap64; omega)
      obtain ⟨A3, n3, c3, rfl⟩ := sliceR HV.out
      clear hk hl2 hi2
      have HM := Aside0.mk hlt
      clear hlt hm
      go_wp2_with (first | (at_builtin; go_loud (refine Kd.R_append (kf w) (w0 := w) w.heap.size rfl (.tmp 21) (.tmp 26) 47 54 (.agg #[.string ⟨#[]⟩, .int .i64 0, .slice none 0 0]) 48 rfl Try.underlying47 info54 rfl (show 0 < 3 by decide) (by decide) (.slice A3 n3 c3) (l0.reverse.take m) (rd_T54 l0 j) [.string (rd_T54 l0 j).f0, .int .i64 (rd_T54 l0 j).f1, .slice A2 (rd_T54 l0 j).f2.length c2] (fun _ => True) (fun _ => False) rfl rfl HK.out (fun _ hk => hk.elim) (fun _ _ => trivial) HV.out HB.out HB.out.size ?aL ?_); (case aL => have h := HN.out; have h2 := HM.out; simp only [List.length_take, List.length_reverse]; omega); intro v1 w8 ho hb hgr hat; have HV1' := Aside0.mk ho; have HB1' := Aside0.mk hb; clear HV HB; have HV := HV1'; have HB := HB1'; clear HV1' HB1'; clear ho hb hgr hat))
      go_roundw
      case rel => exact ⟨m + 1, j - 1, HM.out, by first | rfl | rw [HW.out], ⟨by have := HJ.out; omega⟩, ⟨by rw [RR.out]; exact HV.out⟩, HB⟩
      case measure => simp [intOf, HW.out]; omega
    · have hm' : m = l0.length := by omega
      have p0 : ¬ 0 ≤ j := by have := HJ.out; omega
      have pb : decide (0 ≤ j) = false := decide_eq_false p0
      have hx := HV.out
      rw [hm', List.take_of_length_le (by simp)] at hx
      obtain ⟨A3, c3, rfl, hl3, hC3⟩ := kf_reads hx HB.out
      have HC3 := Aside0.mk hC3
      have HL3 := Aside0.mk hl3
      clear hx hC3 hl3 HV hlt hm hm' HJ
      go_wp2_with (fail)
      refine (isa_Validate.calls k A0 c0 l0 e1 e2 _ (Kd.C_below HR0.out HB.out) HC0.out HV1.out).mono ?_
      rintro e w8 ⟨rfl, hb⟩
      have HC4 := Aside0.mk (Kd.C_below HC3.out hb)
      have n0_ := Aside0.mk (below_step HB.out hb)
      clear HB HC3 hb
      have HB := n0_
      clear n0_
      go_wp2_with (fail)
      have hcv := isa_Validate.calls k A3 c3 l0.reverse e3 e4 _ HC4.out HL3.out HV2.out
      rw [List.length_reverse] at hcv
      refine hcv.mono ?_
      clear hcv
      rintro e w9 ⟨rfl, hb⟩
      have HC5 := Aside0.mk (Kd.C_below HC4.out hb)
      have HBw := Aside0.mk (below_step HB.out hb)
      clear HB HC4 hb
      have HB := Aside0.mk (Below.refl w9.heap.size w9)
      by_cases he : e1 = 0
      · have he3 := H13.out.1 he
        subst he
        subst he3
        go_wp2_with (first | ((with_reducible refine gate_dst (N := 5) rfl ?_); refine box_event ?hg (N := 5) ?hd (cs := #[.int .i64 0, .int .i64 0]) (t := 27) ?hr ?_; (case hd => rfl); (case hg => rfl); (case hr => first | (go_simp; done) | (go_simp; rfl)); intro gb hg w11 hbox hb; have n0_ := Aside0.mk (below_step (by repeat (first | (with_reducible first | exact HB.out | apply below_alloc | apply pw_below_drewN | apply below_drew1) | exact HB.out)) hb); have BK_gb := Aside0.mk hbox; have GE_gb := Aside0.mk ((by rw [hg]; exact (below_size (by repeat (first | (with_reducible first | exact HB.out | apply below_alloc | apply pw_below_drewN | apply below_drew1) | exact HB.out)))) : w9.heap.size ≤ gb); clear HB; have HB := n0_; clear n0_ hb hbox hg; have hc0_gb : w11.cell? ⟨gb, 0, none⟩ = some (.int .i64 0) := (blk_cell BK_gb.out 0).trans rfl; have hc1_gb : w11.cell? ⟨gb, 1, none⟩ = some (.int .i64 0) := (blk_cell BK_gb.out 1).trans rfl; have hf0_gb := blk_frozen BK_gb.out 0; have hf1_gb := blk_frozen BK_gb.out 1) | ((with_reducible refine gate_dst (N := 6) rfl ?_); refine box_event ?hg (N := 6) ?hd (cs := #[.int .i64 0, .int .i64 0]) (t := 27) ?hr ?_; (case hd => rfl); (case hg => rfl); (case hr => first | (go_simp; done) | (go_simp; rfl)); intro gb2 hg w12 hbox hb; have n0_ := Aside0.mk (below_step (by repeat (first | (with_reducible first | exact HB.out | apply below_alloc | apply pw_below_drewN | apply below_drew1 | refine below_set ?_ GE_gb.out) | exact HB.out)) hb); have BK_gb2 := Aside0.mk hbox; have GE_gb2 := Aside0.mk ((by rw [hg]; exact (below_size (by repeat (first | (with_reducible first | exact HB.out | apply below_alloc | apply pw_below_drewN | apply below_drew1 | refine below_set ?_ GE_gb.out) | exact HB.out)))) : w9.heap.size ≤ gb2); have m_gb := Aside0.mk (blk_below (g := gb) (o := .cells #[.int .i64 0, .int .i64 0] 27 (0, 0)) (by (with_reducible repeat (first | refine blk_drewN ?_ _ | refine blk_drew ?_ | refine blk_alloc ?_ _)); exact BK_gb.out) hb); have NB_gb_gb2 := Aside0.mk ((by rw [hg]; exact Nat.ne_of_lt (blk_lt (g := gb) (o := .cells #[.int .i64 0, .int .i64 0] 27 (0, 0)) (by (with_reducible repeat (first | refine blk_drewN ?_ _ | refine blk_drew ?_ | refine blk_alloc ?_ _)); exact BK_gb.out)) : gb ≠ gb2)); have NB_gb2_gb := Aside0.mk NB_gb_gb2.out.symm; clear BK_gb; have BK_gb := m_gb; clear m_gb; clear HB; have HB := n0_; clear n0_ hb hbox hg; have q_gb2_gb := NB_gb2_gb.out; have q_gb_gb2 := NB_gb_gb2.out; (try clear hc0_gb hc1_gb hf0_gb hf1_gb); have hc0_gb : w12.cell? ⟨gb, 0, none⟩ = some (.int .i64 0) := (blk_cell BK_gb.out 0).trans rfl; have hc1_gb : w12.cell? ⟨gb, 1, none⟩ = some (.int .i64 0) := (blk_cell BK_gb.out 1).trans rfl; have hf0_gb := blk_frozen BK_gb.out 0; have hf1_gb := blk_frozen BK_gb.out 1; have hc0_gb2 : w12.cell? ⟨gb2, 0, none⟩ = some (.int .i64 0) := (blk_cell BK_gb2.out 0).trans rfl; have hc1_gb2 : w12.cell? ⟨gb2, 1, none⟩ = some (.int .i64 0) := (blk_cell BK_gb2.out 1).trans rfl; have hf0_gb2 := blk_frozen BK_gb2.out 0; have hf1_gb2 := blk_frozen BK_gb2.out 1))
        have n0_ : Aside0 (((((w12.setCell ⟨gb, 0, none⟩ (.int .i64 0)).setCell ⟨gb, 1, none⟩ (.int .i64 e2)).setCell ⟨gb2, 0, none⟩ (.int .i64 0)).setCell ⟨gb2, 1, none⟩ (.int .i64 e4)).heap[gb]? = some (.cells #[.int .i64 0, .int .i64 e2] 27 (0, 0))) := ⟨by refine blk_far ?_ NB_gb_gb2.out _; refine blk_far ?_ NB_gb_gb2.out _; refine blk_put (cs := #[.int .i64 0, .int .i64 0]) ?_ 1 _ rfl; refine blk_put (cs := #[.int .i64 0, .int .i64 0]) ?_ 0 _ rfl; exact BK_gb.out⟩
        have n1_ : Aside0 (Below w9.heap.size w9 ((((w12.setCell ⟨gb, 0, none⟩ (.int .i64 0)).setCell ⟨gb, 1, none⟩ (.int .i64 e2)).setCell ⟨gb2, 0, none⟩ (.int .i64 0)).setCell ⟨gb2, 1, none⟩ (.int .i64 e4))) := ⟨by repeat (first | (with_reducible first | exact HB.out | apply below_alloc | apply pw_below_drewN | apply below_drew1 | refine below_set ?_ GE_gb.out | refine below_set ?_ GE_gb2.out) | exact HB.out)⟩
        clear BK_gb HB BK_gb2 hc0_gb hc1_gb hf0_gb hf1_gb hc0_gb2 hc1_gb2 hf0_gb2 hf1_gb2
        generalize ((((w12.setCell ⟨gb, 0, none⟩ (.int .i64 0)).setCell ⟨gb, 1, none⟩ (.int .i64 e2)).setCell ⟨gb2, 0, none⟩ (.int .i64 0)).setCell ⟨gb2, 1, none⟩ (.int .i64 e4)) = w13 at n0_ n1_ ⊢
        have BK := n0_
        have HB := n1_
        clear n0_ n1_
        go_loopw [7] (fun v W => ∃ n : Nat, n ≤ l0.length ∧ v = .int .i64 n ∧ Aside0 (W.heap[gb]? = some (.cells #[.int .i64 0, .int .i64 e2] 27 (0, 0))) ∧ Aside0 (Below w9.heap.size w9 W)) (fun v _ => l0.length - (intOf v).toNat)
        case atStart => exact ⟨0, Nat.zero_le _, rfl, BK, HB⟩
        case round =>
          clear BK HB
          obtain ⟨n, hn', rfl, BK_gb, HB⟩ := hrel
          have hc0_gb : wr.cell? ⟨gb, 0, none⟩ = some (.int .i64 0) := (blk_cell BK_gb.out 0).trans rfl
          have hc1_gb : wr.cell? ⟨gb, 1, none⟩ = some (.int .i64 e2) := (blk_cell BK_gb.out 1).trans rfl
          have hf0_gb := blk_frozen BK_gb.out 0
          have hf1_gb := blk_frozen BK_gb.out 1
          by_cases hlt : n < l0.length
          · obtain ⟨nn, hn1, hz1, hz2⟩ := HS.out (by simp) n hlt
            have HZ1 := Aside0.mk hz1
            have HZ2 := Aside0.mk hz2
            have hd1 : decide (nn < 1) = false := decide_eq_false (by omega)
            clear hz1 hz2
            go_wp2_with (fail)
            refine (isa_Size.calls k A0 c0 l0 n nn 0 0 _ (Kd.C_below HR0.out (below_step HBw.out HB.out)) HC0.out HZ1.out).mono ?_
            rintro e w21 ⟨rfl, hb⟩
            have m0_ := Aside0.mk (blk_below BK_gb.out hb)
            have n0_ := Aside0.mk (below_step HB.out hb)
            clear BK_gb HB hb hc0_gb hc1_gb hf0_gb hf1_gb
            have BK_gb := m0_
            have HB := n0_
            clear m0_ n0_
            have hc0_gb : w21.cell? ⟨gb, 0, none⟩ = some (.int .i64 0) := (blk_cell BK_gb.out 0).trans rfl
            have hc1_gb : w21.cell? ⟨gb, 1, none⟩ = some (.int .i64 e2) := (blk_cell BK_gb.out 1).trans rfl
            have hf0_gb := blk_frozen BK_gb.out 0
            have hf1_gb := blk_frozen BK_gb.out 1
            go_wp2_with (first | ((with_reducible refine gate_dst (N := 9) rfl ?_); refine box_event ?hg (N := 9) ?hd (cs := #[.int .i64 0, .int .i64 0]) (t := 27) ?hr ?_; (case hd => rfl); (case hg => rfl); (case hr => first | (go_simp; done) | (go_simp; rfl)); intro g9 hg w22 hbox hb; have n0_ := Aside0.mk (below_step (by repeat (first | (with_reducible first | exact HB.out | apply below_alloc | apply pw_below_drewN | apply below_drew1) | exact HB.out)) hb); have BK_g9 := Aside0.mk hbox; have GE_g9 := Aside0.mk ((by rw [hg]; exact (below_size (by repeat (first | (with_reducible first | exact HB.out | apply below_alloc | apply pw_below_drewN | apply below_drew1) | exact HB.out)))) : w9.heap.size ≤ g9); have m_gb := Aside0.mk (blk_below (g := gb) (o := .cells #[.int .i64 0, .int .i64 e2] 27 (0, 0)) (by (with_reducible repeat (first | refine blk_drewN ?_ _ | refine blk_drew ?_ | refine blk_alloc ?_ _)); exact BK_gb.out) hb); have NB_gb_g9 := Aside0.mk ((by rw [hg]; exact Nat.ne_of_lt (blk_lt (g := gb) (o := .cells #[.int .i64 0, .int .i64 e2] 27 (0, 0)) (by (with_reducible repeat (first | refine blk_drewN ?_ _ | refine blk_drew ?_ | refine blk_alloc ?_ _)); exact BK_gb.out)) : gb ≠ g9)); have NB_g9_gb := Aside0.mk NB_gb_g9.out.symm; clear BK_gb; have BK_gb := m_gb; clear m_gb; clear HB; have HB := n0_; clear n0_ hb hbox hg; have q_g9_gb := NB_g9_gb.out; have q_gb_g9 := NB_gb_g9.out; (try clear hc0_gb hc1_gb hf0_gb hf1_gb); have hc0_gb : w22.cell? ⟨gb, 0, none⟩ = some (.int .i64 0) := (blk_cell BK_gb.out 0).trans rfl; have hc1_gb : w22.cell? ⟨gb, 1, none⟩ = some (.int .i64 e2) := (blk_cell BK_gb.out 1).trans rfl; have hf0_gb := blk_frozen BK_gb.out 0; have hf1_gb := blk_frozen BK_gb.out 1; have hc0_g9 : w22.cell? ⟨g9, 0, none⟩ = some (.int .i64 0) := (blk_cell BK_g9.out 0).trans rfl; have hc1_g9 : w22.cell? ⟨g9, 1, none⟩ = some (.int .i64 0) := (blk_cell BK_g9.out 1).trans rfl; have hf0_g9 := blk_frozen BK_g9.out 0; have hf1_g9 := blk_frozen BK_g9.out 1))
            have m1_ : Aside0 (((w22.setCell ⟨g9, 0, none⟩ (.int .i64 0)).setCell ⟨g9, 1, none⟩ (.int .i64 0)).heap[g9]? = some (.cells #[.int .i64 0, .int .i64 0] 27 (0, 0))) := ⟨by refine blk_put (cs := #[.int .i64 0, .int .i64 0]) ?_ 1 _ rfl; refine blk_put (cs := #[.int .i64 0, .int .i64 0]) ?_ 0 _ rfl; exact BK_g9.out⟩
            have m0_ : Aside0 (((w22.setCell ⟨g9, 0, none⟩ (.int .i64 0)).setCell ⟨g9, 1, none⟩ (.int .i64 0)).heap[gb]? = some (.cells #[.int .i64 0, .int .i64 e2] 27 (0, 0))) := ⟨by refine blk_far ?_ NB_gb_g9.out _; refine blk_far ?_ NB_gb_g9.out _; exact BK_gb.out⟩
            have n0_ : Aside0 (Below w9.heap.size w9 ((w22.setCell ⟨g9, 0, none⟩ (.int .i64 0)).setCell ⟨g9, 1, none⟩ (.int .i64 0))) := ⟨by repeat (first | (with_reducible first | exact HB.out | apply below_alloc | apply pw_below_drewN | apply below_drew1 | refine below_set ?_ GE_g9.out) | exact HB.out)⟩
            clear BK_gb BK_g9 HB hc0_gb hc1_gb hf0_gb hf1_gb hc0_g9 hc1_g9 hf0_g9 hf1_g9
            generalize ((w22.setCell ⟨g9, 0, none⟩ (.int .i64 0)).setCell ⟨g9, 1, none⟩ (.int .i64 0)) = w23 at m1_ m0_ n0_ ⊢
            have BK_gb := m0_
            have BK_g9 := m1_
            have HB := n0_
            clear m0_ m1_ n0_
            have hc0_g9 : w23.cell? ⟨g9, 0, none⟩ = some (.int .i64 0) := (blk_cell BK_g9.out 0).trans rfl
            have hc1_g9 : w23.cell? ⟨g9, 1, none⟩ = some (.int .i64 0) := (blk_cell BK_g9.out 1).trans rfl
            have hf0_g9 := blk_frozen BK_g9.out 0
            have hf1_g9 := blk_frozen BK_g9.out 1
            have hcz := isa_Size.calls k A3 c3 l0.reverse ((l0.length : Int) - 1 - n) nn 0 0 w23 (Kd.C_below HC5.out HB.out) HL3.out HZ2.out
            rw [List.length_reverse] at hcz
            refine hcz.mono ?_
            clear hcz
            rintro e w25 ⟨rfl, hb⟩
            have m0_ := Aside0.mk (blk_below BK_gb.out hb)
            have m1_ := Aside0.mk (blk_below BK_g9.out hb)
            have n0_ := Aside0.mk (below_step HB.out hb)
            clear BK_gb BK_g9 HB hb hc0_g9 hc1_g9 hf0_g9 hf1_g9
            have BK_gb := m0_
            have BK_g9 := m1_
            have HB := n0_
            clear m0_ m1_ n0_
            go_wp2_with (first | ((with_reducible refine gate_dst (N := 11) rfl ?_); refine box_event ?hg (N := 11) ?hd (cs := #[.int .i64 0, .int .i64 0]) (t := 27) ?hr ?_; (case hd => rfl); (case hg => rfl); (case hr => first | (go_simp; done) | (go_simp; rfl)); intro g11 hg w24 hbox hb; have n0_ := Aside0.mk (below_step (by repeat (first | (with_reducible first | exact HB.out | apply below_alloc | apply pw_below_drewN | apply below_drew1 | refine below_set ?_ GE_g9.out) | exact HB.out)) hb); have BK_g11 := Aside0.mk hbox; have GE_g11 := Aside0.mk ((by rw [hg]; exact (below_size (by repeat (first | (with_reducible first | exact HB.out | apply below_alloc | apply pw_below_drewN | apply below_drew1 | refine below_set ?_ GE_g9.out) | exact HB.out)))) : w9.heap.size ≤ g11); have m_gb := Aside0.mk (blk_below (g := gb) (o := .cells #[.int .i64 0, .int .i64 e2] 27 (0, 0)) (by (with_reducible repeat (first | refine blk_drewN ?_ _ | refine blk_drew ?_ | refine blk_alloc ?_ _)); exact BK_gb.out) hb); have NB_gb_g11 := Aside0.mk ((by rw [hg]; exact Nat.ne_of_lt (blk_lt (g := gb) (o := .cells #[.int .i64 0, .int .i64 e2] 27 (0, 0)) (by (with_reducible repeat (first | refine blk_drewN ?_ _ | refine blk_drew ?_ | refine blk_alloc ?_ _)); exact BK_gb.out)) : gb ≠ g11)); have NB_g11_gb := Aside0.mk NB_gb_g11.out.symm; clear BK_gb; have BK_gb := m_gb; clear m_gb; have m_g9 := Aside0.mk (blk_below (g := g9) (o := .cells #[.int .i64 0, .int .i64 0] 27 (0, 0)) (by (with_reducible repeat (first | refine blk_drewN ?_ _ | refine blk_drew ?_ | refine blk_alloc ?_ _)); exact BK_g9.out) hb); have NB_g9_g11 := Aside0.mk ((by rw [hg]; exact Nat.ne_of_lt (blk_lt (g := g9) (o := .cells #[.int .i64 0, .int .i64 0] 27 (0, 0)) (by (with_reducible repeat (first | refine blk_drewN ?_ _ | refine blk_drew ?_ | refine blk_alloc ?_ _)); exact BK_g9.out)) : g9 ≠ g11)); have NB_g11_g9 := Aside0.mk NB_g9_g11.out.symm; clear BK_g9; have BK_g9 := m_g9; clear m_g9; clear HB; have HB := n0_; clear n0_ hb hbox hg; have q_g11_gb := NB_g11_gb.out; have q_gb_g11 := NB_gb_g11.out; (try clear hc0_gb hc1_gb hf0_gb hf1_gb); have hc0_gb : w24.cell? ⟨gb, 0, none⟩ = some (.int .i64 0) := (blk_cell BK_gb.out 0).trans rfl; have hc1_gb : w24.cell? ⟨gb, 1, none⟩ = some (.int .i64 e2) := (blk_cell BK_gb.out 1).trans rfl; have hf0_gb := blk_frozen BK_gb.out 0; have hf1_gb := blk_frozen BK_gb.out 1; have q_g11_g9 := NB_g11_g9.out; have q_g9_g11 := NB_g9_g11.out; (try clear hc0_g9 hc1_g9 hf0_g9 hf1_g9); have hc0_g9 : w24.cell? ⟨g9, 0, none⟩ = some (.int .i64 0) := (blk_cell BK_g9.out 0).trans rfl; have hc1_g9 : w24.cell? ⟨g9, 1, none⟩ = some (.int .i64 0) := (blk_cell BK_g9.out 1).trans rfl; have hf0_g9 := blk_frozen BK_g9.out 0; have hf1_g9 := blk_frozen BK_g9.out 1; have hc0_g11 : w24.cell? ⟨g11, 0, none⟩ = some (.int .i64 0) := (blk_cell BK_g11.out 0).trans rfl; have hc1_g11 : w24.cell? ⟨g11, 1, none⟩ = some (.int .i64 0) := (blk_cell BK_g11.out 1).trans rfl; have hf0_g11 := blk_frozen BK_g11.out 0; have hf1_g11 := blk_frozen BK_g11.out 1))
            go_roundw
            case rel => exact ⟨n + 1, by omega, by go_num, ⟨by refine blk_far ?_ NB_gb_g11.out _; refine blk_far ?_ NB_gb_g11.out _; exact BK_gb.out⟩, ⟨by repeat (first | (with_reducible first | exact HB.out | apply below_alloc | apply pw_below_drewN | apply below_drew1 | refine below_set ?_ GE_g11.out) | exact HB.out)⟩⟩
            case measure => simp [intOf]; omega
          · go_wp2_with (fail)
            go_ret
            exact ⟨rfl, below_step HBw.out HB.out⟩
      · have e1b : (e1 == 0) = false := beq_eq_false_iff_ne.2 he
        have e3b : (e3 == 0) = false := beq_eq_false_iff_ne.2 (fun h => he (H13.out.2 h))
        clear he
        go_wp2_with (first | ((with_reducible refine gate_dst (N := 5) rfl ?_); refine box_event ?hg (N := 5) ?hd (cs := #[.int .i64 0, .int .i64 0]) (t := 27) ?hr ?_; (case hd => rfl); (case hg => rfl); (case hr => first | (go_simp; done) | (go_simp; rfl)); intro gb hg w11 hbox hb; have n0_ := Aside0.mk (below_step (by repeat (first | (with_reducible first | exact HB.out | apply below_alloc | apply pw_below_drewN | apply below_drew1) | exact HB.out)) hb); have BK_gb := Aside0.mk hbox; have GE_gb := Aside0.mk ((by rw [hg]; exact (below_size (by repeat (first | (with_reducible first | exact HB.out | apply below_alloc | apply pw_below_drewN | apply below_drew1) | exact HB.out)))) : w9.heap.size ≤ gb); clear HB; have HB := n0_; clear n0_ hb hbox hg; have hc0_gb : w11.cell? ⟨gb, 0, none⟩ = some (.int .i64 0) := (blk_cell BK_gb.out 0).trans rfl; have hc1_gb : w11.cell? ⟨gb, 1, none⟩ = some (.int .i64 0) := (blk_cell BK_gb.out 1).trans rfl; have hf0_gb := blk_frozen BK_gb.out 0; have hf1_gb := blk_frozen BK_gb.out 1) | ((with_reducible refine gate_dst (N := 6) rfl ?_); refine box_event ?hg (N := 6) ?hd (cs := #[.int .i64 0, .int .i64 0]) (t := 27) ?hr ?_; (case hd => rfl); (case hg => rfl); (case hr => first | (go_simp; done) | (go_simp; rfl)); intro gb2 hg w12 hbox hb; have n0_ := Aside0.mk (below_step (by repeat (first | (with_reducible first | exact HB.out | apply below_alloc | apply pw_below_drewN | apply below_drew1 | refine below_set ?_ GE_gb.out) | exact HB.out)) hb); have BK_gb2 := Aside0.mk hbox; have GE_gb2 := Aside0.mk ((by rw [hg]; exact (below_size (by repeat (first | (with_reducible first | exact HB.out | apply below_alloc | apply pw_below_drewN | apply below_drew1 | refine below_set ?_ GE_gb.out) | exact HB.out)))) : w9.heap.size ≤ gb2); have m_gb := Aside0.mk (blk_below (g := gb) (o := .cells #[.int .i64 0, .int .i64 0] 27 (0, 0)) (by (with_reducible repeat (first | refine blk_drewN ?_ _ | refine blk_drew ?_ | refine blk_alloc ?_ _)); exact BK_gb.out) hb); have NB_gb_gb2 := Aside0.mk ((by rw [hg]; exact Nat.ne_of_lt (blk_lt (g := gb) (o := .cells #[.int .i64 0, .int .i64 0] 27 (0, 0)) (by (with_reducible repeat (first | refine blk_drewN ?_ _ | refine blk_drew ?_ | refine blk_alloc ?_ _)); exact BK_gb.out)) : gb ≠ gb2)); have NB_gb2_gb := Aside0.mk NB_gb_gb2.out.symm; clear BK_gb; have BK_gb := m_gb; clear m_gb; clear HB; have HB := n0_; clear n0_ hb hbox hg; have q_gb2_gb := NB_gb2_gb.out; have q_gb_gb2 := NB_gb_gb2.out; (try clear hc0_gb hc1_gb hf0_gb hf1_gb); have hc0_gb : w12.cell? ⟨gb, 0, none⟩ = some (.int .i64 0) := (blk_cell BK_gb.out 0).trans rfl; have hc1_gb : w12.cell? ⟨gb, 1, none⟩ = some (.int .i64 0) := (blk_cell BK_gb.out 1).trans rfl; have hf0_gb := blk_frozen BK_gb.out 0; have hf1_gb := blk_frozen BK_gb.out 1; have hc0_gb2 : w12.cell? ⟨gb2, 0, none⟩ = some (.int .i64 0) := (blk_cell BK_gb2.out 0).trans rfl; have hc1_gb2 : w12.cell? ⟨gb2, 1, none⟩ = some (.int .i64 0) := (blk_cell BK_gb2.out 1).trans rfl; have hf0_gb2 := blk_frozen BK_gb2.out 0; have hf1_gb2 := blk_frozen BK_gb2.out 1))
        have n0_ : Aside0 (((((w12.setCell ⟨gb, 0, none⟩ (.int .i64 e1)).setCell ⟨gb, 1, none⟩ (.int .i64 e2)).setCell ⟨gb2, 0, none⟩ (.int .i64 e3)).setCell ⟨gb2, 1, none⟩ (.int .i64 e4)).heap[gb]? = some (.cells #[.int .i64 e1, .int .i64 e2] 27 (0, 0))) := ⟨by refine blk_far ?_ NB_gb_gb2.out _; refine blk_far ?_ NB_gb_gb2.out _; refine blk_put (cs := #[.int .i64 e1, .int .i64 0]) ?_ 1 _ rfl; refine blk_put (cs := #[.int .i64 0, .int .i64 0]) ?_ 0 _ rfl; exact BK_gb.out⟩
        have n1_ : Aside0 (Below w9.heap.size w9 ((((w12.setCell ⟨gb, 0, none⟩ (.int .i64 e1)).setCell ⟨gb, 1, none⟩ (.int .i64 e2)).setCell ⟨gb2, 0, none⟩ (.int .i64 e3)).setCell ⟨gb2, 1, none⟩ (.int .i64 e4))) := ⟨by repeat (first | (with_reducible first | exact HB.out | apply below_alloc | apply pw_below_drewN | apply below_drew1 | refine below_set ?_ GE_gb.out | refine below_set ?_ GE_gb2.out) | exact HB.out)⟩
        clear BK_gb HB BK_gb2 hc0_gb hc1_gb hf0_gb hf1_gb hc0_gb2 hc1_gb2 hf0_gb2 hf1_gb2
        generalize ((((w12.setCell ⟨gb, 0, none⟩ (.int .i64 e1)).setCell ⟨gb, 1, none⟩ (.int .i64 e2)).setCell ⟨gb2, 0, none⟩ (.int .i64 e3)).setCell ⟨gb2, 1, none⟩ (.int .i64 e4)) = w13 at n0_ n1_ ⊢
        have BK := n0_
        have HB := n1_
        clear n0_ n1_
        go_loopw [7] (fun v W => ∃ n : Nat, n ≤ l0.length ∧ v = .int .i64 n ∧ Aside0 (W.heap[gb]? = some (.cells #[.int .i64 e1, .int .i64 e2] 27 (0, 0))) ∧ Aside0 (Below w9.heap.size w9 W)) (fun v _ => l0.length - (intOf v).toNat)
        case atStart => exact ⟨0, Nat.zero_le _, rfl, BK, HB⟩
        case round =>
          clear BK HB
          obtain ⟨n, hn', rfl, BK_gb, HB⟩ := hrel
          have hc0_gb : wr.cell? ⟨gb, 0, none⟩ = some (.int .i64 e1) := (blk_cell BK_gb.out 0).trans rfl
          have hc1_gb : wr.cell? ⟨gb, 1, none⟩ = some (.int .i64 e2) := (blk_cell BK_gb.out 1).trans rfl
          have hf0_gb := blk_frozen BK_gb.out 0
          have hf1_gb := blk_frozen BK_gb.out 1
          by_cases hlt : n < l0.length
          · go_wp2_with (fail)
            go_ret
            exact ⟨rfl, below_step HBw.out HB.out⟩
          · go_wp2_with (fail)
            go_ret
            exact ⟨rfl, below_step HBw.out HB.out⟩
/-- What the walk wants of a table. -/
def order_ok (k : Nat) (l0 : List S54) : Prop := l0.length * 48 ≤ 140737488351232 ∧ linkhouselaw1_isaExample.f k = some true ∧ ∃ e1 e2 e3 e4 : Int, isa_Validate.f k l0 = some (e1, e2) ∧ isa_Validate.f k l0.reverse = some (e3, e4) ∧ (e1 = 0 ↔ e3 = 0) ∧
  (e1 = 0 → ∀ i : Nat, i < l0.length → ∃ n : Int, 1 ≤ n ∧ isa_Size.f k l0 i = some (n, 0, 0) ∧ isa_Size.f k l0.reverse ((l0.length : Int) - 1 - i) = some (n, 0, 0))
theorem linkhouselaw1_IsaOrderIrrelevant.calls (k : Nat) (A0 : Option Addr) (c0 : Nat) (l0 : List (S54)) (r : Bool) (w : World) (hr0 : Kd.C k54 w A0 l0.length l0) (hc0 : l0.length ≤ c0) (hT : r = true) (h : order_ok k l0) :
    Calls Try.prog 11 #[.slice A0 l0.length c0] w fun e w' => e = .returned (.bool r) ∧ Below w.heap.size w w' := by
  subst hT
  obtain ⟨hn, hex, e1, e2, e3, e4, hv1, hv2, h13, hs⟩ := h
  exact order_calls k A0 c0 l0 e1 e2 e3 e4 w hr0 hc0 hn hex hv1 hv2 h13 hs
end Go.Proofs.Ytipjpdiianopcaa.Co
