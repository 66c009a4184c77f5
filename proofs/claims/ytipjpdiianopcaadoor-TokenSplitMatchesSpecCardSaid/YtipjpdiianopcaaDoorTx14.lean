/- Functions of the program as plain Lean functions, each with a proof that the call of the Go function answers as it does. -/
import Derived.Test.YtipjpdiianopcaaDoorTx0
import Derived.Test.YtipjpdiianopcaaDoorTx1
import Derived.Test.YtipjpdiianopcaaDoorTx7
import Derived.Test.YtipjpdiianopcaaDoorTx8
import Derived.Test.YtipjpdiianopcaaDoorTx12
import Derived.Test.YtipjpdiianopcaaDoorTx13
namespace Go.Proofs.YtipjpdiianopcaaDoor.A
open Go.RowKit Go.Proofs.YtipjpdiianopcaaW.PrintWords Go.Proofs.YtipjpdiianopcaaW.PrintLast Go.Proofs.YtipjpdiianopcaaW.PrintMore Go.Proofs.YtipjpdiianopcaaDoor.A Go.Proofs.YtipjpdiianopcaaDoor.Ct
attribute [local go_sem] max2_int min2_int max_two min_two max_three min_three max_four min_four   -- for this text's walks alone
set_option linter.unusedVariables false
set_option linter.unusedSimpArgs false

attribute [local go_sem high] eqA25
/-! ### linkhouselaw1_TokenSplitMatchesSpec: function 3 -/
def linkhouselaw1_TokenSplitMatchesSpec.f (k : Nat) (a0 : ByteArray) : Option (Bool) := (linkhouselaw1_tokenExample.f k).bind fun t249 => (if t249 = true then ((token_Split.f k a0).bind fun bt250 => (if (a0.size : Int) > 8000 then ((linkhouseref1_At.f 2 (-1)).bind fun bt256 => (if (bt250.2.1 == bt256.1 && (bt250.2.2 == bt256.2)) = true then (some ((bt250.1.length : Int) == 0)) else (some false))) else ((linkhouseref1_Tokens.f k a0).bind fun bt258 => (if bt258.2 ≥ 0 then ((linkhouseref1_At.f 1 bt258.2).bind fun bt262 => (if (bt250.2.1 == bt262.1 && (bt250.2.2 == bt262.2)) = true then (some ((bt250.1.length : Int) == 0)) else (some false))) else (if bt250.2.1 = 0 then ((linkhouseref1_SameTokens.f k bt250.1 bt258.1 true).bind fun t264 => (some t264)) else (some false)))))) else (some false))
theorem linkhouselaw1_TokenSplitMatchesSpec.mono : ∀ a0 k, LeO (linkhouselaw1_TokenSplitMatchesSpec.f k a0) (linkhouselaw1_TokenSplitMatchesSpec.f (k + 1) a0) := by
  intro a0 k
  unfold linkhouselaw1_TokenSplitMatchesSpec.f
  repeat' first
      | (with_reducible exact linkhouselaw1_tokenExample.mono _)
      | (with_reducible exact linkhouseref1_SameTokens.mono _ _ _ _)
      | (with_reducible exact linkhouseref1_Tokens.mono _ _)
      | (with_reducible exact token_Split.mono _ _)
      | (with_reducible exact LeO.refl _)
      | (with_reducible exact LeO.none _)
      | (with_reducible refine LeO.ite ?_ ?_)
      | (with_reducible refine LeO.bind ?_ (fun _ => ?_))
      | exact linkhouselaw1_tokenExample.mono _
      | exact linkhouseref1_SameTokens.mono _ _ _ _
      | exact linkhouseref1_Tokens.mono _ _
      | exact token_Split.mono _ _
      | exact LeO.none _
      | refine LeO.ite ?_ ?_
      | refine LeO.bind ?_ (fun _ => ?_)
def linkhouselaw1_TokenSplitMatchesSpec.T5 : Bool × List (List Nat × List Nat) := (true, [([], []), ([], []), ([0, 1], [0, 1]), ([2, 1], [2]), ([3], [3]), ([4, 3], [3, 4]), ([5, 3], [3, 5]), ([3, 6], [3, 6]), ([7, 3, 0, 1, 2, 3, 4, 5, 6, 7], [7])])
def linkhouselaw1_TokenSplitMatchesSpec.B5 : List Nat := [0, 0, 3, 7, 15, 31, 63, 127, 255]
theorem linkhouselaw1_TokenSplitMatchesSpec.tab5 : rtab .any (opsOf Tryd.f3 5) = linkhouselaw1_TokenSplitMatchesSpec.T5 := by kernel_rfl
theorem linkhouselaw1_TokenSplitMatchesSpec.bits5 : waitsOk linkhouselaw1_TokenSplitMatchesSpec.T5.2 linkhouselaw1_TokenSplitMatchesSpec.B5 = true := by kernel_rfl
def linkhouselaw1_TokenSplitMatchesSpec.T8 : Bool × List (List Nat × List Nat) := (true, [([], []), ([], []), ([1], [1]), ([0, 2], [0, 2]), ([3, 2], [3]), ([4], [4]), ([5, 4], [4, 5]), ([6, 4], [4, 6]), ([4, 7], [4, 7]), ([8, 4, 0, 1, 2, 3, 4, 5, 6, 7, 8], [8])])
def linkhouselaw1_TokenSplitMatchesSpec.B8 : List Nat := [0, 0, 2, 7, 15, 31, 63, 127, 255, 511]
theorem linkhouselaw1_TokenSplitMatchesSpec.tab8 : rtab .any (opsOf Tryd.f3 8) = linkhouselaw1_TokenSplitMatchesSpec.T8 := by kernel_rfl
theorem linkhouselaw1_TokenSplitMatchesSpec.bits8 : waitsOk linkhouselaw1_TokenSplitMatchesSpec.T8.2 linkhouselaw1_TokenSplitMatchesSpec.B8 = true := by kernel_rfl
set_option maxHeartbeats 8000000 in
set_option maxRecDepth 100000 in
theorem linkhouselaw1_TokenSplitMatchesSpec.calls (k : Nat) (a0 : ByteArray) (r : Bool) (w : World) (hT : r = true) (h : linkhouselaw1_TokenSplitMatchesSpec.f k a0 = some r) (hG : GS w := by exact GS.below HGS.out (by repeat (first | (with_reducible first | exact HB.out | apply below_alloc | apply pw_below_drewN | apply below_drew1 | refine below_set ?_ (Aside0.out (by assumption))) | exact HB.out))) :
    Calls Tryd.prog 3 #[.string a0] w fun e w' => e = .returned (.bool r) ∧ Below w.heap.size w w' := by
  have HGS := Aside0.mk hG
  clear hG
  have hu25 := Tryd.underlying25
  have HT := Aside0.mk hT
  clear hT
  have HB := Aside0.mk (Below.refl w.heap.size w)
  have H : ((linkhouselaw1_tokenExample.f k).bind fun t249 => (if t249 = true then ((token_Split.f k a0).bind fun bt250 => (if (a0.size : Int) > 8000 then ((linkhouseref1_At.f 2 (-1)).bind fun bt256 => (if (bt250.2.1 == bt256.1 && (bt250.2.2 == bt256.2)) = true then (some ((bt250.1.length : Int) == 0)) else (some false))) else ((linkhouseref1_Tokens.f k a0).bind fun bt258 => (if bt258.2 ≥ 0 then ((linkhouseref1_At.f 1 bt258.2).bind fun bt262 => (if (bt250.2.1 == bt262.1 && (bt250.2.2 == bt262.2)) = true then (some ((bt250.1.length : Int) == 0)) else (some false))) else (if bt250.2.1 = 0 then ((linkhouseref1_SameTokens.f k bt250.1 bt258.1 true).bind fun t264 => (some t264)) else (some false)))))) else (some false))) = some r := h
  clear h
  replace H := Option.bind_eq_some_iff.mp H
  obtain ⟨t249, A20, H⟩ := H
  replace H : (if t249 = true then ((token_Split.f k a0).bind fun bt250 => (if (a0.size : Int) > 8000 then ((linkhouseref1_At.f 2 (-1)).bind fun bt256 => (if (bt250.2.1 == bt256.1 && (bt250.2.2 == bt256.2)) = true then (some ((bt250.1.length : Int) == 0)) else (some false))) else ((linkhouseref1_Tokens.f k a0).bind fun bt258 => (if bt258.2 ≥ 0 then ((linkhouseref1_At.f 1 bt258.2).bind fun bt262 => (if (bt250.2.1 == bt262.1 && (bt250.2.2 == bt262.2)) = true then (some ((bt250.1.length : Int) == 0)) else (some false))) else (if bt250.2.1 = 0 then ((linkhouseref1_SameTokens.f k bt250.1 bt258.1 true).bind fun t264 => (some t264)) else (some false)))))) else (some false)) = some r := H
  have A2 := Aside0.mk A20
  clear A20
  by_cases c3 : t249 = true
  · subst c3
    have H1 : ((token_Split.f k a0).bind fun bt250 => (if (a0.size : Int) > 8000 then ((linkhouseref1_At.f 2 (-1)).bind fun bt256 => (if (bt250.2.1 == bt256.1 && (bt250.2.2 == bt256.2)) = true then (some ((bt250.1.length : Int) == 0)) else (some false))) else ((linkhouseref1_Tokens.f k a0).bind fun bt258 => (if bt258.2 ≥ 0 then ((linkhouseref1_At.f 1 bt258.2).bind fun bt262 => (if (bt250.2.1 == bt262.1 && (bt250.2.2 == bt262.2)) = true then (some ((bt250.1.length : Int) == 0)) else (some false))) else (if bt250.2.1 = 0 then ((linkhouseref1_SameTokens.f k bt250.1 bt258.1 true).bind fun t264 => (some t264)) else (some false)))))) = some r := by rw [if_pos rfl] at H; exact H
    clear H
    have H := H1
    clear H1
    replace H := Option.bind_eq_some_iff.mp H
    obtain ⟨⟨t250, t253, t254⟩, A40, H⟩ := H
    replace H : (if (a0.size : Int) > 8000 then ((linkhouseref1_At.f 2 (-1)).bind fun bt256 => (if (t253 == bt256.1 && (t254 == bt256.2)) = true then (some ((t250.length : Int) == 0)) else (some false))) else ((linkhouseref1_Tokens.f k a0).bind fun bt258 => (if bt258.2 ≥ 0 then ((linkhouseref1_At.f 1 bt258.2).bind fun bt262 => (if (t253 == bt262.1 && (t254 == bt262.2)) = true then (some ((t250.length : Int) == 0)) else (some false))) else (if t253 = 0 then ((linkhouseref1_SameTokens.f k t250 bt258.1 true).bind fun t264 => (some t264)) else (some false))))) = some r := H
    have A4 := Aside0.mk A40
    clear A40
    by_cases c5 : (a0.size : Int) > 8000
    · rw [if_pos c5] at H
      have c5b0 : decide (8000 < (a0.size : Int)) = true := decide_eq_true c5
      have c5b1 : decide (8000 < a0.size) = true := decide_eq_true (by omega)
      clear c5
      replace H := Option.bind_eq_some_iff.mp H
      obtain ⟨⟨t256, t257⟩, A60, H⟩ := H
      replace H : (if (t253 == t256 && (t254 == t257)) = true then (some ((t250.length : Int) == 0)) else (some false)) = some r := H
      have A6 := Aside0.mk A60
      clear A60
      by_cases c7 : (t253 == t256 && (t254 == t257)) = true
      · rw [if_pos c7] at H
        have c7b0 : (t253 == t256 && (t254 == t257)) = true := c7
        (try (have c7b1 : decide (t253 = t256 && (t254 == t257)) = true := by simpa using c7))
        (try (have c7b2 : (t253 == t256 && (t254 == t257)) = true := by simpa using c7))
        clear c7
        obtain rfl := Option.some.inj H
        go_enter Tryd.func3, Tryd.ntmps3
        try go_wp2_with (first | ((with_reducible refine gate_callee (f := 6) rfl ?_); refine goesL_ (some 7) rfl rfl Tryd.func6 (by kernel_rfl) rfl #[] rfl (by (try simp only [List.map_toArray, List.map_cons, List.map_nil]); first | done | rfl | (simp only [List.length_drop, List.length_take]; rfl)) ?_; (with_reducible refine (linkhouselaw1_tokenExample.calls k  true _ rfl A2.out).mono ?_); rintro e w8 ⟨rfl, hb⟩; refine ⟨_, rfl, ?_⟩; have n0_ := Aside0.mk (below_step (by repeat (first | (with_reducible first | exact HB.out | apply below_alloc | apply pw_below_drewN | apply below_drew1) | exact HB.out)) hb); clear HB; have HB := n0_; clear n0_; (try clear hb); (try clear hb2); (try clear hk); (try clear hi)) | ((with_reducible refine gate_callee (f := 7) rfl ?_); refine goesL_ (some 11) rfl rfl Tryd.func7 (by kernel_rfl) rfl #[.string a0] rfl (by (try simp only [List.map_toArray, List.map_cons, List.map_nil]); first | done | rfl | (simp only [List.length_drop, List.length_take]; rfl)) ?_; (with_reducible refine (token_Split.calls k a0 t250 t253 t254 _ A4.out).mono ?_); rintro e w9 ⟨v251, rfl, ho0, hb⟩; refine ⟨_, rfl, ?_⟩; have n0_ := Aside0.mk (Kd.R_lower ho0 (below_size (by repeat (first | (with_reducible first | exact HB.out | apply below_alloc | apply pw_below_drewN | apply below_drew1) | exact HB.out)))); have n1_ := Aside0.mk (below_step (by repeat (first | (with_reducible first | exact HB.out | apply below_alloc | apply pw_below_drewN | apply below_drew1) | exact HB.out)) hb); clear HB; have HO252 := n0_; have HB := n1_; clear n0_ n1_; (try clear hb); (try clear hb2); (try clear hk); (try clear hi); (try clear ho0)) | ((with_reducible refine gate_dst (N := 4) rfl ?_); (try (refine gate_guard (by rfl) ?_; dsimp only)); refine box_event ?hg (N := 4) ?hd (cs := #[.int .i64 0, .int .i64 0]) (t := 25) ?hr ?_; (case hd => rfl); (case hg => rfl); (case hr => first | (go_simp; done) | (go_simp; rfl)); intro gb255 hg w10 hbox hb; have n0_ := Aside0.mk (Kd.R_below (by (with_reducible repeat (first | apply Kd.R_alloc | apply Kd.R_drewN | apply Kd.R_drew)); exact HO252.out) hb); have n1_ := Aside0.mk (below_step (by repeat (first | (with_reducible first | exact HB.out | apply below_alloc | apply pw_below_drewN | apply below_drew1) | exact HB.out)) hb); have n2_ := Aside0.mk (hbox); have n3_ := Aside0.mk ((by rw [hg]; exact (below_size (by repeat (first | (with_reducible first | exact HB.out | apply below_alloc | apply pw_below_drewN | apply below_drew1) | exact HB.out))) : w.heap.size ≤ gb255)); have n4_ := Aside0.mk ((by rw [hg]; exact (below_size (by repeat (first | (with_reducible first | exact HB.out | apply below_alloc | apply pw_below_drewN | apply below_drew1) | exact HB.out))) : w.heap.size ≤ gb255)); clear HO252; clear HB; have HO252 := n0_; have HB := n1_; have BK255 := n2_; have GW255 := n3_; have GE255 := n4_; clear n0_ n1_ n2_ n3_ n4_; clear hb hbox hg; have hcz11_0 : w10.cell? ⟨gb255, 0, none⟩ = some (.int .i64 0) := (blk_cell BK255.out 0).trans rfl; have hcz11_1 : w10.cell? ⟨gb255, 1, none⟩ = some (.int .i64 0) := (blk_cell BK255.out 1).trans rfl; have hfz11_0 := blk_frozen BK255.out 0; have hfz11_1 := blk_frozen BK255.out 1))
        have n0_ : Aside0 (Kd.R k53 53 ((w10.setCell ⟨gb255, 0, none⟩ (.int .i64 t253)).setCell ⟨gb255, 1, none⟩ (.int .i64 t254)) w.heap.size (fun _ => True) v251 t250) := ⟨by (with_reducible repeat (first | apply Kd.R_alloc | apply Kd.R_drewN | apply Kd.R_drew)); exact Kd.R_mono (Kd.R_far (p := ⟨gb255, 1, none⟩) (Kd.R_far (p := ⟨gb255, 0, none⟩) (Kd.R_types HO252.out BK255.out (by decide)) (fun _ hk => hk.2) (.int .i64 t253)) (fun _ hk => hk.2) (.int .i64 t254)) (fun _ hk => trivial)⟩
        have n1_ : Aside0 (((w10.setCell ⟨gb255, 0, none⟩ (.int .i64 t253)).setCell ⟨gb255, 1, none⟩ (.int .i64 t254)).heap[gb255]? = some (.cells #[.int .i64 t253, .int .i64 t254] 25 (0, 0))) := ⟨by (with_reducible repeat (first | refine blk_drewN ?_ _ | refine blk_drew ?_ | refine blk_alloc ?_ _)); refine blk_put (cs := #[.int .i64 t253, .int .i64 0]) ?_ 1 _ rfl; (with_reducible repeat (first | refine blk_drewN ?_ _ | refine blk_drew ?_ | refine blk_alloc ?_ _)); refine blk_put (cs := #[.int .i64 0, .int .i64 0]) ?_ 0 _ rfl; (with_reducible repeat (first | refine blk_drewN ?_ _ | refine blk_drew ?_ | refine blk_alloc ?_ _)); exact BK255.out⟩
        have n2_ : Aside0 (Below w.heap.size w ((w10.setCell ⟨gb255, 0, none⟩ (.int .i64 t253)).setCell ⟨gb255, 1, none⟩ (.int .i64 t254))) := ⟨by repeat (first | (with_reducible first | exact HB.out | apply below_alloc | apply pw_below_drewN | apply below_drew1 | refine below_set ?_ GE255.out) | exact HB.out)⟩
        (try clear HO252)
        (try clear BK255)
        (try clear HB)
        generalize ((w10.setCell ⟨gb255, 0, none⟩ (.int .i64 t253)).setCell ⟨gb255, 1, none⟩ (.int .i64 t254)) = w12 at n0_ n1_ n2_ ⊢
        have HO252 := n0_
        have BK255 := n1_
        have HB := n2_
        clear n0_ n1_ n2_
        have n0_ := Aside0.mk (Kd.R_drew HO252.out)
        have n1_ := Aside0.mk (blk_drew BK255.out)
        have n2_ := Aside0.mk (below_drew1 HB.out)
        clear HO252
        clear BK255
        clear HB
        have HO252 := n0_
        have BK255 := n1_
        have HB := n2_
        clear n0_ n1_ n2_
        refine start_ (n := 9) (S := fun w' => w'.cell? ⟨gb255, 0, none⟩ = some (.int .i64 t253) ∧ w'.cell? ⟨gb255, 1, none⟩ = some (.int .i64 t254)) (ds := []) #[false, false, false, false, false, false, false, false, false] (by kernel_rfl) rfl rfl ⟨(blk_cell BK255.out 0).trans rfl, (blk_cell BK255.out 1).trans rfl⟩ (fun hHeld => ?_); refine with_tabW linkhouselaw1_TokenSplitMatchesSpec.tab5 linkhouselaw1_TokenSplitMatchesSpec.bits5 (fun HT_ HW_ => ?_)
        generalize w12.drew = w13 at HO252 BK255 HB hHeld ⊢
        refine take_ (i := 0) (N := some 17) (v := ?_) (a' := ?_) #[true, false, false, false, false, false, false, false, false] rfl rfl (take_ofW HT_.out HW_.out (by kernel_rfl)) (fun _ _ _ h => h) (Or.inl ⟨by rfl, ?_⟩) hHeld ?_ ?_
        rotate_left
        · rintro w' ⟨s0, s1⟩
          go_simp
          with_reducible rfl
        rotate_left
        · simp only [Act.put, List.setIfInBounds_toArray, List.set_cons_zero, List.set_cons_succ, i64_w, i32_w]
          rfl
        refine one_ (i := 1) (N := some 18) #[true, true, false, false, false, false, false, false, false] rfl rfl (one_of HT_.out (by kernel_rfl)) (by decide) (fun K hK => ?_)
        refine goes_ Tryd.func8 (by kernel_rfl) rfl #[.int .i64 2, .int .i64 (-1)] (by rfl) rfl rfl (by (try simp only [List.map_toArray, List.map_cons, List.map_nil]); first | done | rfl | (simp only [List.length_drop, List.length_take]; rfl)) ?_
        with_reducible refine (linkhouseref1_At.calls 2 (-1) t256 t257 _ A6.out).mono ?_
        rintro e w14 ⟨rfl, hb⟩
        refine ⟨_, rfl, ?_⟩
        have n0_ := Aside0.mk (Kd.R_below (by (with_reducible repeat (first | apply Kd.R_alloc | apply Kd.R_drewN | apply Kd.R_drew)); exact HO252.out) hb)
        have n1_ := Aside0.mk (blk_below (g := gb255) (o := .cells #[.int .i64 t253, .int .i64 t254] 25 (0, 0)) (by (with_reducible repeat (first | refine blk_drewN ?_ _ | refine blk_drew ?_ | refine blk_alloc ?_ _)); exact BK255.out) hb)
        have n2_ := Aside0.mk (below_step (by repeat (first | (with_reducible first | exact HB.out | apply below_alloc | apply pw_below_drewN | apply below_drew1 | refine below_set ?_ GE255.out) | exact HB.out)) hb)
        clear HO252
        clear BK255
        clear HB
        have HO252 := n0_
        have BK255 := n1_
        have HB := n2_
        clear n0_ n1_ n2_
        (try clear hb)
        (try clear hb2)
        (try clear hk)
        (try clear hi)
        obtain ⟨Ao15, co15, eo15⟩ := Kd.R_slice HO252.out
        (first | subst eo15 | (injection eo15 with f1_ f2_ f3_; have f4_ := f1_.symm; have f5_ := f3_.symm; clear f1_ f2_ f3_; subst f4_; subst f5_))
        refine hK.out _ _ ⟨(blk_cell BK255.out 0).trans rfl, (blk_cell BK255.out 1).trans rfl⟩ (fun hHeld => ?_)
        clear hK K
        refine norm_ (a' := ?_) ?_ ?_
        rotate_left
        · show Act.put _ (some 18) _ = _
          simp only [Act.put, List.setIfInBounds_toArray, List.set_cons_zero, List.set_cons_succ, i64_w, i32_w]
          rfl
        refine pure_ (i := 2) (N := some 19) (v := ?_) (a' := ?_) #[true, true, true, false, false, false, false, false, false] rfl rfl (any_of HT_.out (by kernel_rfl)) (fun _ _ _ h => h) (Or.inl ⟨by rfl, ?_⟩) ?_ ?_
        rotate_left
        · intro w'
          go_simp
          with_reducible rfl
        rotate_left
        · simp only [Act.put, List.setIfInBounds_toArray, List.set_cons_zero, List.set_cons_succ, i64_w, i32_w]
          rfl
        refine pure_ (i := 3) (N := some 20) (v := ?_) (a' := ?_) #[true, true, true, true, false, false, false, false, false] rfl rfl (any_of HT_.out (by kernel_rfl)) (fun _ _ _ h => h) (Or.inl ⟨by rfl, ?_⟩) ?_ ?_
        rotate_left
        · intro w'
          go_simp
          with_reducible rfl
        rotate_left
        · simp only [Act.put, List.setIfInBounds_toArray, List.set_cons_zero, List.set_cons_succ, i64_w, i32_w]
          rfl
        refine pure_ (i := 4) (N := some 21) (v := ?_) (a' := ?_) #[true, true, true, true, true, false, false, false, false] rfl rfl (any_of HT_.out (by kernel_rfl)) (fun _ _ _ h => h) (Or.inl ⟨by rfl, ?_⟩) ?_ ?_
        rotate_left
        · intro w'
          go_simp
          with_reducible rfl
        rotate_left
        · simp only [Act.put, List.setIfInBounds_toArray, List.set_cons_zero, List.set_cons_succ, i64_w, i32_w]
          rfl
        refine pure_ (i := 5) (N := some 22) (v := ?_) (a' := ?_) #[true, true, true, true, true, true, false, false, false] rfl rfl (any_of HT_.out (by kernel_rfl)) (fun _ _ _ h => h) (Or.inl ⟨by rfl, ?_⟩) ?_ ?_
        rotate_left
        · intro w'
          go_simp
          with_reducible rfl
        rotate_left
        · simp only [Act.put, List.setIfInBounds_toArray, List.set_cons_zero, List.set_cons_succ, i64_w, i32_w]
          rfl
        refine pure_ (i := 6) (N := some 23) (v := ?_) (a' := ?_) #[true, true, true, true, true, true, true, false, false] rfl rfl (any_of HT_.out (by kernel_rfl)) (fun _ _ _ h => h) (Or.inl ⟨by rfl, ?_⟩) ?_ ?_
        rotate_left
        · intro w'
          go_simp
          with_reducible rfl
        rotate_left
        · simp only [Act.put, List.setIfInBounds_toArray, List.set_cons_zero, List.set_cons_succ, i64_w, i32_w]
          rfl
        refine pure_ (i := 7) (N := some 24) (v := ?_) (a' := ?_) #[true, true, true, true, true, true, true, true, false] rfl rfl (any_of HT_.out (by kernel_rfl)) (fun _ _ _ h => h) (Or.inl ⟨by rfl, ?_⟩) ?_ ?_
        rotate_left
        · intro w'
          go_simp
          with_reducible rfl
        rotate_left
        · simp only [Act.put, List.setIfInBounds_toArray, List.set_cons_zero, List.set_cons_succ, i64_w, i32_w]
          rfl
        refine pure_ (i := 8) (N := some 2) (v := ?_) (a' := ?_) #[true, true, true, true, true, true, true, true, true] rfl rfl (any_of HT_.out (by kernel_rfl)) (fun _ _ _ h => h) (Or.inl ⟨by rfl, ?_⟩) ?_ ?_
        rotate_left
        · intro w'
          go_simp
          with_reducible rfl
        rotate_left
        · simp only [Act.put, List.setIfInBounds_toArray, List.set_cons_zero, List.set_cons_succ, i64_w, i32_w]
          rfl
        refine done_ (done_of HT_.out (by kernel_rfl)) ?_
        try go_wp2
        go_ret
        exact ⟨by first | rfl | (simp [errW_none, errW_some] <;> rfl) | (simp [*, errW_none, errW_some] <;> rfl), by repeat (first | (with_reducible first | exact HB.out | apply below_alloc | apply pw_below_drewN | apply below_drew1 | refine below_set ?_ GE255.out) | exact HB.out)⟩
      · rw [if_neg c7] at H
        have c7b0 : (t253 == t256 && (t254 == t257)) = false := by simpa using c7
        (try (have c7b1 : decide (t253 = t256 && (t254 == t257)) = false := by simpa using c7))
        (try (have c7b2 : (t253 == t256 && (t254 == t257)) = false := by simpa using c7))
        (try (have c7b3 : ¬ (t253 = t256 && (t254 == t257)) := by simpa using c7))
        clear c7
        exact absurd ((Option.some.inj H).trans HT.out) (by decide)
    · rw [if_neg c5] at H
      have c5b0 : decide (8000 < (a0.size : Int)) = false := decide_eq_false c5
      have c5b1 : decide (8000 < a0.size) = false := decide_eq_false (by omega)
      clear c5
      replace H := Option.bind_eq_some_iff.mp H
      obtain ⟨⟨t258, t259⟩, A160, H⟩ := H
      replace H : (if t259 ≥ 0 then ((linkhouseref1_At.f 1 t259).bind fun bt262 => (if (t253 == bt262.1 && (t254 == bt262.2)) = true then (some ((t250.length : Int) == 0)) else (some false))) else (if t253 = 0 then ((linkhouseref1_SameTokens.f k t250 t258 true).bind fun t264 => (some t264)) else (some false))) = some r := H
      have A16 := Aside0.mk A160
      clear A160
      by_cases c17 : t259 ≥ 0
      · rw [if_pos c17] at H
        have c17b0 : decide (0 ≤ t259) = true := decide_eq_true c17
        clear c17
        replace H := Option.bind_eq_some_iff.mp H
        obtain ⟨⟨t262, t263⟩, A180, H⟩ := H
        replace H : (if (t253 == t262 && (t254 == t263)) = true then (some ((t250.length : Int) == 0)) else (some false)) = some r := H
        have A18 := Aside0.mk A180
        clear A180
        by_cases c19 : (t253 == t262 && (t254 == t263)) = true
        · rw [if_pos c19] at H
          have c19b0 : (t253 == t262 && (t254 == t263)) = true := c19
          (try (have c19b1 : decide (t253 = t262 && (t254 == t263)) = true := by simpa using c19))
          (try (have c19b2 : (t253 == t262 && (t254 == t263)) = true := by simpa using c19))
          clear c19
          obtain rfl := Option.some.inj H
          go_enter Tryd.func3, Tryd.ntmps3
          try go_wp2_with (first | ((with_reducible refine gate_callee (f := 6) rfl ?_); refine goesL_ (some 7) rfl rfl Tryd.func6 (by kernel_rfl) rfl #[] rfl (by (try simp only [List.map_toArray, List.map_cons, List.map_nil]); first | done | rfl | (simp only [List.length_drop, List.length_take]; rfl)) ?_; (with_reducible refine (linkhouselaw1_tokenExample.calls k  true _ rfl A2.out).mono ?_); rintro e w20 ⟨rfl, hb⟩; refine ⟨_, rfl, ?_⟩; have n0_ := Aside0.mk (below_step (by repeat (first | (with_reducible first | exact HB.out | apply below_alloc | apply pw_below_drewN | apply below_drew1) | exact HB.out)) hb); clear HB; have HB := n0_; clear n0_; (try clear hb); (try clear hb2); (try clear hk); (try clear hi)) | ((with_reducible refine gate_callee (f := 7) rfl ?_); refine goesL_ (some 11) rfl rfl Tryd.func7 (by kernel_rfl) rfl #[.string a0] rfl (by (try simp only [List.map_toArray, List.map_cons, List.map_nil]); first | done | rfl | (simp only [List.length_drop, List.length_take]; rfl)) ?_; (with_reducible refine (token_Split.calls k a0 t250 t253 t254 _ A4.out).mono ?_); rintro e w21 ⟨v251, rfl, ho0, hb⟩; refine ⟨_, rfl, ?_⟩; have n0_ := Aside0.mk (Kd.R_lower ho0 (below_size (by repeat (first | (with_reducible first | exact HB.out | apply below_alloc | apply pw_below_drewN | apply below_drew1) | exact HB.out)))); have n1_ := Aside0.mk (below_step (by repeat (first | (with_reducible first | exact HB.out | apply below_alloc | apply pw_below_drewN | apply below_drew1) | exact HB.out)) hb); clear HB; have HO252 := n0_; have HB := n1_; clear n0_ n1_; (try clear hb); (try clear hb2); (try clear hk); (try clear hi); (try clear ho0)) | ((with_reducible refine gate_dst (N := 4) rfl ?_); (try (refine gate_guard (by rfl) ?_; dsimp only)); refine box_event ?hg (N := 4) ?hd (cs := #[.int .i64 0, .int .i64 0]) (t := 25) ?hr ?_; (case hd => rfl); (case hg => rfl); (case hr => first | (go_simp; done) | (go_simp; rfl)); intro gb255 hg w22 hbox hb; have n0_ := Aside0.mk (Kd.R_below (by (with_reducible repeat (first | apply Kd.R_alloc | apply Kd.R_drewN | apply Kd.R_drew)); exact HO252.out) hb); have n1_ := Aside0.mk (below_step (by repeat (first | (with_reducible first | exact HB.out | apply below_alloc | apply pw_below_drewN | apply below_drew1) | exact HB.out)) hb); have n2_ := Aside0.mk (hbox); have n3_ := Aside0.mk ((by rw [hg]; exact (below_size (by repeat (first | (with_reducible first | exact HB.out | apply below_alloc | apply pw_below_drewN | apply below_drew1) | exact HB.out))) : w.heap.size ≤ gb255)); have n4_ := Aside0.mk ((by rw [hg]; exact (below_size (by repeat (first | (with_reducible first | exact HB.out | apply below_alloc | apply pw_below_drewN | apply below_drew1) | exact HB.out))) : w.heap.size ≤ gb255)); clear HO252; clear HB; have HO252 := n0_; have HB := n1_; have BK255 := n2_; have GW255 := n3_; have GE255 := n4_; clear n0_ n1_ n2_ n3_ n4_; clear hb hbox hg; have hcz23_0 : w22.cell? ⟨gb255, 0, none⟩ = some (.int .i64 0) := (blk_cell BK255.out 0).trans rfl; have hcz23_1 : w22.cell? ⟨gb255, 1, none⟩ = some (.int .i64 0) := (blk_cell BK255.out 1).trans rfl; have hfz23_0 := blk_frozen BK255.out 0; have hfz23_1 := blk_frozen BK255.out 1) | ((with_reducible refine gate_callee (f := 9) rfl ?_); refine goesL_ (some 27) rfl rfl Tryd.func9 (by kernel_rfl) rfl #[.string a0] rfl (by (try simp only [List.map_toArray, List.map_cons, List.map_nil]); first | done | rfl | (simp only [List.length_drop, List.length_take]; rfl)) ?_; (with_reducible refine (linkhouseref1_Tokens.calls k a0 t258 t259 _ A16.out).mono ?_); rintro e w24 ⟨v260, rfl, ho0, hb⟩; refine ⟨_, rfl, ?_⟩; have n0_ := Aside0.mk (Kd.R_elder' (by (with_reducible repeat (first | apply Kd.R_alloc | apply Kd.R_drewN | apply Kd.R_drew)); exact (Kd.R_mono (Kd.R_far (p := ⟨gb255, 1, none⟩) (Kd.R_far (p := ⟨gb255, 0, none⟩) (Kd.R_types HO252.out BK255.out (by decide)) (fun _ hk => hk.2) (.int .i64 t253)) (fun _ hk => hk.2) (.int .i64 t254)) (fun _ h_ => h_.1))) (Kd.R_base ho0) hb); have n1_ := Aside0.mk (Kd.R_lower (Kd.R_new' ho0 (Kd.R_lt (by (with_reducible repeat (first | apply Kd.R_alloc | apply Kd.R_drewN | apply Kd.R_drew)); exact (Kd.R_mono (Kd.R_far (p := ⟨gb255, 1, none⟩) (Kd.R_far (p := ⟨gb255, 0, none⟩) (Kd.R_types HO252.out BK255.out (by decide)) (fun _ hk => hk.2) (.int .i64 t253)) (fun _ hk => hk.2) (.int .i64 t254)) (fun _ h_ => h_.1))))) (below_size (by repeat (first | (with_reducible first | exact HB.out | apply below_alloc | apply pw_below_drewN | apply below_drew1 | refine below_set ?_ GE255.out) | exact HB.out)))); have n2_ := Aside0.mk (blk_below (g := gb255) (o := .cells #[.int .i64 t253, .int .i64 t254] 25 (0, 0)) (by (with_reducible repeat (first | refine blk_drewN ?_ _ | refine blk_drew ?_ | refine blk_alloc ?_ _)); refine blk_put (cs := #[.int .i64 t253, .int .i64 0]) ?_ 1 _ rfl; (with_reducible repeat (first | refine blk_drewN ?_ _ | refine blk_drew ?_ | refine blk_alloc ?_ _)); refine blk_put (cs := #[.int .i64 0, .int .i64 0]) ?_ 0 _ rfl; (with_reducible repeat (first | refine blk_drewN ?_ _ | refine blk_drew ?_ | refine blk_alloc ?_ _)); exact BK255.out) hb); have n3_ := Aside0.mk (below_step (by repeat (first | (with_reducible first | exact HB.out | apply below_alloc | apply pw_below_drewN | apply below_drew1 | refine below_set ?_ GE255.out) | exact HB.out)) hb); clear HO252; clear BK255; clear HB; have HO252 := n0_; have HO261 := n1_; have BK255 := n2_; have HB := n3_; clear n0_ n1_ n2_ n3_; (try clear hb); (try clear hb2); (try clear hk); (try clear hi); (try clear ho0)))
          have n0_ := Aside0.mk (Kd.R_drew HO252.out)
          have n1_ := Aside0.mk (Kd.R_drew HO261.out)
          have n2_ := Aside0.mk (blk_drew BK255.out)
          have n3_ := Aside0.mk (below_drew1 HB.out)
          clear HO252
          clear HO261
          clear BK255
          clear HB
          have HO252 := n0_
          have HO261 := n1_
          have BK255 := n2_
          have HB := n3_
          clear n0_ n1_ n2_ n3_
          refine start_ (n := 10) (S := fun w' => w'.cell? ⟨gb255, 0, none⟩ = some (.int .i64 t253) ∧ w'.cell? ⟨gb255, 1, none⟩ = some (.int .i64 t254)) (ds := []) #[false, false, false, false, false, false, false, false, false, false] (by kernel_rfl) rfl rfl ⟨(blk_cell BK255.out 0).trans rfl, (blk_cell BK255.out 1).trans rfl⟩ (fun hHeld => ?_); refine with_tabW linkhouselaw1_TokenSplitMatchesSpec.tab8 linkhouselaw1_TokenSplitMatchesSpec.bits8 (fun HT_ HW_ => ?_)
          generalize w24.drew = w25 at HO252 HO261 BK255 HB hHeld ⊢
          refine pure_ (i := 1) (N := some 33) (v := ?_) (a' := ?_) #[false, true, false, false, false, false, false, false, false, false] rfl rfl (any_of HT_.out (by kernel_rfl)) (fun _ _ _ h => h) (Or.inl ⟨by rfl, ?_⟩) ?_ ?_
          rotate_left
          · intro w'
            go_simp
            with_reducible rfl
          rotate_left
          · simp only [Act.put, List.setIfInBounds_toArray, List.set_cons_zero, List.set_cons_succ, i64_w, i32_w]
            rfl
          refine take_ (i := 0) (N := some 32) (v := ?_) (a' := ?_) #[true, true, false, false, false, false, false, false, false, false] rfl rfl (take_ofW HT_.out HW_.out (by kernel_rfl)) (fun _ _ _ h => h) (Or.inl ⟨by rfl, ?_⟩) hHeld ?_ ?_
          rotate_left
          · rintro w' ⟨s0, s1⟩
            go_simp
            with_reducible rfl
          rotate_left
          · simp only [Act.put, List.setIfInBounds_toArray, List.set_cons_zero, List.set_cons_succ, i64_w, i32_w]
            rfl
          refine one_ (i := 2) (N := some 34) #[true, true, true, false, false, false, false, false, false, false] rfl rfl (one_of HT_.out (by kernel_rfl)) (by decide) (fun K hK => ?_)
          refine goes_ Tryd.func8 (by kernel_rfl) rfl #[.int .i64 1, .int .i64 t259] (by rfl) rfl rfl (by (try simp only [List.map_toArray, List.map_cons, List.map_nil]); first | done | rfl | (simp only [List.length_drop, List.length_take]; rfl)) ?_
          with_reducible refine (linkhouseref1_At.calls 1 t259 t262 t263 _ A18.out).mono ?_
          rintro e w26 ⟨rfl, hb⟩
          refine ⟨_, rfl, ?_⟩
          have n0_ := Aside0.mk (Kd.R_below (by (with_reducible repeat (first | apply Kd.R_alloc | apply Kd.R_drewN | apply Kd.R_drew)); exact HO252.out) hb)
          have n1_ := Aside0.mk (Kd.R_below (by (with_reducible repeat (first | apply Kd.R_alloc | apply Kd.R_drewN | apply Kd.R_drew)); exact HO261.out) hb)
          have n2_ := Aside0.mk (blk_below (g := gb255) (o := .cells #[.int .i64 t253, .int .i64 t254] 25 (0, 0)) (by (with_reducible repeat (first | refine blk_drewN ?_ _ | refine blk_drew ?_ | refine blk_alloc ?_ _)); exact BK255.out) hb)
          have n3_ := Aside0.mk (below_step (by repeat (first | (with_reducible first | exact HB.out | apply below_alloc | apply pw_below_drewN | apply below_drew1 | refine below_set ?_ GE255.out) | exact HB.out)) hb)
          clear HO252
          clear HO261
          clear BK255
          clear HB
          have HO252 := n0_
          have HO261 := n1_
          have BK255 := n2_
          have HB := n3_
          clear n0_ n1_ n2_ n3_
          (try clear hb)
          (try clear hb2)
          (try clear hk)
          (try clear hi)
          obtain ⟨Ao27, co27, eo27⟩ := Kd.R_slice HO252.out
          (first | subst eo27 | (injection eo27 with f1_ f2_ f3_; have f4_ := f1_.symm; have f5_ := f3_.symm; clear f1_ f2_ f3_; subst f4_; subst f5_))
          refine hK.out _ _ ⟨(blk_cell BK255.out 0).trans rfl, (blk_cell BK255.out 1).trans rfl⟩ (fun hHeld => ?_)
          clear hK K
          refine norm_ (a' := ?_) ?_ ?_
          rotate_left
          · show Act.put _ (some 34) _ = _
            simp only [Act.put, List.setIfInBounds_toArray, List.set_cons_zero, List.set_cons_succ, i64_w, i32_w]
            rfl
          refine pure_ (i := 3) (N := some 35) (v := ?_) (a' := ?_) #[true, true, true, true, false, false, false, false, false, false] rfl rfl (any_of HT_.out (by kernel_rfl)) (fun _ _ _ h => h) (Or.inl ⟨by rfl, ?_⟩) ?_ ?_
          rotate_left
          · intro w'
            go_simp
            with_reducible rfl
          rotate_left
          · simp only [Act.put, List.setIfInBounds_toArray, List.set_cons_zero, List.set_cons_succ, i64_w, i32_w]
            rfl
          refine pure_ (i := 4) (N := some 36) (v := ?_) (a' := ?_) #[true, true, true, true, true, false, false, false, false, false] rfl rfl (any_of HT_.out (by kernel_rfl)) (fun _ _ _ h => h) (Or.inl ⟨by rfl, ?_⟩) ?_ ?_
          rotate_left
          · intro w'
            go_simp
            with_reducible rfl
          rotate_left
          · simp only [Act.put, List.setIfInBounds_toArray, List.set_cons_zero, List.set_cons_succ, i64_w, i32_w]
            rfl
          refine pure_ (i := 5) (N := some 37) (v := ?_) (a' := ?_) #[true, true, true, true, true, true, false, false, false, false] rfl rfl (any_of HT_.out (by kernel_rfl)) (fun _ _ _ h => h) (Or.inl ⟨by rfl, ?_⟩) ?_ ?_
          rotate_left
          · intro w'
            go_simp
            with_reducible rfl
          rotate_left
          · simp only [Act.put, List.setIfInBounds_toArray, List.set_cons_zero, List.set_cons_succ, i64_w, i32_w]
            rfl
          refine pure_ (i := 6) (N := some 38) (v := ?_) (a' := ?_) #[true, true, true, true, true, true, true, false, false, false] rfl rfl (any_of HT_.out (by kernel_rfl)) (fun _ _ _ h => h) (Or.inl ⟨by rfl, ?_⟩) ?_ ?_
          rotate_left
          · intro w'
            go_simp
            with_reducible rfl
          rotate_left
          · simp only [Act.put, List.setIfInBounds_toArray, List.set_cons_zero, List.set_cons_succ, i64_w, i32_w]
            rfl
          refine pure_ (i := 7) (N := some 39) (v := ?_) (a' := ?_) #[true, true, true, true, true, true, true, true, false, false] rfl rfl (any_of HT_.out (by kernel_rfl)) (fun _ _ _ h => h) (Or.inl ⟨by rfl, ?_⟩) ?_ ?_
          rotate_left
          · intro w'
            go_simp
            with_reducible rfl
          rotate_left
          · simp only [Act.put, List.setIfInBounds_toArray, List.set_cons_zero, List.set_cons_succ, i64_w, i32_w]
            rfl
          refine pure_ (i := 8) (N := some 40) (v := ?_) (a' := ?_) #[true, true, true, true, true, true, true, true, true, false] rfl rfl (any_of HT_.out (by kernel_rfl)) (fun _ _ _ h => h) (Or.inl ⟨by rfl, ?_⟩) ?_ ?_
          rotate_left
          · intro w'
            go_simp
            with_reducible rfl
          rotate_left
          · simp only [Act.put, List.setIfInBounds_toArray, List.set_cons_zero, List.set_cons_succ, i64_w, i32_w]
            rfl
          refine pure_ (i := 9) (N := some 2) (v := ?_) (a' := ?_) #[true, true, true, true, true, true, true, true, true, true] rfl rfl (any_of HT_.out (by kernel_rfl)) (fun _ _ _ h => h) (Or.inl ⟨by rfl, ?_⟩) ?_ ?_
          rotate_left
          · intro w'
            go_simp
            with_reducible rfl
          rotate_left
          · simp only [Act.put, List.setIfInBounds_toArray, List.set_cons_zero, List.set_cons_succ, i64_w, i32_w]
            rfl
          refine done_ (done_of HT_.out (by kernel_rfl)) ?_
          try go_wp2
          go_ret
          exact ⟨by first | rfl | (simp [errW_none, errW_some] <;> rfl) | (simp [*, errW_none, errW_some] <;> rfl), by repeat (first | (with_reducible first | exact HB.out | apply below_alloc | apply pw_below_drewN | apply below_drew1 | refine below_set ?_ GE255.out) | exact HB.out)⟩
        · rw [if_neg c19] at H
          have c19b0 : (t253 == t262 && (t254 == t263)) = false := by simpa using c19
          (try (have c19b1 : decide (t253 = t262 && (t254 == t263)) = false := by simpa using c19))
          (try (have c19b2 : (t253 == t262 && (t254 == t263)) = false := by simpa using c19))
          (try (have c19b3 : ¬ (t253 = t262 && (t254 == t263)) := by simpa using c19))
          clear c19
          exact absurd ((Option.some.inj H).trans HT.out) (by decide)
      · rw [if_neg c17] at H
        have c17b0 : decide (0 ≤ t259) = false := decide_eq_false c17
        clear c17
        by_cases c28 : t253 = 0
        · rw [if_pos c28] at H
          have c28b0 : (t253 == 0) = true := beq_iff_eq.mpr c28
          have c28b1 : (t253 != 0) = false := bne_eq_false_iff_eq.mpr c28
          clear c28
          replace H := Option.bind_eq_some_iff.mp H
          obtain ⟨t264, A290, H⟩ := H
          replace H : (some t264) = some r := H
          have A29 := Aside0.mk A290
          clear A290
          obtain rfl := Option.some.inj H
          go_enter Tryd.func3, Tryd.ntmps3
          go_wp2_with (first | ((with_reducible refine gate_callee (f := 6) rfl ?_); refine goesL_ (some 7) rfl rfl Tryd.func6 (by kernel_rfl) rfl #[] rfl (by (try simp only [List.map_toArray, List.map_cons, List.map_nil]); first | done | rfl | (simp only [List.length_drop, List.length_take]; rfl)) ?_; (with_reducible refine (linkhouselaw1_tokenExample.calls k  true _ rfl A2.out).mono ?_); rintro e w30 ⟨rfl, hb⟩; refine ⟨_, rfl, ?_⟩; have n0_ := Aside0.mk (below_step (by repeat (first | (with_reducible first | exact HB.out | apply below_alloc | apply pw_below_drewN | apply below_drew1) | exact HB.out)) hb); clear HB; have HB := n0_; clear n0_; (try clear hb); (try clear hb2); (try clear hk); (try clear hi)) | ((with_reducible refine gate_callee (f := 7) rfl ?_); refine goesL_ (some 11) rfl rfl Tryd.func7 (by kernel_rfl) rfl #[.string a0] rfl (by (try simp only [List.map_toArray, List.map_cons, List.map_nil]); first | done | rfl | (simp only [List.length_drop, List.length_take]; rfl)) ?_; (with_reducible refine (token_Split.calls k a0 t250 t253 t254 _ A4.out).mono ?_); rintro e w31 ⟨v251, rfl, ho0, hb⟩; refine ⟨_, rfl, ?_⟩; have n0_ := Aside0.mk (Kd.R_lower ho0 (below_size (by repeat (first | (with_reducible first | exact HB.out | apply below_alloc | apply pw_below_drewN | apply below_drew1) | exact HB.out)))); have n1_ := Aside0.mk (below_step (by repeat (first | (with_reducible first | exact HB.out | apply below_alloc | apply pw_below_drewN | apply below_drew1) | exact HB.out)) hb); clear HB; have HO252 := n0_; have HB := n1_; clear n0_ n1_; (try clear hb); (try clear hb2); (try clear hk); (try clear hi); (try clear ho0)) | ((with_reducible refine gate_dst (N := 4) rfl ?_); (try (refine gate_guard (by rfl) ?_; dsimp only)); refine box_event ?hg (N := 4) ?hd (cs := #[.int .i64 0, .int .i64 0]) (t := 25) ?hr ?_; (case hd => rfl); (case hg => rfl); (case hr => first | (go_simp; done) | (go_simp; rfl)); intro gb255 hg w32 hbox hb; have n0_ := Aside0.mk (Kd.R_below (by (with_reducible repeat (first | apply Kd.R_alloc | apply Kd.R_drewN | apply Kd.R_drew)); exact HO252.out) hb); have n1_ := Aside0.mk (below_step (by repeat (first | (with_reducible first | exact HB.out | apply below_alloc | apply pw_below_drewN | apply below_drew1) | exact HB.out)) hb); have n2_ := Aside0.mk (hbox); have n3_ := Aside0.mk ((by rw [hg]; exact (below_size (by repeat (first | (with_reducible first | exact HB.out | apply below_alloc | apply pw_below_drewN | apply below_drew1) | exact HB.out))) : w.heap.size ≤ gb255)); have n4_ := Aside0.mk ((by rw [hg]; exact (below_size (by repeat (first | (with_reducible first | exact HB.out | apply below_alloc | apply pw_below_drewN | apply below_drew1) | exact HB.out))) : w.heap.size ≤ gb255)); clear HO252; clear HB; have HO252 := n0_; have HB := n1_; have BK255 := n2_; have GW255 := n3_; have GE255 := n4_; clear n0_ n1_ n2_ n3_ n4_; clear hb hbox hg; have hcz33_0 : w32.cell? ⟨gb255, 0, none⟩ = some (.int .i64 0) := (blk_cell BK255.out 0).trans rfl; have hcz33_1 : w32.cell? ⟨gb255, 1, none⟩ = some (.int .i64 0) := (blk_cell BK255.out 1).trans rfl; have hfz33_0 := blk_frozen BK255.out 0; have hfz33_1 := blk_frozen BK255.out 1) | ((with_reducible refine gate_callee (f := 9) rfl ?_); refine goesL_ (some 27) rfl rfl Tryd.func9 (by kernel_rfl) rfl #[.string a0] rfl (by (try simp only [List.map_toArray, List.map_cons, List.map_nil]); first | done | rfl | (simp only [List.length_drop, List.length_take]; rfl)) ?_; (with_reducible refine (linkhouseref1_Tokens.calls k a0 t258 t259 _ A16.out).mono ?_); rintro e w34 ⟨v260, rfl, ho0, hb⟩; refine ⟨_, rfl, ?_⟩; have n0_ := Aside0.mk (Kd.R_elder' (by (with_reducible repeat (first | apply Kd.R_alloc | apply Kd.R_drewN | apply Kd.R_drew)); exact (Kd.R_mono (Kd.R_far (p := ⟨gb255, 1, none⟩) (Kd.R_far (p := ⟨gb255, 0, none⟩) (Kd.R_types HO252.out BK255.out (by decide)) (fun _ hk => hk.2) (.int .i64 t253)) (fun _ hk => hk.2) (.int .i64 t254)) (fun _ h_ => h_.1))) (Kd.R_base ho0) hb); have n1_ := Aside0.mk (Kd.R_lower (Kd.R_new' ho0 (Kd.R_lt (by (with_reducible repeat (first | apply Kd.R_alloc | apply Kd.R_drewN | apply Kd.R_drew)); exact (Kd.R_mono (Kd.R_far (p := ⟨gb255, 1, none⟩) (Kd.R_far (p := ⟨gb255, 0, none⟩) (Kd.R_types HO252.out BK255.out (by decide)) (fun _ hk => hk.2) (.int .i64 t253)) (fun _ hk => hk.2) (.int .i64 t254)) (fun _ h_ => h_.1))))) (below_size (by repeat (first | (with_reducible first | exact HB.out | apply below_alloc | apply pw_below_drewN | apply below_drew1 | refine below_set ?_ GE255.out) | exact HB.out)))); have n2_ := Aside0.mk (blk_below (g := gb255) (o := .cells #[.int .i64 t253, .int .i64 t254] 25 (0, 0)) (by (with_reducible repeat (first | refine blk_drewN ?_ _ | refine blk_drew ?_ | refine blk_alloc ?_ _)); refine blk_put (cs := #[.int .i64 t253, .int .i64 0]) ?_ 1 _ rfl; (with_reducible repeat (first | refine blk_drewN ?_ _ | refine blk_drew ?_ | refine blk_alloc ?_ _)); refine blk_put (cs := #[.int .i64 0, .int .i64 0]) ?_ 0 _ rfl; (with_reducible repeat (first | refine blk_drewN ?_ _ | refine blk_drew ?_ | refine blk_alloc ?_ _)); exact BK255.out) hb); have n3_ := Aside0.mk (below_step (by repeat (first | (with_reducible first | exact HB.out | apply below_alloc | apply pw_below_drewN | apply below_drew1 | refine below_set ?_ GE255.out) | exact HB.out)) hb); clear HO252; clear BK255; clear HB; have HO252 := n0_; have HO261 := n1_; have BK255 := n2_; have HB := n3_; clear n0_ n1_ n2_ n3_; (try clear hb); (try clear hb2); (try clear hk); (try clear hi); (try clear ho0); have hcz35_0 : w34.cell? ⟨gb255, 0, none⟩ = some (.int .i64 t253) := (blk_cell BK255.out 0).trans rfl; have hcz35_1 : w34.cell? ⟨gb255, 1, none⟩ = some (.int .i64 t254) := (blk_cell BK255.out 1).trans rfl; have hfz35_0 := blk_frozen BK255.out 0; have hfz35_1 := blk_frozen BK255.out 1; obtain ⟨Ao36, co36, eo36⟩ := Kd.R_slice HO252.out; subst eo36; obtain ⟨Ao37, co37, eo37⟩ := Kd.R_slice HO261.out; subst eo37) | (go_at_call 10; (with_reducible refine (linkhouseref1_SameTokens.calls k _ _ t250 _ _ t258 true t264 _ ?side1 ?side2 ?side3 ?side4 A29.out).mono ?_); (case side1 => repeat (first | exact (Kd.R_reads' HO252.out).2.2 | (with_reducible refine Kd.C_alloc ?_ _) | (with_reducible refine Kd.C_drewN ?_ _) | (with_reducible refine Kd.C_drew ?_))); (case side2 => exact (Kd.R_reads' HO252.out).2.1); (case side3 => repeat (first | exact (Kd.R_reads' HO261.out).2.2 | (with_reducible refine Kd.C_alloc ?_ _) | (with_reducible refine Kd.C_drewN ?_ _) | (with_reducible refine Kd.C_drew ?_))); (case side4 => exact (Kd.R_reads' HO261.out).2.1); rintro e w' ⟨rfl, ⟨nd, rfl⟩⟩))
          go_ret
          exact ⟨by first | rfl | (simp [errW_none, errW_some] <;> rfl) | (simp [*, errW_none, errW_some] <;> rfl), by repeat (first | (with_reducible first | exact HB.out | apply below_alloc | apply pw_below_drewN | apply below_drew1 | refine below_set ?_ GE255.out) | exact HB.out)⟩
        · rw [if_neg c28] at H
          have c28b0 : (t253 == 0) = false := beq_eq_false_iff_ne.mpr c28
          have c28b1 : (t253 != 0) = true := bne_iff_ne.mpr c28
          exact absurd ((Option.some.inj H).trans HT.out) (by decide)
  · replace c3 := Bool.eq_false_iff.mpr c3
    subst c3
    have H1 : (some false) = some r := by rw [if_neg (show ¬ (false = true) by decide)] at H; exact H
    clear H
    have H := H1
    clear H1
    exact absurd ((Option.some.inj H).trans HT.out) (by decide)

/-- THE ONE PURE STATEMENT of linkhouselaw1_TokenSplitMatchesSpec: yours. -/
def linkhouselaw1_TokenSplitMatchesSpec.Pure : Prop := ∀ (a0 : ByteArray), a0.size ≤ 140737488351232 → ∃ k, linkhouselaw1_TokenSplitMatchesSpec.f k a0 = some true
theorem linkhouselaw1_TokenSplitMatchesSpec.walk (P : linkhouselaw1_TokenSplitMatchesSpec.Pure) (a0 : ByteArray) (w : World) (hG : GS w) (w0 : a0.size ≤ 140737488351232) :
    Calls Tryd.prog 3 #[.string a0] w fun e w' => e = .returned (.bool true) ∧ Below w.heap.size w w' := by
  obtain ⟨k, h⟩ := P a0 w0
  refine (linkhouselaw1_TokenSplitMatchesSpec.calls k a0 true w rfl h hG).mono ?_
  rintro e w' ⟨rfl, hd⟩
  exact ⟨rfl, hd⟩

end Go.Proofs.YtipjpdiianopcaaDoor.A
