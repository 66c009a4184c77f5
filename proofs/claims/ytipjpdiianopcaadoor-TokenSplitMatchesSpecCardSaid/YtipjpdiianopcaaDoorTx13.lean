/- Functions of the program as plain Lean functions, each with a proof that the call of the Go function answers as it does. -/
import Derived.Test.YtipjpdiianopcaaDoorTx0
namespace Go.Proofs.YtipjpdiianopcaaDoor.A
open Go.RowKit Go.Proofs.YtipjpdiianopcaaW.PrintWords Go.Proofs.YtipjpdiianopcaaW.PrintLast Go.Proofs.YtipjpdiianopcaaW.PrintMore Go.Proofs.YtipjpdiianopcaaDoor.A Go.Proofs.YtipjpdiianopcaaDoor.Ct
attribute [local go_sem] max2_int min2_int max_two min_two max_three min_three max_four min_four   -- for this text's walks alone
set_option linter.unusedVariables false
set_option linter.unusedSimpArgs false

/-! ### linkhouseref1_SameTokens: function 10 -/
def linkhouseref1_SameTokens.l0 : Nat → List (S53) → List (S53) → Bool → Int → Option (Bool)
  | 0, _, _, _, _ => none
  | k + 1, x0, x1, x2, x7 => if x7 < (x0.length : Int) then (if 0 ≤ x7 then (if x7 < (x1.length : Int) then (if ((rd_T53 x0 x7).f0) = ((rd_T53 x1 x7).f0) then (if ((rd_T53 x0 x7).f1).toList = ((rd_T53 x1 x7).f1).toList then (if ((rd_T53 x0 x7).f2) = ((rd_T53 x1 x7).f2) then (if x2 = true then (if ((rd_T53 x0 x7).f3) = ((rd_T53 x1 x7).f3) then (linkhouseref1_SameTokens.l0 k x0 x1 x2 (wrap64 (x7 + 1))) else (some false)) else (linkhouseref1_SameTokens.l0 k x0 x1 x2 (wrap64 (x7 + 1)))) else (some false)) else (some false)) else (some false)) else (none)) else (none)) else (some true)
def linkhouseref1_SameTokens.f (k : Nat) (l0 : List (S53)) (l1 : List (S53)) (a2 : Bool) : Option (Bool) := if (l0.length : Int) = (l1.length : Int) then (linkhouseref1_SameTokens.l0 k l0 l1 a2 0) else (some false)
theorem linkhouseref1_SameTokens.mono_l : ∀ k, (∀ y0 y1 y2 y3, LeO (linkhouseref1_SameTokens.l0 k y0 y1 y2 y3) (linkhouseref1_SameTokens.l0 (k + 1) y0 y1 y2 y3))
  | 0 => fun _ _ _ _ r h => by simp [linkhouseref1_SameTokens.l0] at h
  | k + 1 => by
    have ih0 := linkhouseref1_SameTokens.mono_l k
    · intro y0 y1 y2 y3
      unfold linkhouseref1_SameTokens.l0
      repeat' first
      | (with_reducible exact ih0 _ _ _ _)
      | (with_reducible exact LeO.refl _)
      | (with_reducible exact LeO.none _)
      | (with_reducible refine LeO.ite ?_ ?_)
      | (with_reducible refine LeO.bind ?_ (fun _ => ?_))
      | exact ih0 _ _ _ _
      | exact LeO.none _
      | refine LeO.ite ?_ ?_
      | refine LeO.bind ?_ (fun _ => ?_)
theorem linkhouseref1_SameTokens.mono : ∀ a0 a1 a2 k, LeO (linkhouseref1_SameTokens.f k a0 a1 a2) (linkhouseref1_SameTokens.f (k + 1) a0 a1 a2) := by
  intro a0 a1 a2 k
  have ih0 := linkhouseref1_SameTokens.mono_l k
  unfold linkhouseref1_SameTokens.f
  repeat' first
      | (with_reducible exact ih0 _ _ _ _)
      | (with_reducible exact LeO.refl _)
      | (with_reducible exact LeO.none _)
      | (with_reducible refine LeO.ite ?_ ?_)
      | (with_reducible refine LeO.bind ?_ (fun _ => ?_))
      | exact ih0 _ _ _ _
      | exact LeO.none _
      | refine LeO.ite ?_ ?_
      | refine LeO.bind ?_ (fun _ => ?_)
set_option maxHeartbeats 8000000 in
set_option maxRecDepth 100000 in
theorem linkhouseref1_SameTokens.calls (k : Nat) (A0 : Option Addr) (c0 : Nat) (l0 : List (S53)) (A1 : Option Addr) (c1 : Nat) (l1 : List (S53)) (a2 : Bool) (r : Bool) (w : World) (hr0 : Kd.C k53 w A0 l0.length l0) (hc0 : l0.length ≤ c0) (hr1 : Kd.C k53 w A1 l1.length l1) (hc1 : l1.length ≤ c1) (h : linkhouseref1_SameTokens.f k l0 l1 a2 = some r) :
    Calls Tryd.prog 10 #[.slice A0 l0.length c0, .slice A1 l1.length c1, .bool a2] w fun e w' => e = .returned (.bool r) ∧ Drawn0 w w' := by
  have HR0 := Aside0.mk hr0
  have HC0 := Aside0.mk hc0
  clear hr0 hc0
  have HR1 := Aside0.mk hr1
  have HC1 := Aside0.mk hc1
  clear hr1 hc1
  have H : (if (l0.length : Int) = (l1.length : Int) then (linkhouseref1_SameTokens.l0 k l0 l1 a2 0) else (some false)) = some r := h
  clear h
  by_cases c4 : (l0.length : Int) = (l1.length : Int)
  · rw [if_pos c4] at H
    have c4b0 : ((l0.length : Int) == (l1.length : Int)) = true := beq_iff_eq.mpr c4
    have c4b1 : ((l0.length : Int) != (l1.length : Int)) = false := bne_eq_false_iff_eq.mpr c4
    have c4b2 : (l0.length == l1.length) = true := by first | simpa using c4 | (simp at c4 ⊢; omega)
    clear c4
    have H' := Aside0.mk H
    clear H
    go_enter Tryd.func10, Tryd.ntmps10
    go_wp2
    repeat (go_quiet (fail); try go_wp2)
    go_loopg [7] k (fun kq v7 w' => ∃ (x7_1 : Int), v7 = .int .i64 x7_1 ∧ Aside0 (linkhouseref1_SameTokens.l0 kq l0 l1 a2 x7_1 = some r) ∧ Aside0 (kq ≤ k) ∧ Drawn0 w w')
    case atStart => exact ⟨(0), (by first | rfl | (simp; done) | (simp [*]; done)), H', ⟨Nat.le_refl _⟩, by repeat (first | exact Drawn0.refl _ | apply Drawn0.step)⟩
    case round =>
      clear H'
      try clear c1
      try clear p2
      try clear c4
      try clear c4b0
      try clear c4b1
      try clear c4b2
      obtain ⟨x7_1, rfl, HA, HK1, ⟨m1, rfl⟩⟩ := hrel
      cases gk with
      | zero => exact absurd HA.out (by simp [linkhouseref1_SameTokens.l0])
      | succ k1 =>
        have H := HA.out
        clear HA
        simp only [linkhouseref1_SameTokens.l0] at H
        by_cases c5 : x7_1 < (l0.length : Int)
        · rw [if_pos c5] at H
          have c5b0 : decide (x7_1 < (l0.length : Int)) = true := decide_eq_true c5
          clear c5
          by_cases c6 : 0 ≤ x7_1
          · rw [if_pos c6] at H
            have c6b0 : decide (0 ≤ x7_1) = true := decide_eq_true c6
            clear c6
            by_cases c7 : x7_1 < (l1.length : Int)
            · rw [if_pos c7] at H
              have c7b0 : decide (x7_1 < (l1.length : Int)) = true := decide_eq_true c7
              clear c7
              by_cases c8 : ((rd_T53 l0 x7_1).f0) = ((rd_T53 l1 x7_1).f0)
              · rw [if_pos c8] at H
                have c8b0 : (((rd_T53 l0 x7_1).f0) == ((rd_T53 l1 x7_1).f0)) = true := beq_iff_eq.mpr c8
                have c8b1 : (((rd_T53 l0 x7_1).f0) != ((rd_T53 l1 x7_1).f0)) = false := bne_eq_false_iff_eq.mpr c8
                clear c8
                by_cases c9 : ((rd_T53 l0 x7_1).f1).toList = ((rd_T53 l1 x7_1).f1).toList
                · rw [if_pos c9] at H
                  have c9b0 : (((rd_T53 l0 x7_1).f1).toList == ((rd_T53 l1 x7_1).f1).toList) = true := beq_iff_eq.mpr c9
                  have c9b1 : (((rd_T53 l0 x7_1).f1).toList != ((rd_T53 l1 x7_1).f1).toList) = false := bne_eq_false_iff_eq.mpr c9
                  clear c9
                  by_cases c10 : ((rd_T53 l0 x7_1).f2) = ((rd_T53 l1 x7_1).f2)
                  · rw [if_pos c10] at H
                    have c10b0 : (((rd_T53 l0 x7_1).f2) == ((rd_T53 l1 x7_1).f2)) = true := beq_iff_eq.mpr c10
                    have c10b1 : (((rd_T53 l0 x7_1).f2) != ((rd_T53 l1 x7_1).f2)) = false := bne_eq_false_iff_eq.mpr c10
                    clear c10
                    by_cases c11 : a2 = true
                    · subst c11
                      have H1 : (if ((rd_T53 l0 x7_1).f3) = ((rd_T53 l1 x7_1).f3) then (linkhouseref1_SameTokens.l0 k1 l0 l1 true (wrap64 (x7_1 + 1))) else (some false)) = some r := by rw [if_pos rfl] at H; exact H
                      clear H
                      have H := H1
                      clear H1
                      by_cases c12 : ((rd_T53 l0 x7_1).f3) = ((rd_T53 l1 x7_1).f3)
                      · rw [if_pos c12] at H
                        have c12b0 : (((rd_T53 l0 x7_1).f3) == ((rd_T53 l1 x7_1).f3)) = true := beq_iff_eq.mpr c12
                        have c12b1 : (((rd_T53 l0 x7_1).f3) != ((rd_T53 l1 x7_1).f3)) = false := bne_eq_false_iff_eq.mpr c12
                        clear c12
                        have H' := Aside0.mk H
                        clear H
                        have p241 : 0 ≤ (x7_1 : Int) := of_decide_eq_true (by first | (with_reducible assumption) | assumption)
                        have q241 : x7_1 < (l0.length : Int) := of_decide_eq_true (by first | (with_reducible assumption) | assumption)
                        obtain ⟨ad241, e241, hx241_0, hx241_1, hx241_2, hx241_3⟩ := at_T53 HR0.out x7_1 p241 q241
                        cases e241
                        replace p241 := eq_true p241
                        replace q241 := eq_true q241
                        have p242 : 0 ≤ (x7_1 : Int) := of_decide_eq_true (by first | (with_reducible assumption) | assumption)
                        have q242 : x7_1 < (l1.length : Int) := of_decide_eq_true (by first | (with_reducible assumption) | assumption)
                        obtain ⟨ad242, e242, hx242_0, hx242_1, hx242_2, hx242_3⟩ := at_T53 HR1.out x7_1 p242 q242
                        cases e242
                        replace p242 := eq_true p242
                        replace q242 := eq_true q242
                        have p243 : 0 ≤ (x7_1 : Int) := of_decide_eq_true (by first | (with_reducible assumption) | assumption)
                        have q243 : x7_1 < (l0.length : Int) := of_decide_eq_true (by first | (with_reducible assumption) | assumption)
                        obtain ⟨ad243, e243, hx243_0, hx243_1, hx243_2, hx243_3⟩ := at_T53 HR0.out x7_1 p243 q243
                        obtain rfl : ad241 = ad243 := (by injection e243)
                        replace p243 := eq_true p243
                        replace q243 := eq_true q243
                        have p244 : 0 ≤ (x7_1 : Int) := of_decide_eq_true (by first | (with_reducible assumption) | assumption)
                        have q244 : x7_1 < (l1.length : Int) := of_decide_eq_true (by first | (with_reducible assumption) | assumption)
                        obtain ⟨ad244, e244, hx244_0, hx244_1, hx244_2, hx244_3⟩ := at_T53 HR1.out x7_1 p244 q244
                        obtain rfl : ad242 = ad244 := (by injection e244)
                        replace p244 := eq_true p244
                        replace q244 := eq_true q244
                        have p245 : 0 ≤ (x7_1 : Int) := of_decide_eq_true (by first | (with_reducible assumption) | assumption)
                        have q245 : x7_1 < (l0.length : Int) := of_decide_eq_true (by first | (with_reducible assumption) | assumption)
                        obtain ⟨ad245, e245, hx245_0, hx245_1, hx245_2, hx245_3⟩ := at_T53 HR0.out x7_1 p245 q245
                        obtain rfl : ad241 = ad245 := (by injection e245)
                        replace p245 := eq_true p245
                        replace q245 := eq_true q245
                        have p246 : 0 ≤ (x7_1 : Int) := of_decide_eq_true (by first | (with_reducible assumption) | assumption)
                        have q246 : x7_1 < (l1.length : Int) := of_decide_eq_true (by first | (with_reducible assumption) | assumption)
                        obtain ⟨ad246, e246, hx246_0, hx246_1, hx246_2, hx246_3⟩ := at_T53 HR1.out x7_1 p246 q246
                        obtain rfl : ad242 = ad246 := (by injection e246)
                        replace p246 := eq_true p246
                        replace q246 := eq_true q246
                        have p247 : 0 ≤ (x7_1 : Int) := of_decide_eq_true (by first | (with_reducible assumption) | assumption)
                        have q247 : x7_1 < (l0.length : Int) := of_decide_eq_true (by first | (with_reducible assumption) | assumption)
                        obtain ⟨ad247, e247, hx247_0, hx247_1, hx247_2, hx247_3⟩ := at_T53 HR0.out x7_1 p247 q247
                        obtain rfl : ad241 = ad247 := (by injection e247)
                        replace p247 := eq_true p247
                        replace q247 := eq_true q247
                        have p248 : 0 ≤ (x7_1 : Int) := of_decide_eq_true (by first | (with_reducible assumption) | assumption)
                        have q248 : x7_1 < (l1.length : Int) := of_decide_eq_true (by first | (with_reducible assumption) | assumption)
                        obtain ⟨ad248, e248, hx248_0, hx248_1, hx248_2, hx248_3⟩ := at_T53 HR1.out x7_1 p248 q248
                        obtain rfl : ad242 = ad248 := (by injection e248)
                        replace p248 := eq_true p248
                        replace q248 := eq_true q248
                        go_wp2
                        repeat (go_quiet (fail); try go_wp2)
                        go_roundg k1
                        case measure => have := HK1.out; omega
                        case rel => exact ⟨(wrap64 (x7_1 + 1)), (by first | rfl | (simp; done) | (simp [*]; done)), H', ⟨by have := HK1.out; omega⟩, by repeat (first | exact Drawn0.refl _ | apply Drawn0.step)⟩
                      · rw [if_neg c12] at H
                        have c12b0 : (((rd_T53 l0 x7_1).f3) == ((rd_T53 l1 x7_1).f3)) = false := beq_eq_false_iff_ne.mpr c12
                        have c12b1 : (((rd_T53 l0 x7_1).f3) != ((rd_T53 l1 x7_1).f3)) = true := bne_iff_ne.mpr c12
                        obtain rfl := Option.some.inj H
                        have p241 : 0 ≤ (x7_1 : Int) := of_decide_eq_true (by first | (with_reducible assumption) | assumption)
                        have q241 : x7_1 < (l0.length : Int) := of_decide_eq_true (by first | (with_reducible assumption) | assumption)
                        obtain ⟨ad241, e241, hx241_0, hx241_1, hx241_2, hx241_3⟩ := at_T53 HR0.out x7_1 p241 q241
                        cases e241
                        replace p241 := eq_true p241
                        replace q241 := eq_true q241
                        have p242 : 0 ≤ (x7_1 : Int) := of_decide_eq_true (by first | (with_reducible assumption) | assumption)
                        have q242 : x7_1 < (l1.length : Int) := of_decide_eq_true (by first | (with_reducible assumption) | assumption)
                        obtain ⟨ad242, e242, hx242_0, hx242_1, hx242_2, hx242_3⟩ := at_T53 HR1.out x7_1 p242 q242
                        cases e242
                        replace p242 := eq_true p242
                        replace q242 := eq_true q242
                        have p243 : 0 ≤ (x7_1 : Int) := of_decide_eq_true (by first | (with_reducible assumption) | assumption)
                        have q243 : x7_1 < (l0.length : Int) := of_decide_eq_true (by first | (with_reducible assumption) | assumption)
                        obtain ⟨ad243, e243, hx243_0, hx243_1, hx243_2, hx243_3⟩ := at_T53 HR0.out x7_1 p243 q243
                        obtain rfl : ad241 = ad243 := (by injection e243)
                        replace p243 := eq_true p243
                        replace q243 := eq_true q243
                        have p244 : 0 ≤ (x7_1 : Int) := of_decide_eq_true (by first | (with_reducible assumption) | assumption)
                        have q244 : x7_1 < (l1.length : Int) := of_decide_eq_true (by first | (with_reducible assumption) | assumption)
                        obtain ⟨ad244, e244, hx244_0, hx244_1, hx244_2, hx244_3⟩ := at_T53 HR1.out x7_1 p244 q244
                        obtain rfl : ad242 = ad244 := (by injection e244)
                        replace p244 := eq_true p244
                        replace q244 := eq_true q244
                        have p245 : 0 ≤ (x7_1 : Int) := of_decide_eq_true (by first | (with_reducible assumption) | assumption)
                        have q245 : x7_1 < (l0.length : Int) := of_decide_eq_true (by first | (with_reducible assumption) | assumption)
                        obtain ⟨ad245, e245, hx245_0, hx245_1, hx245_2, hx245_3⟩ := at_T53 HR0.out x7_1 p245 q245
                        obtain rfl : ad241 = ad245 := (by injection e245)
                        replace p245 := eq_true p245
                        replace q245 := eq_true q245
                        have p246 : 0 ≤ (x7_1 : Int) := of_decide_eq_true (by first | (with_reducible assumption) | assumption)
                        have q246 : x7_1 < (l1.length : Int) := of_decide_eq_true (by first | (with_reducible assumption) | assumption)
                        obtain ⟨ad246, e246, hx246_0, hx246_1, hx246_2, hx246_3⟩ := at_T53 HR1.out x7_1 p246 q246
                        obtain rfl : ad242 = ad246 := (by injection e246)
                        replace p246 := eq_true p246
                        replace q246 := eq_true q246
                        have p247 : 0 ≤ (x7_1 : Int) := of_decide_eq_true (by first | (with_reducible assumption) | assumption)
                        have q247 : x7_1 < (l0.length : Int) := of_decide_eq_true (by first | (with_reducible assumption) | assumption)
                        obtain ⟨ad247, e247, hx247_0, hx247_1, hx247_2, hx247_3⟩ := at_T53 HR0.out x7_1 p247 q247
                        obtain rfl : ad241 = ad247 := (by injection e247)
                        replace p247 := eq_true p247
                        replace q247 := eq_true q247
                        have p248 : 0 ≤ (x7_1 : Int) := of_decide_eq_true (by first | (with_reducible assumption) | assumption)
                        have q248 : x7_1 < (l1.length : Int) := of_decide_eq_true (by first | (with_reducible assumption) | assumption)
                        obtain ⟨ad248, e248, hx248_0, hx248_1, hx248_2, hx248_3⟩ := at_T53 HR1.out x7_1 p248 q248
                        obtain rfl : ad242 = ad248 := (by injection e248)
                        replace p248 := eq_true p248
                        replace q248 := eq_true q248
                        go_wp2
                        repeat (go_quiet (fail); try go_wp2)
                        go_ret
                        exact ⟨by first | rfl | (simp; done) | (simp [*]; done), by repeat (first | exact Drawn0.refl _ | apply Drawn0.step)⟩
                    · replace c11 := Bool.eq_false_iff.mpr c11
                      subst c11
                      have H1 : (linkhouseref1_SameTokens.l0 k1 l0 l1 false (wrap64 (x7_1 + 1))) = some r := by rw [if_neg (show ¬ (false = true) by decide)] at H; exact H
                      clear H
                      have H := H1
                      clear H1
                      have H' := Aside0.mk H
                      clear H
                      have p241 : 0 ≤ (x7_1 : Int) := of_decide_eq_true (by first | (with_reducible assumption) | assumption)
                      have q241 : x7_1 < (l0.length : Int) := of_decide_eq_true (by first | (with_reducible assumption) | assumption)
                      obtain ⟨ad241, e241, hx241_0, hx241_1, hx241_2, hx241_3⟩ := at_T53 HR0.out x7_1 p241 q241
                      cases e241
                      replace p241 := eq_true p241
                      replace q241 := eq_true q241
                      have p242 : 0 ≤ (x7_1 : Int) := of_decide_eq_true (by first | (with_reducible assumption) | assumption)
                      have q242 : x7_1 < (l1.length : Int) := of_decide_eq_true (by first | (with_reducible assumption) | assumption)
                      obtain ⟨ad242, e242, hx242_0, hx242_1, hx242_2, hx242_3⟩ := at_T53 HR1.out x7_1 p242 q242
                      cases e242
                      replace p242 := eq_true p242
                      replace q242 := eq_true q242
                      have p243 : 0 ≤ (x7_1 : Int) := of_decide_eq_true (by first | (with_reducible assumption) | assumption)
                      have q243 : x7_1 < (l0.length : Int) := of_decide_eq_true (by first | (with_reducible assumption) | assumption)
                      obtain ⟨ad243, e243, hx243_0, hx243_1, hx243_2, hx243_3⟩ := at_T53 HR0.out x7_1 p243 q243
                      obtain rfl : ad241 = ad243 := (by injection e243)
                      replace p243 := eq_true p243
                      replace q243 := eq_true q243
                      have p244 : 0 ≤ (x7_1 : Int) := of_decide_eq_true (by first | (with_reducible assumption) | assumption)
                      have q244 : x7_1 < (l1.length : Int) := of_decide_eq_true (by first | (with_reducible assumption) | assumption)
                      obtain ⟨ad244, e244, hx244_0, hx244_1, hx244_2, hx244_3⟩ := at_T53 HR1.out x7_1 p244 q244
                      obtain rfl : ad242 = ad244 := (by injection e244)
                      replace p244 := eq_true p244
                      replace q244 := eq_true q244
                      have p245 : 0 ≤ (x7_1 : Int) := of_decide_eq_true (by first | (with_reducible assumption) | assumption)
                      have q245 : x7_1 < (l0.length : Int) := of_decide_eq_true (by first | (with_reducible assumption) | assumption)
                      obtain ⟨ad245, e245, hx245_0, hx245_1, hx245_2, hx245_3⟩ := at_T53 HR0.out x7_1 p245 q245
                      obtain rfl : ad241 = ad245 := (by injection e245)
                      replace p245 := eq_true p245
                      replace q245 := eq_true q245
                      have p246 : 0 ≤ (x7_1 : Int) := of_decide_eq_true (by first | (with_reducible assumption) | assumption)
                      have q246 : x7_1 < (l1.length : Int) := of_decide_eq_true (by first | (with_reducible assumption) | assumption)
                      obtain ⟨ad246, e246, hx246_0, hx246_1, hx246_2, hx246_3⟩ := at_T53 HR1.out x7_1 p246 q246
                      obtain rfl : ad242 = ad246 := (by injection e246)
                      replace p246 := eq_true p246
                      replace q246 := eq_true q246
                      go_wp2
                      repeat (go_quiet (fail); try go_wp2)
                      go_roundg k1
                      case measure => have := HK1.out; omega
                      case rel => exact ⟨(wrap64 (x7_1 + 1)), (by first | rfl | (simp; done) | (simp [*]; done)), H', ⟨by have := HK1.out; omega⟩, by repeat (first | exact Drawn0.refl _ | apply Drawn0.step)⟩
                  · rw [if_neg c10] at H
                    have c10b0 : (((rd_T53 l0 x7_1).f2) == ((rd_T53 l1 x7_1).f2)) = false := beq_eq_false_iff_ne.mpr c10
                    have c10b1 : (((rd_T53 l0 x7_1).f2) != ((rd_T53 l1 x7_1).f2)) = true := bne_iff_ne.mpr c10
                    obtain rfl := Option.some.inj H
                    have p241 : 0 ≤ (x7_1 : Int) := of_decide_eq_true (by first | (with_reducible assumption) | assumption)
                    have q241 : x7_1 < (l0.length : Int) := of_decide_eq_true (by first | (with_reducible assumption) | assumption)
                    obtain ⟨ad241, e241, hx241_0, hx241_1, hx241_2, hx241_3⟩ := at_T53 HR0.out x7_1 p241 q241
                    cases e241
                    replace p241 := eq_true p241
                    replace q241 := eq_true q241
                    have p242 : 0 ≤ (x7_1 : Int) := of_decide_eq_true (by first | (with_reducible assumption) | assumption)
                    have q242 : x7_1 < (l1.length : Int) := of_decide_eq_true (by first | (with_reducible assumption) | assumption)
                    obtain ⟨ad242, e242, hx242_0, hx242_1, hx242_2, hx242_3⟩ := at_T53 HR1.out x7_1 p242 q242
                    cases e242
                    replace p242 := eq_true p242
                    replace q242 := eq_true q242
                    have p243 : 0 ≤ (x7_1 : Int) := of_decide_eq_true (by first | (with_reducible assumption) | assumption)
                    have q243 : x7_1 < (l0.length : Int) := of_decide_eq_true (by first | (with_reducible assumption) | assumption)
                    obtain ⟨ad243, e243, hx243_0, hx243_1, hx243_2, hx243_3⟩ := at_T53 HR0.out x7_1 p243 q243
                    obtain rfl : ad241 = ad243 := (by injection e243)
                    replace p243 := eq_true p243
                    replace q243 := eq_true q243
                    have p244 : 0 ≤ (x7_1 : Int) := of_decide_eq_true (by first | (with_reducible assumption) | assumption)
                    have q244 : x7_1 < (l1.length : Int) := of_decide_eq_true (by first | (with_reducible assumption) | assumption)
                    obtain ⟨ad244, e244, hx244_0, hx244_1, hx244_2, hx244_3⟩ := at_T53 HR1.out x7_1 p244 q244
                    obtain rfl : ad242 = ad244 := (by injection e244)
                    replace p244 := eq_true p244
                    replace q244 := eq_true q244
                    have p245 : 0 ≤ (x7_1 : Int) := of_decide_eq_true (by first | (with_reducible assumption) | assumption)
                    have q245 : x7_1 < (l0.length : Int) := of_decide_eq_true (by first | (with_reducible assumption) | assumption)
                    obtain ⟨ad245, e245, hx245_0, hx245_1, hx245_2, hx245_3⟩ := at_T53 HR0.out x7_1 p245 q245
                    obtain rfl : ad241 = ad245 := (by injection e245)
                    replace p245 := eq_true p245
                    replace q245 := eq_true q245
                    have p246 : 0 ≤ (x7_1 : Int) := of_decide_eq_true (by first | (with_reducible assumption) | assumption)
                    have q246 : x7_1 < (l1.length : Int) := of_decide_eq_true (by first | (with_reducible assumption) | assumption)
                    obtain ⟨ad246, e246, hx246_0, hx246_1, hx246_2, hx246_3⟩ := at_T53 HR1.out x7_1 p246 q246
                    obtain rfl : ad242 = ad246 := (by injection e246)
                    replace p246 := eq_true p246
                    replace q246 := eq_true q246
                    go_wp2
                    repeat (go_quiet (fail); try go_wp2)
                    go_ret
                    exact ⟨by first | rfl | (simp; done) | (simp [*]; done), by repeat (first | exact Drawn0.refl _ | apply Drawn0.step)⟩
                · rw [if_neg c9] at H
                  have c9b0 : (((rd_T53 l0 x7_1).f1).toList == ((rd_T53 l1 x7_1).f1).toList) = false := beq_eq_false_iff_ne.mpr c9
                  have c9b1 : (((rd_T53 l0 x7_1).f1).toList != ((rd_T53 l1 x7_1).f1).toList) = true := bne_iff_ne.mpr c9
                  obtain rfl := Option.some.inj H
                  have p241 : 0 ≤ (x7_1 : Int) := of_decide_eq_true (by first | (with_reducible assumption) | assumption)
                  have q241 : x7_1 < (l0.length : Int) := of_decide_eq_true (by first | (with_reducible assumption) | assumption)
                  obtain ⟨ad241, e241, hx241_0, hx241_1, hx241_2, hx241_3⟩ := at_T53 HR0.out x7_1 p241 q241
                  cases e241
                  replace p241 := eq_true p241
                  replace q241 := eq_true q241
                  have p242 : 0 ≤ (x7_1 : Int) := of_decide_eq_true (by first | (with_reducible assumption) | assumption)
                  have q242 : x7_1 < (l1.length : Int) := of_decide_eq_true (by first | (with_reducible assumption) | assumption)
                  obtain ⟨ad242, e242, hx242_0, hx242_1, hx242_2, hx242_3⟩ := at_T53 HR1.out x7_1 p242 q242
                  cases e242
                  replace p242 := eq_true p242
                  replace q242 := eq_true q242
                  have p243 : 0 ≤ (x7_1 : Int) := of_decide_eq_true (by first | (with_reducible assumption) | assumption)
                  have q243 : x7_1 < (l0.length : Int) := of_decide_eq_true (by first | (with_reducible assumption) | assumption)
                  obtain ⟨ad243, e243, hx243_0, hx243_1, hx243_2, hx243_3⟩ := at_T53 HR0.out x7_1 p243 q243
                  obtain rfl : ad241 = ad243 := (by injection e243)
                  replace p243 := eq_true p243
                  replace q243 := eq_true q243
                  have p244 : 0 ≤ (x7_1 : Int) := of_decide_eq_true (by first | (with_reducible assumption) | assumption)
                  have q244 : x7_1 < (l1.length : Int) := of_decide_eq_true (by first | (with_reducible assumption) | assumption)
                  obtain ⟨ad244, e244, hx244_0, hx244_1, hx244_2, hx244_3⟩ := at_T53 HR1.out x7_1 p244 q244
                  obtain rfl : ad242 = ad244 := (by injection e244)
                  replace p244 := eq_true p244
                  replace q244 := eq_true q244
                  go_wp2
                  repeat (go_quiet (fail); try go_wp2)
                  go_ret
                  exact ⟨by first | rfl | (simp; done) | (simp [*]; done), by repeat (first | exact Drawn0.refl _ | apply Drawn0.step)⟩
              · rw [if_neg c8] at H
                have c8b0 : (((rd_T53 l0 x7_1).f0) == ((rd_T53 l1 x7_1).f0)) = false := beq_eq_false_iff_ne.mpr c8
                have c8b1 : (((rd_T53 l0 x7_1).f0) != ((rd_T53 l1 x7_1).f0)) = true := bne_iff_ne.mpr c8
                obtain rfl := Option.some.inj H
                have p241 : 0 ≤ (x7_1 : Int) := of_decide_eq_true (by first | (with_reducible assumption) | assumption)
                have q241 : x7_1 < (l0.length : Int) := of_decide_eq_true (by first | (with_reducible assumption) | assumption)
                obtain ⟨ad241, e241, hx241_0, hx241_1, hx241_2, hx241_3⟩ := at_T53 HR0.out x7_1 p241 q241
                cases e241
                replace p241 := eq_true p241
                replace q241 := eq_true q241
                have p242 : 0 ≤ (x7_1 : Int) := of_decide_eq_true (by first | (with_reducible assumption) | assumption)
                have q242 : x7_1 < (l1.length : Int) := of_decide_eq_true (by first | (with_reducible assumption) | assumption)
                obtain ⟨ad242, e242, hx242_0, hx242_1, hx242_2, hx242_3⟩ := at_T53 HR1.out x7_1 p242 q242
                cases e242
                replace p242 := eq_true p242
                replace q242 := eq_true q242
                go_wp2
                repeat (go_quiet (fail); try go_wp2)
                go_ret
                exact ⟨by first | rfl | (simp; done) | (simp [*]; done), by repeat (first | exact Drawn0.refl _ | apply Drawn0.step)⟩
            · rw [if_neg c7] at H
              exact absurd H (by simp)
          · rw [if_neg c6] at H
            exact absurd H (by simp)
        · rw [if_neg c5] at H
          have c5b0 : decide (x7_1 < (l0.length : Int)) = false := decide_eq_false c5
          clear c5
          obtain rfl := Option.some.inj H
          go_wp2
          repeat (go_quiet (fail); try go_wp2)
          go_ret
          exact ⟨by first | rfl | (simp; done) | (simp [*]; done), by repeat (first | exact Drawn0.refl _ | apply Drawn0.step)⟩
  · rw [if_neg c4] at H
    have c4b0 : ((l0.length : Int) == (l1.length : Int)) = false := beq_eq_false_iff_ne.mpr c4
    have c4b1 : ((l0.length : Int) != (l1.length : Int)) = true := bne_iff_ne.mpr c4
    have c4b2 : (l0.length == l1.length) = false := by first | simpa using c4 | (simp at c4 ⊢; omega)
    obtain rfl := Option.some.inj H
    go_enter Tryd.func10, Tryd.ntmps10
    go_wp2
    repeat (go_quiet (fail); try go_wp2)
    go_ret
    exact ⟨by first | rfl | (simp; done) | (simp [*]; done), by repeat (first | exact Drawn0.refl _ | apply Drawn0.step)⟩

end Go.Proofs.YtipjpdiianopcaaDoor.A
