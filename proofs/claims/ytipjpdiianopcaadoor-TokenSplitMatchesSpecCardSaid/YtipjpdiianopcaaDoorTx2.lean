/- Functions of the program as plain Lean functions, each with a proof that the call of the Go function answers as it does. -/
import Derived.Test.YtipjpdiianopcaaDoorTx0
import Derived.Test.YtipjpdiianopcaaDoorCt
namespace Go.Proofs.YtipjpdiianopcaaDoor.A
open Go.RowKit Go.Proofs.YtipjpdiianopcaaW.PrintWords Go.Proofs.YtipjpdiianopcaaW.PrintLast Go.Proofs.YtipjpdiianopcaaW.PrintMore Go.Proofs.YtipjpdiianopcaaDoor.A Go.Proofs.YtipjpdiianopcaaDoor.Ct
attribute [local go_sem] max2_int min2_int max_two min_two max_three min_three max_four min_four   -- for this text's walks alone
set_option linter.unusedVariables false
set_option linter.unusedSimpArgs false

-- NOT PRINTED: function 89 (bytealg_IndexByteString)

-- NOT PRINTED: function 76 (stringslite_IndexByte)

/-! ### token_sign: function 31 -/
def token_sign.j0 : Nat → ByteArray → Bool → Option (ByteArray)
  | 0, _, _ => none
  | k + 1, x0, x17 => if x17 = true then (if 0 ≤ 2 then (if 2 ≤ (x0.size : Int) then (some (x0.extract 0 2)) else (none)) else (none)) else (if x0.toList = ([] : List UInt8) then (some (⟨#[]⟩ : ByteArray)) else (if 0 < (x0.size : Int) then ((strings_IndexByte.f (⟨#[43, 45, 42, 47, 37, 38, 124, 94, 126, 40, 41, 44, 58, 61, 64]⟩ : ByteArray) (bt x0 0)).bind fun t101 => (if t101 ≥ 0 then (if 0 ≤ 1 then (if 1 ≤ (x0.size : Int) then (some (x0.extract 0 1)) else (none)) else (none)) else (some (⟨#[]⟩ : ByteArray)))) else (none)))
def token_sign.f (k : Nat) (a0 : ByteArray) : Option (ByteArray) := if (a0.size : Int) ≥ 2 then (if 0 ≤ 2 then (if 2 ≤ (a0.size : Int) then (if 2 ≤ 4 then (if (a0.extract 0 2).toList = ((⟨#[60, 60, 62, 62]⟩ : ByteArray).extract 0 2).toList then (token_sign.j0 k a0 true) else (token_sign.j0 k a0 ((a0.extract 0 2).toList == ((⟨#[60, 60, 62, 62]⟩ : ByteArray).extract 2 (⟨#[60, 60, 62, 62]⟩ : ByteArray).size).toList))) else (none)) else (none)) else (none)) else (token_sign.j0 k a0 false)
theorem token_sign.mono_l : ∀ k, (∀ y0 y1, LeO (token_sign.j0 k y0 y1) (token_sign.j0 (k + 1) y0 y1))
  | 0 => fun _ _ r h => by simp [token_sign.j0] at h
  | k + 1 => by
    have ih0 := token_sign.mono_l k
    · intro y0 y1
      unfold token_sign.j0
      repeat' first
      | (with_reducible exact ih0 _ _)
      | (with_reducible exact LeO.refl _)
      | (with_reducible exact LeO.none _)
      | (with_reducible refine LeO.ite ?_ ?_)
      | (with_reducible refine LeO.bind ?_ (fun _ => ?_))
      | exact ih0 _ _
      | exact LeO.none _
      | refine LeO.ite ?_ ?_
      | refine LeO.bind ?_ (fun _ => ?_)
theorem token_sign.mono : ∀ a0 k, LeO (token_sign.f k a0) (token_sign.f (k + 1) a0) := by
  intro a0 k
  have ih0 := token_sign.mono_l k
  unfold token_sign.f
  repeat' first
      | (with_reducible exact ih0 _ _)
      | (with_reducible exact LeO.refl _)
      | (with_reducible exact LeO.none _)
      | (with_reducible refine LeO.ite ?_ ?_)
      | (with_reducible refine LeO.bind ?_ (fun _ => ?_))
      | exact ih0 _ _
      | exact LeO.none _
      | refine LeO.ite ?_ ?_
      | refine LeO.bind ?_ (fun _ => ?_)
set_option maxHeartbeats 8000000 in
set_option maxRecDepth 100000 in
theorem token_sign.calls (k : Nat) (a0 : ByteArray) (r : ByteArray) (w : World) (h : token_sign.f k a0 = some r) :
    Calls Tryd.prog 31 #[.string a0] w fun e w' => e = .returned (.string r) ∧ Drawn0 w w' := by
  have H : (if (a0.size : Int) ≥ 2 then (if 0 ≤ 2 then (if 2 ≤ (a0.size : Int) then (if 2 ≤ 4 then (if (a0.extract 0 2).toList = ((⟨#[60, 60, 62, 62]⟩ : ByteArray).extract 0 2).toList then (token_sign.j0 k a0 true) else (token_sign.j0 k a0 ((a0.extract 0 2).toList == ((⟨#[60, 60, 62, 62]⟩ : ByteArray).extract 2 (⟨#[60, 60, 62, 62]⟩ : ByteArray).size).toList))) else (none)) else (none)) else (none)) else (token_sign.j0 k a0 false)) = some r := h
  clear h
  have HC2 := Aside0.mk H
  clear H
  go_enter Tryd.func31, Tryd.ntmps31
  go_upto_region 1 with (fail)
  repeat (go_quiet (fail); go_upto_region 1 with (fail))
  go_cut [17] (fun v17 wc => ∃ (kq : Nat) (x17_1 : Bool), v17 = .bool x17_1 ∧ Aside0 (token_sign.j0 kq a0 x17_1 = some r) ∧ Aside0 (kq ≤ k) ∧ Drawn0 w wc)
  case first =>
    have H := HC2.out
    clear HC2
    by_cases c3 : (a0.size : Int) ≥ 2
    · rw [if_pos c3] at H
      have c3b0 : decide (2 ≤ (a0.size : Int)) = true := decide_eq_true c3
      have c3b1 : decide (2 ≤ a0.size) = true := decide_eq_true (by omega)
      clear c3
      (first | rw [c3b0] | (simp only [i64_w, i32_w]; rw [c3b0]) | skip)
      by_cases c4 : 0 ≤ 2
      · rw [if_pos c4] at H
        have c4b0 := eq_true c4
        have c4b1 : decide (0 ≤ 2) = true := decide_eq_true c4
        clear c4
        by_cases c5 : 2 ≤ (a0.size : Int)
        · rw [if_pos c5] at H
          have c5b0 := eq_true c5
          have c5b1 : decide (2 ≤ (a0.size : Int)) = true := decide_eq_true c5
          clear c5
          have c6b0 := eq_true (of_decide_eq_true (by first | (with_reducible assumption) | assumption) : 0 ≤ 2)
          by_cases c7 : 2 ≤ 4
          · rw [if_pos c7] at H
            have c7b0 := eq_true c7
            have c7b1 : decide (2 ≤ 4) = true := decide_eq_true c7
            clear c7
            by_cases c8 : (a0.extract 0 2).toList = ((⟨#[60, 60, 62, 62]⟩ : ByteArray).extract 0 2).toList
            · rw [if_pos c8] at H
              have c8b0 : ((a0.extract 0 2).toList == ((⟨#[60, 60, 62, 62]⟩ : ByteArray).extract 0 2).toList) = true := beq_iff_eq.mpr c8
              have c8b1 : ((a0.extract 0 2).toList != ((⟨#[60, 60, 62, 62]⟩ : ByteArray).extract 0 2).toList) = false := bne_eq_false_iff_eq.mpr c8
              clear c8
              have H' := Aside0.mk H
              clear H
              go_wp2
              repeat (go_quiet (fail); try go_wp2)
              go_meet
              case rel => exact ⟨_, (true), (by first | rfl | (simp; done) | (simp [*]; done)), H', ⟨by first | omega | exact Nat.le_refl _⟩, by repeat (first | exact Drawn0.refl _ | apply Drawn0.step)⟩
            · rw [if_neg c8] at H
              have c8b0 : ((a0.extract 0 2).toList == ((⟨#[60, 60, 62, 62]⟩ : ByteArray).extract 0 2).toList) = false := beq_eq_false_iff_ne.mpr c8
              have c8b1 : ((a0.extract 0 2).toList != ((⟨#[60, 60, 62, 62]⟩ : ByteArray).extract 0 2).toList) = true := bne_iff_ne.mpr c8
              have c9b0 := eq_true (of_decide_eq_true (by first | (with_reducible assumption) | assumption) : 0 ≤ 2)
              have c10b0 := eq_true (of_decide_eq_true (by first | (with_reducible assumption) | assumption) : 2 ≤ (a0.size : Int))
              have c11b0 := eq_true (of_decide_eq_true (by first | (with_reducible assumption) | assumption) : 2 ≤ 4)
              have H' := Aside0.mk H
              clear H
              go_wp2
              repeat (go_quiet (fail); try go_wp2)
              go_meet
              case rel => exact ⟨_, (((a0.extract 0 2).toList == ((⟨#[60, 60, 62, 62]⟩ : ByteArray).extract 2 (⟨#[60, 60, 62, 62]⟩ : ByteArray).size).toList)), (by first | rfl | (simp; done) | (simp [*]; done)), H', ⟨by first | omega | exact Nat.le_refl _⟩, by repeat (first | exact Drawn0.refl _ | apply Drawn0.step)⟩
          · rw [if_neg c7] at H
            exact absurd H (by simp)
        · rw [if_neg c5] at H
          exact absurd H (by simp)
      · rw [if_neg c4] at H
        exact absurd H (by simp)
    · rw [if_neg c3] at H
      have c3b0 : decide (2 ≤ (a0.size : Int)) = false := decide_eq_false c3
      have c3b1 : decide (2 ≤ a0.size) = false := decide_eq_false (by omega)
      clear c3
      (first | rw [c3b0] | (simp only [i64_w, i32_w]; rw [c3b0]) | skip)
      have H' := Aside0.mk H
      clear H
      go_wp2
      repeat (go_quiet (fail); try go_wp2)
      go_meet
      case rel => exact ⟨_, (false), (by first | rfl | (simp; done) | (simp [*]; done)), H', ⟨by first | omega | exact Nat.le_refl _⟩, by repeat (first | exact Drawn0.refl _ | apply Drawn0.step)⟩
  case rest =>
    clear HC2
    try clear c1
    try clear p2
    try clear c3
    try clear c3b0
    try clear c3b1
    try clear c4
    try clear c4b0
    try clear c4b1
    try clear c5
    try clear c5b0
    try clear c5b1
    try clear c6
    try clear c6b0
    try clear c7
    try clear c7b0
    try clear c7b1
    try clear c8
    try clear c8b0
    try clear c8b1
    try clear c9
    try clear c9b0
    try clear c10
    try clear c10b0
    try clear c11
    try clear c11b0
    obtain ⟨kq, x17_1, rfl, HA, HJ1, ⟨mc1, rfl⟩⟩ := hcut
    cases kq with
    | zero => exact absurd HA.out (by simp [token_sign.j0])
    | succ kj1 =>
      have H := HA.out
      clear HA
      simp only [token_sign.j0] at H
      by_cases c12 : x17_1 = true
      · subst c12
        have H1 : (if 0 ≤ 2 then (if 2 ≤ (a0.size : Int) then (some (a0.extract 0 2)) else (none)) else (none)) = some r := by rw [if_pos rfl] at H; exact H
        clear H
        have H := H1
        clear H1
        by_cases c13 : 0 ≤ 2
        · rw [if_pos c13] at H
          have c13b0 := eq_true c13
          have c13b1 : decide (0 ≤ 2) = true := decide_eq_true c13
          clear c13
          by_cases c14 : 2 ≤ (a0.size : Int)
          · rw [if_pos c14] at H
            have c14b0 := eq_true c14
            have c14b1 : decide (2 ≤ (a0.size : Int)) = true := decide_eq_true c14
            clear c14
            obtain rfl := Option.some.inj H
            go_wp2
            repeat (go_quiet (fail); try go_wp2)
            go_ret
            exact ⟨by first | rfl | (simp; done) | (simp [*]; done), by repeat (first | exact Drawn0.refl _ | apply Drawn0.step)⟩
          · rw [if_neg c14] at H
            exact absurd H (by simp)
        · rw [if_neg c13] at H
          exact absurd H (by simp)
      · replace c12 := Bool.eq_false_iff.mpr c12
        subst c12
        have H1 : (if a0.toList = ([] : List UInt8) then (some (⟨#[]⟩ : ByteArray)) else (if 0 < (a0.size : Int) then ((strings_IndexByte.f (⟨#[43, 45, 42, 47, 37, 38, 124, 94, 126, 40, 41, 44, 58, 61, 64]⟩ : ByteArray) (bt a0 0)).bind fun t101 => (if t101 ≥ 0 then (if 0 ≤ 1 then (if 1 ≤ (a0.size : Int) then (some (a0.extract 0 1)) else (none)) else (none)) else (some (⟨#[]⟩ : ByteArray)))) else (none))) = some r := by rw [if_neg (show ¬ (false = true) by decide)] at H; exact H
        clear H
        have H := H1
        clear H1
        by_cases c15 : a0.toList = ([] : List UInt8)
        · rw [if_pos c15] at H
          have c15b0 : (a0.toList == ([] : List UInt8)) = true := beq_iff_eq.mpr c15
          have c15b1 : (a0.toList != ([] : List UInt8)) = false := bne_eq_false_iff_eq.mpr c15
          clear c15
          obtain rfl := Option.some.inj H
          go_wp2
          repeat (go_quiet (fail); try go_wp2)
          go_ret
          exact ⟨by first | rfl | (simp; done) | (simp [*]; done), by repeat (first | exact Drawn0.refl _ | apply Drawn0.step)⟩
        · rw [if_neg c15] at H
          have c15b0 : (a0.toList == ([] : List UInt8)) = false := beq_eq_false_iff_ne.mpr c15
          have c15b1 : (a0.toList != ([] : List UInt8)) = true := bne_iff_ne.mpr c15
          by_cases c16 : 0 < (a0.size : Int)
          · rw [if_pos c16] at H
            have c16b0 : decide (0 < (a0.size : Int)) = true := decide_eq_true c16
            have c16b1 : decide (0 < a0.size) = true := decide_eq_true (by omega)
            clear c16
            replace H := Option.bind_eq_some_iff.mp H
            obtain ⟨t101, A180, H⟩ := H
            replace H : (if t101 ≥ 0 then (if 0 ≤ 1 then (if 1 ≤ (a0.size : Int) then (some (a0.extract 0 1)) else (none)) else (none)) else (some (⟨#[]⟩ : ByteArray))) = some r := H
            have A18 := Aside0.mk A180
            clear A180
            by_cases c19 : t101 ≥ 0
            · rw [if_pos c19] at H
              have c19b0 : decide (0 ≤ t101) = true := decide_eq_true c19
              clear c19
              by_cases c20 : 0 ≤ 1
              · rw [if_pos c20] at H
                have c20b0 := eq_true c20
                have c20b1 : decide (0 ≤ 1) = true := decide_eq_true c20
                clear c20
                by_cases c21 : 1 ≤ (a0.size : Int)
                · rw [if_pos c21] at H
                  have c21b0 := eq_true c21
                  have c21b1 : decide (1 ≤ (a0.size : Int)) = true := decide_eq_true c21
                  clear c21
                  obtain rfl := Option.some.inj H
                  have p17 : 0 ≤ (0 : Int) := (by omega)
                  have q17 : 0 < a0.size := (by have : (0 : Int) < (a0.size : Int) := of_decide_eq_true (by first | (with_reducible assumption) | assumption); omega)
                  have hx17 : ∀ h : 0 < a0.size, ((a0[0]'h).toNat : Int) = bt a0 0 := bt_at a0 0
                  clear p17
                  have qi17 : (0 < (a0.size : Int)) = True := eq_true (of_decide_eq_true (by first | (with_reducible assumption) | assumption))
                  replace q17 := eq_true q17
                  go_wp2_with (first | (go_at_call 55; (with_reducible refine (strings_IndexByte.calls (⟨#[43, 45, 42, 47, 37, 38, 124, 94, 126, 40, 41, 44, 58, 61, 64]⟩ : ByteArray) (bt a0 0) t101 _ A18.out).mono ?_); rintro e w' ⟨rfl, ⟨nd, rfl⟩⟩; (try first | exact ⟨rfl, _, World.drewN_drewN _ _ _⟩ | exact ⟨rfl, _, Eq.trans (World.drewN_drewN _ _ _) (congrArg (World.drewN _) (Nat.add_assoc _ _ _))⟩)))
                  repeat (go_quiet (first | (go_at_call 55; (with_reducible refine (strings_IndexByte.calls (⟨#[43, 45, 42, 47, 37, 38, 124, 94, 126, 40, 41, 44, 58, 61, 64]⟩ : ByteArray) (bt a0 0) t101 _ A18.out).mono ?_); rintro e w' ⟨rfl, ⟨nd, rfl⟩⟩; (try first | exact ⟨rfl, _, World.drewN_drewN _ _ _⟩ | exact ⟨rfl, _, Eq.trans (World.drewN_drewN _ _ _) (congrArg (World.drewN _) (Nat.add_assoc _ _ _))⟩))); try go_wp2_with (first | (go_at_call 55; (with_reducible refine (strings_IndexByte.calls (⟨#[43, 45, 42, 47, 37, 38, 124, 94, 126, 40, 41, 44, 58, 61, 64]⟩ : ByteArray) (bt a0 0) t101 _ A18.out).mono ?_); rintro e w' ⟨rfl, ⟨nd, rfl⟩⟩; (try first | exact ⟨rfl, _, World.drewN_drewN _ _ _⟩ | exact ⟨rfl, _, Eq.trans (World.drewN_drewN _ _ _) (congrArg (World.drewN _) (Nat.add_assoc _ _ _))⟩))))
                  go_ret
                  exact ⟨by first | rfl | (simp; done) | (simp [*]; done), by repeat (first | exact Drawn0.refl _ | apply Drawn0.step)⟩
                · rw [if_neg c21] at H
                  exact absurd H (by simp)
              · rw [if_neg c20] at H
                exact absurd H (by simp)
            · rw [if_neg c19] at H
              have c19b0 : decide (0 ≤ t101) = false := decide_eq_false c19
              clear c19
              obtain rfl := Option.some.inj H
              have p17 : 0 ≤ (0 : Int) := (by omega)
              have q17 : 0 < a0.size := (by have : (0 : Int) < (a0.size : Int) := of_decide_eq_true (by first | (with_reducible assumption) | assumption); omega)
              have hx17 : ∀ h : 0 < a0.size, ((a0[0]'h).toNat : Int) = bt a0 0 := bt_at a0 0
              clear p17
              have qi17 : (0 < (a0.size : Int)) = True := eq_true (of_decide_eq_true (by first | (with_reducible assumption) | assumption))
              replace q17 := eq_true q17
              go_wp2_with (first | (go_at_call 55; (with_reducible refine (strings_IndexByte.calls (⟨#[43, 45, 42, 47, 37, 38, 124, 94, 126, 40, 41, 44, 58, 61, 64]⟩ : ByteArray) (bt a0 0) t101 _ A18.out).mono ?_); rintro e w' ⟨rfl, ⟨nd, rfl⟩⟩; (try first | exact ⟨rfl, _, World.drewN_drewN _ _ _⟩ | exact ⟨rfl, _, Eq.trans (World.drewN_drewN _ _ _) (congrArg (World.drewN _) (Nat.add_assoc _ _ _))⟩)))
              repeat (go_quiet (first | (go_at_call 55; (with_reducible refine (strings_IndexByte.calls (⟨#[43, 45, 42, 47, 37, 38, 124, 94, 126, 40, 41, 44, 58, 61, 64]⟩ : ByteArray) (bt a0 0) t101 _ A18.out).mono ?_); rintro e w' ⟨rfl, ⟨nd, rfl⟩⟩; (try first | exact ⟨rfl, _, World.drewN_drewN _ _ _⟩ | exact ⟨rfl, _, Eq.trans (World.drewN_drewN _ _ _) (congrArg (World.drewN _) (Nat.add_assoc _ _ _))⟩))); try go_wp2_with (first | (go_at_call 55; (with_reducible refine (strings_IndexByte.calls (⟨#[43, 45, 42, 47, 37, 38, 124, 94, 126, 40, 41, 44, 58, 61, 64]⟩ : ByteArray) (bt a0 0) t101 _ A18.out).mono ?_); rintro e w' ⟨rfl, ⟨nd, rfl⟩⟩; (try first | exact ⟨rfl, _, World.drewN_drewN _ _ _⟩ | exact ⟨rfl, _, Eq.trans (World.drewN_drewN _ _ _) (congrArg (World.drewN _) (Nat.add_assoc _ _ _))⟩))))
              go_ret
              exact ⟨by first | rfl | (simp; done) | (simp [*]; done), by repeat (first | exact Drawn0.refl _ | apply Drawn0.step)⟩
          · rw [if_neg c16] at H
            exact absurd H (by simp)

/-! ### token_isDigit: function 56 -/
def token_isDigit.f (a0 : Int) : Option (Bool) := if a0 ≥ 48 then (some (decide (a0 ≤ 57))) else (some false)
set_option maxHeartbeats 8000000 in
set_option maxRecDepth 100000 in
theorem token_isDigit.calls (a0 : Int) (r : Bool) (w : World) (h : token_isDigit.f a0 = some r) :
    Calls Tryd.prog 56 #[.int .u8 a0] w fun e w' => e = .returned (.bool r) ∧ Drawn0 w w' := by
  have H : (if a0 ≥ 48 then (some (decide (a0 ≤ 57))) else (some false)) = some r := h
  clear h
  by_cases c2 : a0 ≥ 48
  · rw [if_pos c2] at H
    have c2b0 : decide (48 ≤ a0) = true := decide_eq_true c2
    clear c2
    obtain rfl := Option.some.inj H
    go_enter Tryd.func56, Tryd.ntmps56
    go_wp2
    go_ret
    exact ⟨by first | rfl | (simp; done) | (simp [*]; done), by repeat (first | exact Drawn0.refl _ | apply Drawn0.step)⟩
  · rw [if_neg c2] at H
    have c2b0 : decide (48 ≤ a0) = false := decide_eq_false c2
    clear c2
    obtain rfl := Option.some.inj H
    go_enter Tryd.func56, Tryd.ntmps56
    go_wp2
    go_ret
    exact ⟨by first | rfl | (simp; done) | (simp [*]; done), by repeat (first | exact Drawn0.refl _ | apply Drawn0.step)⟩

/-! ### token_isNameByte: function 32 -/
def token_isNameByte.f (a0 : Int) : Option (Bool) := if a0 ≥ 97 then (if a0 ≤ 122 then (some true) else (if a0 ≥ 65 then (if a0 ≤ 90 then (some true) else ((token_isDigit.f a0).bind fun t102 => (if t102 = true then (some true) else (if a0 = 46 then (some true) else (if a0 = 95 then (some true) else (some (a0 == 36))))))) else ((token_isDigit.f a0).bind fun t103 => (if t103 = true then (some true) else (if a0 = 46 then (some true) else (if a0 = 95 then (some true) else (some (a0 == 36)))))))) else (if a0 ≥ 65 then (if a0 ≤ 90 then (some true) else ((token_isDigit.f a0).bind fun t104 => (if t104 = true then (some true) else (if a0 = 46 then (some true) else (if a0 = 95 then (some true) else (some (a0 == 36))))))) else ((token_isDigit.f a0).bind fun t105 => (if t105 = true then (some true) else (if a0 = 46 then (some true) else (if a0 = 95 then (some true) else (some (a0 == 36)))))))
set_option maxHeartbeats 8000000 in
set_option maxRecDepth 100000 in
theorem token_isNameByte.calls (a0 : Int) (r : Bool) (w : World) (h : token_isNameByte.f a0 = some r) :
    Calls Tryd.prog 32 #[.int .u8 a0] w fun e w' => e = .returned (.bool r) ∧ Drawn0 w w' := by
  have H : (if a0 ≥ 97 then (if a0 ≤ 122 then (some true) else (if a0 ≥ 65 then (if a0 ≤ 90 then (some true) else ((token_isDigit.f a0).bind fun t102 => (if t102 = true then (some true) else (if a0 = 46 then (some true) else (if a0 = 95 then (some true) else (some (a0 == 36))))))) else ((token_isDigit.f a0).bind fun t103 => (if t103 = true then (some true) else (if a0 = 46 then (some true) else (if a0 = 95 then (some true) else (some (a0 == 36)))))))) else (if a0 ≥ 65 then (if a0 ≤ 90 then (some true) else ((token_isDigit.f a0).bind fun t104 => (if t104 = true then (some true) else (if a0 = 46 then (some true) else (if a0 = 95 then (some true) else (some (a0 == 36))))))) else ((token_isDigit.f a0).bind fun t105 => (if t105 = true then (some true) else (if a0 = 46 then (some true) else (if a0 = 95 then (some true) else (some (a0 == 36)))))))) = some r := h
  clear h
  by_cases c2 : a0 ≥ 97
  · rw [if_pos c2] at H
    have c2b0 : decide (97 ≤ a0) = true := decide_eq_true c2
    clear c2
    by_cases c3 : a0 ≤ 122
    · rw [if_pos c3] at H
      have c3b0 : decide (a0 ≤ 122) = true := decide_eq_true c3
      clear c3
      obtain rfl := Option.some.inj H
      go_enter Tryd.func32, Tryd.ntmps32
      go_wp2
      go_ret
      exact ⟨by first | rfl | (simp; done) | (simp [*]; done), by repeat (first | exact Drawn0.refl _ | apply Drawn0.step)⟩
    · rw [if_neg c3] at H
      have c3b0 : decide (a0 ≤ 122) = false := decide_eq_false c3
      clear c3
      by_cases c4 : a0 ≥ 65
      · rw [if_pos c4] at H
        have c4b0 : decide (65 ≤ a0) = true := decide_eq_true c4
        clear c4
        by_cases c5 : a0 ≤ 90
        · rw [if_pos c5] at H
          have c5b0 : decide (a0 ≤ 90) = true := decide_eq_true c5
          clear c5
          obtain rfl := Option.some.inj H
          go_enter Tryd.func32, Tryd.ntmps32
          go_wp2
          go_ret
          exact ⟨by first | rfl | (simp; done) | (simp [*]; done), by repeat (first | exact Drawn0.refl _ | apply Drawn0.step)⟩
        · rw [if_neg c5] at H
          have c5b0 : decide (a0 ≤ 90) = false := decide_eq_false c5
          clear c5
          replace H := Option.bind_eq_some_iff.mp H
          obtain ⟨t102, A60, H⟩ := H
          replace H : (if t102 = true then (some true) else (if a0 = 46 then (some true) else (if a0 = 95 then (some true) else (some (a0 == 36))))) = some r := H
          have A6 := Aside0.mk A60
          clear A60
          by_cases c7 : t102 = true
          · subst c7
            have H1 : (some true) = some r := by rw [if_pos rfl] at H; exact H
            clear H
            have H := H1
            clear H1
            obtain rfl := Option.some.inj H
            go_enter Tryd.func32, Tryd.ntmps32
            go_wp2_with (first | (go_at_call 56; (with_reducible refine (token_isDigit.calls a0 true _ A6.out).mono ?_); rintro e w' ⟨rfl, ⟨nd, rfl⟩⟩))
            go_ret
            exact ⟨by first | rfl | (simp; done) | (simp [*]; done), by repeat (first | exact Drawn0.refl _ | apply Drawn0.step)⟩
          · replace c7 := Bool.eq_false_iff.mpr c7
            subst c7
            have H1 : (if a0 = 46 then (some true) else (if a0 = 95 then (some true) else (some (a0 == 36)))) = some r := by rw [if_neg (show ¬ (false = true) by decide)] at H; exact H
            clear H
            have H := H1
            clear H1
            by_cases c8 : a0 = 46
            · rw [if_pos c8] at H
              have c8b0 : (a0 == 46) = true := beq_iff_eq.mpr c8
              have c8b1 : (a0 != 46) = false := bne_eq_false_iff_eq.mpr c8
              clear c8
              obtain rfl := Option.some.inj H
              go_enter Tryd.func32, Tryd.ntmps32
              go_wp2_with (first | (go_at_call 56; (with_reducible refine (token_isDigit.calls a0 false _ A6.out).mono ?_); rintro e w' ⟨rfl, ⟨nd, rfl⟩⟩))
              go_ret
              exact ⟨by first | rfl | (simp; done) | (simp [*]; done), by repeat (first | exact Drawn0.refl _ | apply Drawn0.step)⟩
            · rw [if_neg c8] at H
              have c8b0 : (a0 == 46) = false := beq_eq_false_iff_ne.mpr c8
              have c8b1 : (a0 != 46) = true := bne_iff_ne.mpr c8
              by_cases c9 : a0 = 95
              · rw [if_pos c9] at H
                have c9b0 : (a0 == 95) = true := beq_iff_eq.mpr c9
                have c9b1 : (a0 != 95) = false := bne_eq_false_iff_eq.mpr c9
                clear c9
                obtain rfl := Option.some.inj H
                go_enter Tryd.func32, Tryd.ntmps32
                go_wp2_with (first | (go_at_call 56; (with_reducible refine (token_isDigit.calls a0 false _ A6.out).mono ?_); rintro e w' ⟨rfl, ⟨nd, rfl⟩⟩))
                go_ret
                exact ⟨by first | rfl | (simp; done) | (simp [*]; done), by repeat (first | exact Drawn0.refl _ | apply Drawn0.step)⟩
              · rw [if_neg c9] at H
                have c9b0 : (a0 == 95) = false := beq_eq_false_iff_ne.mpr c9
                have c9b1 : (a0 != 95) = true := bne_iff_ne.mpr c9
                obtain rfl := Option.some.inj H
                go_enter Tryd.func32, Tryd.ntmps32
                go_wp2_with (first | (go_at_call 56; (with_reducible refine (token_isDigit.calls a0 false _ A6.out).mono ?_); rintro e w' ⟨rfl, ⟨nd, rfl⟩⟩))
                go_ret
                exact ⟨by first | rfl | (simp; done) | (simp [*]; done), by repeat (first | exact Drawn0.refl _ | apply Drawn0.step)⟩
      · rw [if_neg c4] at H
        have c4b0 : decide (65 ≤ a0) = false := decide_eq_false c4
        clear c4
        replace H := Option.bind_eq_some_iff.mp H
        obtain ⟨t103, A100, H⟩ := H
        replace H : (if t103 = true then (some true) else (if a0 = 46 then (some true) else (if a0 = 95 then (some true) else (some (a0 == 36))))) = some r := H
        have A10 := Aside0.mk A100
        clear A100
        by_cases c11 : t103 = true
        · subst c11
          have H1 : (some true) = some r := by rw [if_pos rfl] at H; exact H
          clear H
          have H := H1
          clear H1
          obtain rfl := Option.some.inj H
          go_enter Tryd.func32, Tryd.ntmps32
          go_wp2_with (first | (go_at_call 56; (with_reducible refine (token_isDigit.calls a0 true _ A10.out).mono ?_); rintro e w' ⟨rfl, ⟨nd, rfl⟩⟩))
          go_ret
          exact ⟨by first | rfl | (simp; done) | (simp [*]; done), by repeat (first | exact Drawn0.refl _ | apply Drawn0.step)⟩
        · replace c11 := Bool.eq_false_iff.mpr c11
          subst c11
          have H1 : (if a0 = 46 then (some true) else (if a0 = 95 then (some true) else (some (a0 == 36)))) = some r := by rw [if_neg (show ¬ (false = true) by decide)] at H; exact H
          clear H
          have H := H1
          clear H1
          by_cases c12 : a0 = 46
          · rw [if_pos c12] at H
            have c12b0 : (a0 == 46) = true := beq_iff_eq.mpr c12
            have c12b1 : (a0 != 46) = false := bne_eq_false_iff_eq.mpr c12
            clear c12
            obtain rfl := Option.some.inj H
            go_enter Tryd.func32, Tryd.ntmps32
            go_wp2_with (first | (go_at_call 56; (with_reducible refine (token_isDigit.calls a0 false _ A10.out).mono ?_); rintro e w' ⟨rfl, ⟨nd, rfl⟩⟩))
            go_ret
            exact ⟨by first | rfl | (simp; done) | (simp [*]; done), by repeat (first | exact Drawn0.refl _ | apply Drawn0.step)⟩
          · rw [if_neg c12] at H
            have c12b0 : (a0 == 46) = false := beq_eq_false_iff_ne.mpr c12
            have c12b1 : (a0 != 46) = true := bne_iff_ne.mpr c12
            by_cases c13 : a0 = 95
            · rw [if_pos c13] at H
              have c13b0 : (a0 == 95) = true := beq_iff_eq.mpr c13
              have c13b1 : (a0 != 95) = false := bne_eq_false_iff_eq.mpr c13
              clear c13
              obtain rfl := Option.some.inj H
              go_enter Tryd.func32, Tryd.ntmps32
              go_wp2_with (first | (go_at_call 56; (with_reducible refine (token_isDigit.calls a0 false _ A10.out).mono ?_); rintro e w' ⟨rfl, ⟨nd, rfl⟩⟩))
              go_ret
              exact ⟨by first | rfl | (simp; done) | (simp [*]; done), by repeat (first | exact Drawn0.refl _ | apply Drawn0.step)⟩
            · rw [if_neg c13] at H
              have c13b0 : (a0 == 95) = false := beq_eq_false_iff_ne.mpr c13
              have c13b1 : (a0 != 95) = true := bne_iff_ne.mpr c13
              obtain rfl := Option.some.inj H
              go_enter Tryd.func32, Tryd.ntmps32
              go_wp2_with (first | (go_at_call 56; (with_reducible refine (token_isDigit.calls a0 false _ A10.out).mono ?_); rintro e w' ⟨rfl, ⟨nd, rfl⟩⟩))
              go_ret
              exact ⟨by first | rfl | (simp; done) | (simp [*]; done), by repeat (first | exact Drawn0.refl _ | apply Drawn0.step)⟩
  · rw [if_neg c2] at H
    have c2b0 : decide (97 ≤ a0) = false := decide_eq_false c2
    clear c2
    by_cases c14 : a0 ≥ 65
    · rw [if_pos c14] at H
      have c14b0 : decide (65 ≤ a0) = true := decide_eq_true c14
      clear c14
      by_cases c15 : a0 ≤ 90
      · rw [if_pos c15] at H
        have c15b0 : decide (a0 ≤ 90) = true := decide_eq_true c15
        clear c15
        obtain rfl := Option.some.inj H
        go_enter Tryd.func32, Tryd.ntmps32
        go_wp2
        go_ret
        exact ⟨by first | rfl | (simp; done) | (simp [*]; done), by repeat (first | exact Drawn0.refl _ | apply Drawn0.step)⟩
      · rw [if_neg c15] at H
        have c15b0 : decide (a0 ≤ 90) = false := decide_eq_false c15
        clear c15
        replace H := Option.bind_eq_some_iff.mp H
        obtain ⟨t104, A160, H⟩ := H
        replace H : (if t104 = true then (some true) else (if a0 = 46 then (some true) else (if a0 = 95 then (some true) else (some (a0 == 36))))) = some r := H
        have A16 := Aside0.mk A160
        clear A160
        by_cases c17 : t104 = true
        · subst c17
          have H1 : (some true) = some r := by rw [if_pos rfl] at H; exact H
          clear H
          have H := H1
          clear H1
          obtain rfl := Option.some.inj H
          go_enter Tryd.func32, Tryd.ntmps32
          go_wp2_with (first | (go_at_call 56; (with_reducible refine (token_isDigit.calls a0 true _ A16.out).mono ?_); rintro e w' ⟨rfl, ⟨nd, rfl⟩⟩))
          go_ret
          exact ⟨by first | rfl | (simp; done) | (simp [*]; done), by repeat (first | exact Drawn0.refl _ | apply Drawn0.step)⟩
        · replace c17 := Bool.eq_false_iff.mpr c17
          subst c17
          have H1 : (if a0 = 46 then (some true) else (if a0 = 95 then (some true) else (some (a0 == 36)))) = some r := by rw [if_neg (show ¬ (false = true) by decide)] at H; exact H
          clear H
          have H := H1
          clear H1
          by_cases c18 : a0 = 46
          · rw [if_pos c18] at H
            have c18b0 : (a0 == 46) = true := beq_iff_eq.mpr c18
            have c18b1 : (a0 != 46) = false := bne_eq_false_iff_eq.mpr c18
            clear c18
            obtain rfl := Option.some.inj H
            go_enter Tryd.func32, Tryd.ntmps32
            go_wp2_with (first | (go_at_call 56; (with_reducible refine (token_isDigit.calls a0 false _ A16.out).mono ?_); rintro e w' ⟨rfl, ⟨nd, rfl⟩⟩))
            go_ret
            exact ⟨by first | rfl | (simp; done) | (simp [*]; done), by repeat (first | exact Drawn0.refl _ | apply Drawn0.step)⟩
          · rw [if_neg c18] at H
            have c18b0 : (a0 == 46) = false := beq_eq_false_iff_ne.mpr c18
            have c18b1 : (a0 != 46) = true := bne_iff_ne.mpr c18
            by_cases c19 : a0 = 95
            · rw [if_pos c19] at H
              have c19b0 : (a0 == 95) = true := beq_iff_eq.mpr c19
              have c19b1 : (a0 != 95) = false := bne_eq_false_iff_eq.mpr c19
              clear c19
              obtain rfl := Option.some.inj H
              go_enter Tryd.func32, Tryd.ntmps32
              go_wp2_with (first | (go_at_call 56; (with_reducible refine (token_isDigit.calls a0 false _ A16.out).mono ?_); rintro e w' ⟨rfl, ⟨nd, rfl⟩⟩))
              go_ret
              exact ⟨by first | rfl | (simp; done) | (simp [*]; done), by repeat (first | exact Drawn0.refl _ | apply Drawn0.step)⟩
            · rw [if_neg c19] at H
              have c19b0 : (a0 == 95) = false := beq_eq_false_iff_ne.mpr c19
              have c19b1 : (a0 != 95) = true := bne_iff_ne.mpr c19
              obtain rfl := Option.some.inj H
              go_enter Tryd.func32, Tryd.ntmps32
              go_wp2_with (first | (go_at_call 56; (with_reducible refine (token_isDigit.calls a0 false _ A16.out).mono ?_); rintro e w' ⟨rfl, ⟨nd, rfl⟩⟩))
              go_ret
              exact ⟨by first | rfl | (simp; done) | (simp [*]; done), by repeat (first | exact Drawn0.refl _ | apply Drawn0.step)⟩
    · rw [if_neg c14] at H
      have c14b0 : decide (65 ≤ a0) = false := decide_eq_false c14
      clear c14
      replace H := Option.bind_eq_some_iff.mp H
      obtain ⟨t105, A200, H⟩ := H
      replace H : (if t105 = true then (some true) else (if a0 = 46 then (some true) else (if a0 = 95 then (some true) else (some (a0 == 36))))) = some r := H
      have A20 := Aside0.mk A200
      clear A200
      by_cases c21 : t105 = true
      · subst c21
        have H1 : (some true) = some r := by rw [if_pos rfl] at H; exact H
        clear H
        have H := H1
        clear H1
        obtain rfl := Option.some.inj H
        go_enter Tryd.func32, Tryd.ntmps32
        go_wp2_with (first | (go_at_call 56; (with_reducible refine (token_isDigit.calls a0 true _ A20.out).mono ?_); rintro e w' ⟨rfl, ⟨nd, rfl⟩⟩))
        go_ret
        exact ⟨by first | rfl | (simp; done) | (simp [*]; done), by repeat (first | exact Drawn0.refl _ | apply Drawn0.step)⟩
      · replace c21 := Bool.eq_false_iff.mpr c21
        subst c21
        have H1 : (if a0 = 46 then (some true) else (if a0 = 95 then (some true) else (some (a0 == 36)))) = some r := by rw [if_neg (show ¬ (false = true) by decide)] at H; exact H
        clear H
        have H := H1
        clear H1
        by_cases c22 : a0 = 46
        · rw [if_pos c22] at H
          have c22b0 : (a0 == 46) = true := beq_iff_eq.mpr c22
          have c22b1 : (a0 != 46) = false := bne_eq_false_iff_eq.mpr c22
          clear c22
          obtain rfl := Option.some.inj H
          go_enter Tryd.func32, Tryd.ntmps32
          go_wp2_with (first | (go_at_call 56; (with_reducible refine (token_isDigit.calls a0 false _ A20.out).mono ?_); rintro e w' ⟨rfl, ⟨nd, rfl⟩⟩))
          go_ret
          exact ⟨by first | rfl | (simp; done) | (simp [*]; done), by repeat (first | exact Drawn0.refl _ | apply Drawn0.step)⟩
        · rw [if_neg c22] at H
          have c22b0 : (a0 == 46) = false := beq_eq_false_iff_ne.mpr c22
          have c22b1 : (a0 != 46) = true := bne_iff_ne.mpr c22
          by_cases c23 : a0 = 95
          · rw [if_pos c23] at H
            have c23b0 : (a0 == 95) = true := beq_iff_eq.mpr c23
            have c23b1 : (a0 != 95) = false := bne_eq_false_iff_eq.mpr c23
            clear c23
            obtain rfl := Option.some.inj H
            go_enter Tryd.func32, Tryd.ntmps32
            go_wp2_with (first | (go_at_call 56; (with_reducible refine (token_isDigit.calls a0 false _ A20.out).mono ?_); rintro e w' ⟨rfl, ⟨nd, rfl⟩⟩))
            go_ret
            exact ⟨by first | rfl | (simp; done) | (simp [*]; done), by repeat (first | exact Drawn0.refl _ | apply Drawn0.step)⟩
          · rw [if_neg c23] at H
            have c23b0 : (a0 == 95) = false := beq_eq_false_iff_ne.mpr c23
            have c23b1 : (a0 != 95) = true := bne_iff_ne.mpr c23
            obtain rfl := Option.some.inj H
            go_enter Tryd.func32, Tryd.ntmps32
            go_wp2_with (first | (go_at_call 56; (with_reducible refine (token_isDigit.calls a0 false _ A20.out).mono ?_); rintro e w' ⟨rfl, ⟨nd, rfl⟩⟩))
            go_ret
            exact ⟨by first | rfl | (simp; done) | (simp [*]; done), by repeat (first | exact Drawn0.refl _ | apply Drawn0.step)⟩

/-! ### stringslite_HasPrefix: function 77 -/
def stringslite_HasPrefix.f (a0 : ByteArray) (a1 : ByteArray) : Option (Bool) := if (a0.size : Int) ≥ (a1.size : Int) then (if 0 ≤ (a1.size : Int) then (if (a1.size : Int) ≤ (a0.size : Int) then (some ((a0.extract 0 ((a1.size : Int) : Int).toNat).toList == a1.toList)) else (none)) else (none)) else (some false)
set_option maxHeartbeats 8000000 in
set_option maxRecDepth 100000 in
theorem stringslite_HasPrefix.calls (a0 : ByteArray) (a1 : ByteArray) (r : Bool) (w : World) (h : stringslite_HasPrefix.f a0 a1 = some r) :
    Calls Tryd.prog 77 #[.string a0, .string a1] w fun e w' => e = .returned (.bool r) ∧ Drawn0 w w' := by
  have H : (if (a0.size : Int) ≥ (a1.size : Int) then (if 0 ≤ (a1.size : Int) then (if (a1.size : Int) ≤ (a0.size : Int) then (some ((a0.extract 0 ((a1.size : Int) : Int).toNat).toList == a1.toList)) else (none)) else (none)) else (some false)) = some r := h
  clear h
  by_cases c3 : (a0.size : Int) ≥ (a1.size : Int)
  · rw [if_pos c3] at H
    have c3b0 : decide ((a1.size : Int) ≤ (a0.size : Int)) = true := decide_eq_true c3
    have c3b1 : decide (a1.size ≤ a0.size) = true := decide_eq_true (Int.ofNat_le.mp c3)
    clear c3
    by_cases c4 : 0 ≤ (a1.size : Int)
    · rw [if_pos c4] at H
      have c4b0 := eq_true c4
      have c4b1 : decide (0 ≤ (a1.size : Int)) = true := decide_eq_true c4
      clear c4
      by_cases c5 : (a1.size : Int) ≤ (a0.size : Int)
      · rw [if_pos c5] at H
        have c5b0 := eq_true c5
        have c5b1 : decide ((a1.size : Int) ≤ (a0.size : Int)) = true := decide_eq_true c5
        clear c5
        obtain rfl := Option.some.inj H
        go_enter Tryd.func77, Tryd.ntmps77
        go_wp2
        go_ret
        exact ⟨by first | rfl | (simp; done) | (simp [*]; done), by repeat (first | exact Drawn0.refl _ | apply Drawn0.step)⟩
      · rw [if_neg c5] at H
        exact absurd H (by simp)
    · rw [if_neg c4] at H
      exact absurd H (by simp)
  · rw [if_neg c3] at H
    have c3b0 : decide ((a1.size : Int) ≤ (a0.size : Int)) = false := decide_eq_false c3
    have c3b1 : decide (a1.size ≤ a0.size) = false := decide_eq_false (fun h => c3 (Int.ofNat_le.mpr h))
    clear c3
    obtain rfl := Option.some.inj H
    go_enter Tryd.func77, Tryd.ntmps77
    go_wp2
    go_ret
    exact ⟨by first | rfl | (simp; done) | (simp [*]; done), by repeat (first | exact Drawn0.refl _ | apply Drawn0.step)⟩

end Go.Proofs.YtipjpdiianopcaaDoor.A
