/- slices.Equal at []int and the two predicates of package isa, as calls. slices.IndexFunc and slices.ContainsFunc at []api.Form, as calls, whatever the predicate. isa.Validate, as a call. isa.Find, as a call. -/
import Derived.Test.YtipjpdiianopcaaAx0
import Derived.Test.YtipjpdiianopcaaAx6
namespace Go.Proofs.Ytipjpdiianopcaa.Cv
open Go.RowKit Go.Proofs.YtipjpdiianopcaaW.PrintWords Go.Proofs.YtipjpdiianopcaaW.PrintLast Go.Proofs.YtipjpdiianopcaaW.PrintMore Go.Proofs.Ytipjpdiianopcaa.A
set_option linter.unusedVariables false
set_option linter.unusedSimpArgs false

theorem rd_get (l : List Int) (i : Nat) (h : i < l.length) : rd l (i : Int) = l[i] := by
  unfold rd
  rw [Int.toNat_natCast, List.getD_eq_getElem?_getD, List.getElem?_eq_getElem h]
  rfl
theorem take_step (a b : List Int) (i : Nat) (ha : i < a.length) (hb : i < b.length) (h : a.take i = b.take i) (e : rd a (i : Int) = rd b (i : Int)) : a.take (i + 1) = b.take (i + 1) := by
  rw [rd_get a i ha, rd_get b i hb] at e
  rw [List.take_succ_eq_append_getElem ha, List.take_succ_eq_append_getElem hb, h, e]
theorem take_stepi (a b : List Int) (i : Int) (h0 : 0 ≤ i) (ha : i < a.length) (hb : i < b.length) (h : a.take i.toNat = b.take i.toNat) (e : rd a i = rd b i) : a.take (i + 1).toNat = b.take (i + 1).toNat := by
  obtain ⟨n, rfl⟩ : ∃ n : Nat, i = n := ⟨i.toNat, by omega⟩
  rw [Int.toNat_natCast] at h
  exact take_step a b n (by omega) (by omega) h e
theorem eq_of_take (a b : List Int) (hl : a.length = b.length) (h : a.take a.length = b.take a.length) : a = b := by
  rw [List.take_length, hl, List.take_length] at h
  exact h
theorem ne_of_rd (a b : List Int) (i : Int) (e : rd a i ≠ rd b i) : a ≠ b := fun h => e (by rw [h])
set_option maxHeartbeats 8000000 in
set_option maxRecDepth 100000 in
theorem slices_Equal.calls (A0 : Option Addr) (c0 : Nat) (l0 : List Int) (A1 : Option Addr) (c1 : Nat) (l1 : List Int) (w : World) (hr0 : Kd.C (Kd.int .i64) w A0 l0.length l0) (hr1 : Kd.C (Kd.int .i64) w A1 l1.length l1) :
    Calls Try.prog 70 #[.slice A0 l0.length c0, .slice A1 l1.length c1] w fun e w' => e = .returned (.bool (decide (l0 = l1))) ∧ Drawn0 w w' := by
  have hmax := hr0.2.1
  have HR0 := Aside0.mk hr0
  have HR1 := Aside0.mk hr1
  clear hr0 hr1
  obtain ⟨r, hr⟩ : ∃ r, decide (l0 = l1) = r := ⟨_, rfl⟩
  rw [hr]
  have HR := Aside0.mk hr
  clear hr
  go_enter Try.func70, Try.ntmps70
  by_cases c : l0.length = l1.length
  · have c1 : ((l0.length : Int) == (l1.length : Int)) = true := by rw [beq_iff_eq]; omega
    have c2 : ((l0.length : Int) != (l1.length : Int)) = false := by rw [bne_eq_false_iff_eq]; omega
    have C := Aside0.mk c
    have HM := Aside0.mk hmax
    clear c hmax
    go_wp2
    go_loopg [13] l0.length (fun kq v13 w' => ∃ (i : Int), v13 = .int .i64 i ∧ Aside0 (0 ≤ i ∧ i ≤ l0.length) ∧ Aside0 (l0.length - i.toNat ≤ kq) ∧ Aside0 (l0.take i.toNat = l1.take i.toNat) ∧ Drawn0 w w')
    case atStart => exact ⟨0, rfl, ⟨⟨by omega, by omega⟩⟩, ⟨by omega⟩, ⟨rfl⟩, by repeat (first | exact Drawn0.refl _ | apply Drawn0.step)⟩
    case round =>
      try clear p2
      obtain ⟨i, rfl, HI, HG, HT, ⟨m1, rfl⟩⟩ := hrel
      by_cases d : i < (l0.length : Int)
      · have d0 : decide (i < (l0.length : Int)) = true := decide_eq_true d
        have q1 : i < (l1.length : Int) := by have := C.out; omega
        have p0 : 0 ≤ i := HI.out.1
        obtain ⟨ad, e0, hx0⟩ := Kd.at_int HR0.out i p0 d
        obtain ⟨ae, e1, hx1⟩ := Kd.at_int HR1.out i p0 q1
        cases e0
        cases e1
        have D := Aside0.mk d
        have hwr : wrap64 (i + 1) = i + 1 := by have := HM.out; unfold wrap64; omega
        have W := Aside0.mk hwr
        clear hwr
        replace p0 := eq_true p0
        replace d := eq_true d
        replace q1 := eq_true q1
        by_cases f : rd l0 i = rd l1 i
        · have f0 : (rd l0 i == rd l1 i) = true := beq_iff_eq.2 f
          have f1 : (rd l0 i != rd l1 i) = false := bne_eq_false_iff_eq.2 f
          have F := Aside0.mk f
          clear f
          go_wp2
          repeat (go_quiet (fail); try go_wp2)
          go_roundg (l0.length - (i.toNat + 1))
          case measure => have := HG.out; have := D.out; have := HI.out; omega
          case rel => exact ⟨i + 1, by have := W.out; first | (rw [this]; done) | (rw [this, this]; done) | (simp [this]; done), ⟨⟨by have := HI.out; omega, by have := D.out; omega⟩⟩, ⟨by have := HI.out; omega⟩, ⟨take_stepi l0 l1 i HI.out.1 D.out (by have := C.out; have := D.out; omega) HT.out F.out⟩, by repeat (first | exact Drawn0.refl _ | apply Drawn0.step)⟩
        · have f0 : (rd l0 i == rd l1 i) = false := beq_eq_false_iff_ne.2 f
          have f1 : (rd l0 i != rd l1 i) = true := bne_iff_ne.2 f
          have F := Aside0.mk f
          clear f
          have hd : decide (l0 = l1) = false := decide_eq_false (ne_of_rd l0 l1 _ F.out)
          have R := Aside0.mk (HR.out.symm.trans hd)
          clear hd
          go_wp2
          repeat (go_quiet (fail); try go_wp2)
          go_ret
          exact ⟨by have h := R.out; subst h; first | rfl | (simp; done) | (simp [*]; done), by repeat (first | exact Drawn0.refl _ | apply Drawn0.step)⟩
      · have d0 : decide (i < (l0.length : Int)) = false := decide_eq_false d
        have e : i.toNat = l0.length := by have := HI.out; omega
        have hd : decide (l0 = l1) = true := decide_eq_true (eq_of_take l0 l1 C.out (e ▸ HT.out))
        have R := Aside0.mk (HR.out.symm.trans hd)
        clear hd
        clear d e
        go_wp2
        go_ret
        exact ⟨by have h := R.out; subst h; first | rfl | (simp; done) | (simp [*]; done), by repeat (first | exact Drawn0.refl _ | apply Drawn0.step)⟩
  · have c1 : ((l0.length : Int) == (l1.length : Int)) = false := by rw [beq_eq_false_iff_ne]; omega
    have c2 : ((l0.length : Int) != (l1.length : Int)) = true := by rw [bne_iff_ne]; omega
    have C := Aside0.mk c
    clear c hmax
    have hd : decide (l0 = l1) = false := decide_eq_false (fun h => C.out (by rw [h]))
    have R := Aside0.mk (HR.out.symm.trans hd)
    clear hd
    go_wp2
    go_ret
    exact ⟨by have h := R.out; subst h; first | rfl | (simp; done) | (simp [*]; done), by repeat (first | exact Drawn0.refl _ | apply Drawn0.step)⟩
/-- Two forms are taken for the same: equal codes, or equal names and kinds. -/
def sameF (f g : S54) : Bool := f.f1 == g.f1 || (f.f0.toList == g.f0.toList && decide (f.f2 = g.f2))
set_option maxHeartbeats 8000000 in
set_option maxRecDepth 100000 in
theorem same.calls (B : Nat) (f g : S54) (Af Ag : Option Addr) (cf cg : Nat) (w : World) (hB : B < w.heap.size) (hc0 : w.cell? ⟨B, 0, none⟩ = some (.string f.f0)) (hc1 : w.cell? ⟨B, 1, none⟩ = some (.int .i64 f.f1)) (hc2 : w.cell? ⟨B, 2, none⟩ = some (.slice Af f.f2.length cf))
    (hrf : Kd.C (Kd.int .i64) w Af f.f2.length f.f2) (hrg : Kd.C (Kd.int .i64) w Ag g.f2.length g.f2) :
    Calls Try.prog 69 #[.agg #[.string g.f0, .int .i64 g.f1, .slice Ag g.f2.length cg], .pointer (some ⟨B, 0, none⟩)] w fun e w' => e = .returned (.bool (sameF f g)) ∧ Below w.heap.size w w' := by
  have hu54 := Try.underlying54
  have hb1 : Below w.heap.size w (w.alloc (.cells #[.string g.f0, .int .i64 g.f1, .slice Ag g.f2.length cg] 54)) := (Below.refl _ w).alloc (Nat.le_refl _) _
  have k0 := (hb1.cell (p := ⟨B, 0, none⟩) hB).trans hc0
  have k1 := (hb1.cell (p := ⟨B, 1, none⟩) hB).trans hc1
  have k2 := (hb1.cell (p := ⟨B, 2, none⟩) hB).trans hc2
  have hG := blk_new w (.cells #[.string g.f0, .int .i64 g.f1, .slice Ag g.f2.length cg] 54)
  have g0 : (w.alloc (.cells #[.string g.f0, .int .i64 g.f1, .slice Ag g.f2.length cg] 54)).cell? ⟨w.heap.size, 0, none⟩ = some (.string g.f0) := (blk_cell hG 0).trans rfl
  have g1 : (w.alloc (.cells #[.string g.f0, .int .i64 g.f1, .slice Ag g.f2.length cg] 54)).cell? ⟨w.heap.size, 1, none⟩ = some (.int .i64 g.f1) := (blk_cell hG 1).trans rfl
  have g2 : (w.alloc (.cells #[.string g.f0, .int .i64 g.f1, .slice Ag g.f2.length cg] 54)).cell? ⟨w.heap.size, 2, none⟩ = some (.slice Ag g.f2.length cg) := (blk_cell hG 2).trans rfl
  have hrf1 := Kd.C_below hrf hb1
  have hrg1 := Kd.C_below hrg hb1
  have eqc := slices_Equal.calls Af cf f.f2 Ag cg g.f2 _ hrf1 hrg1
  clear hrf hrg hc0 hc1 hc2 hG hrf1 hrg1
  have HB := Aside0.mk hb1
  clear hb1
  unfold sameF
  obtain ⟨r, hr⟩ : ∃ r, decide (f.f2 = g.f2) = r := ⟨_, rfl⟩
  rw [hr] at eqc ⊢
  clear hr
  have E := Aside0.mk eqc
  clear eqc
  by_cases a : f.f1 = g.f1
  · have a0 : (f.f1 == g.f1) = true := beq_iff_eq.2 a
    rw [a0, Bool.true_or]
    clear a
    go_enter Try.func69, Try.ntmps69
    go_wp2_with (fail)
    go_ret
    exact ⟨by first | rfl | (simp; done) | (simp [*]; done), HB.out⟩
  · have a0 : (f.f1 == g.f1) = false := beq_eq_false_iff_ne.2 a
    rw [a0, Bool.false_or]
    clear a
    by_cases b : f.f0.toList = g.f0.toList
    · have b0 : (f.f0.toList == g.f0.toList) = true := beq_iff_eq.2 b
      rw [b0, Bool.true_and]
      clear b
      go_enter Try.func69, Try.ntmps69
      go_wp2_with (first | (go_at_call 70; refine (E.out).mono ?_; rintro e w' ⟨rfl, ⟨m1, rfl⟩⟩))
      go_ret
      exact ⟨by first | rfl | (simp; done) | (simp [*]; done), by repeat (first | exact HB.out | apply pw_below_drewN | apply below_drew1)⟩
    · have b0 : (f.f0.toList == g.f0.toList) = false := beq_eq_false_iff_ne.2 b
      rw [b0, Bool.false_and]
      clear b
      go_enter Try.func69, Try.ntmps69
      go_wp2_with (fail)
      go_ret
      exact ⟨by first | rfl | (simp; done) | (simp [*]; done), HB.out⟩
set_option maxHeartbeats 8000000 in
set_option maxRecDepth 100000 in
theorem named.calls (B C : Nat) (name : ByteArray) (kinds : List Int) (g : S54) (Af Ag : Option Addr) (cf cg : Nat) (w : World) (hB : B < w.heap.size) (hC : C < w.heap.size) (hc0 : w.cell? ⟨B, 0, none⟩ = some (.string name)) (hc1 : w.cell? ⟨C, 0, none⟩ = some (.slice Af kinds.length cf))
    (hrf : Kd.C (Kd.int .i64) w Af kinds.length kinds) (hrg : Kd.C (Kd.int .i64) w Ag g.f2.length g.f2) :
    Calls Try.prog 74 #[.agg #[.string g.f0, .int .i64 g.f1, .slice Ag g.f2.length cg], .pointer (some ⟨B, 0, none⟩), .pointer (some ⟨C, 0, none⟩)] w fun e w' => e = .returned (.bool (g.f0.toList == name.toList && decide (g.f2 = kinds))) ∧ Below w.heap.size w w' := by
  have hu54 := Try.underlying54
  have hb1 : Below w.heap.size w (w.alloc (.cells #[.string g.f0, .int .i64 g.f1, .slice Ag g.f2.length cg] 54)) := (Below.refl _ w).alloc (Nat.le_refl _) _
  have k0 := (hb1.cell (p := ⟨B, 0, none⟩) hB).trans hc0
  have k1 := (hb1.cell (p := ⟨C, 0, none⟩) hC).trans hc1
  have hG := blk_new w (.cells #[.string g.f0, .int .i64 g.f1, .slice Ag g.f2.length cg] 54)
  have g0 : (w.alloc (.cells #[.string g.f0, .int .i64 g.f1, .slice Ag g.f2.length cg] 54)).cell? ⟨w.heap.size, 0, none⟩ = some (.string g.f0) := (blk_cell hG 0).trans rfl
  have g2 : (w.alloc (.cells #[.string g.f0, .int .i64 g.f1, .slice Ag g.f2.length cg] 54)).cell? ⟨w.heap.size, 2, none⟩ = some (.slice Ag g.f2.length cg) := (blk_cell hG 2).trans rfl
  have hrf1 := Kd.C_below hrf hb1
  have hrg1 := Kd.C_below hrg hb1
  have eqc := slices_Equal.calls Ag cg g.f2 Af cf kinds _ hrg1 hrf1
  clear hrf hrg hc0 hc1 hG hrf1 hrg1
  have HB := Aside0.mk hb1
  clear hb1
  obtain ⟨r, hr⟩ : ∃ r, decide (g.f2 = kinds) = r := ⟨_, rfl⟩
  rw [hr] at eqc ⊢
  clear hr
  have E := Aside0.mk eqc
  clear eqc
  by_cases b : g.f0.toList = name.toList
  · have b0 : (g.f0.toList == name.toList) = true := beq_iff_eq.2 b
    rw [b0, Bool.true_and]
    clear b
    go_enter Try.func74, Try.ntmps74
    go_wp2_with (first | (go_at_call 70; refine (E.out).mono ?_; rintro e w' ⟨rfl, ⟨m1, rfl⟩⟩))
    go_ret
    exact ⟨by first | rfl | (simp; done) | (simp [*]; done), by repeat (first | exact HB.out | apply pw_below_drewN | apply below_drew1)⟩
  · have b0 : (g.f0.toList == name.toList) = false := beq_eq_false_iff_ne.2 b
    rw [b0, Bool.false_and]
    clear b
    go_enter Try.func74, Try.ntmps74
    go_wp2_with (fail)
    go_ret
    exact ⟨by first | rfl | (simp; done) | (simp [*]; done), HB.out⟩
end Go.Proofs.Ytipjpdiianopcaa.Cv
namespace Go.Proofs.Ytipjpdiianopcaa.Cv
open Go.RowKit Go.Proofs.YtipjpdiianopcaaW.PrintWords Go.Proofs.YtipjpdiianopcaaW.PrintLast Go.Proofs.YtipjpdiianopcaaW.PrintMore Go.Proofs.Ytipjpdiianopcaa.A
set_option linter.unusedVariables false
set_option linter.unusedSimpArgs false

/-- Where the first form stands of which p holds; -1: nowhere. -/
def idxF (p : S54 → Bool) (l : List S54) : Int := match l.findIdx? p with | some i => (i : Int) | none => -1
theorem rd_T54_get (l : List S54) (i : Int) (h0 : 0 ≤ i) (h : i < (l.length : Int)) : rd_T54 l i = l[i.toNat]'(by omega) := by
  unfold rd_T54
  rw [List.getD_eq_getElem?_getD, List.getElem?_eq_getElem (by omega)]
  rfl
theorem rd_T54_mem (l : List S54) (i : Int) (h0 : 0 ≤ i) (h : i < (l.length : Int)) : rd_T54 l i ∈ l := by
  rw [rd_T54_get l i h0 h]
  exact List.getElem_mem _
theorem idx_hit (p : S54 → Bool) (l : List S54) (i : Int) (h0 : 0 ≤ i) (h : i < (l.length : Int)) (hp : p (rd_T54 l i) = true) (hn : ∀ j : Nat, (j : Int) < i → p (rd_T54 l j) = false) : idxF p l = i := by
  have e : l.findIdx? p = some i.toNat := by
    rw [List.findIdx?_eq_some_iff_getElem]
    refine ⟨by omega, ?_, fun j hj => ?_⟩
    · rw [← rd_T54_get l i h0 h]; exact hp
    · have := hn j (by omega)
      rw [rd_T54_get l (j : Int) (by omega) (by omega)] at this
      simpa using this
  unfold idxF
  rw [e]
  show ((i.toNat : Nat) : Int) = i
  omega
theorem idx_none (p : S54 → Bool) (l : List S54) (hn : ∀ j : Nat, (j : Int) < (l.length : Int) → p (rd_T54 l j) = false) : idxF p l = -1 := by
  have e : l.findIdx? p = none := by
    rw [List.findIdx?_eq_none_iff]
    intro x hx
    obtain ⟨j, hj, rfl⟩ := List.getElem_of_mem hx
    have := hn j (by omega)
    rw [rd_T54_get l (j : Int) (by omega) (by omega)] at this
    exact this
  unfold idxF
  rw [e]
theorem idx_bound (p : S54 → Bool) (l : List S54) : -1 ≤ idxF p l ∧ idxF p l < (l.length : Int) := by
  unfold idxF
  cases e : l.findIdx? p with
  | none => exact ⟨by simp, by simp; omega⟩
  | some i =>
    obtain ⟨h1, _⟩ := List.findIdx?_eq_some_iff_getElem.1 e
    exact ⟨by show (-1 : Int) ≤ (i : Int); omega, by show (i : Int) < _; omega⟩
theorem idx_any (p : S54 → Bool) (l : List S54) : decide (idxF p l ≥ 0) = l.any p := by
  unfold idxF
  cases e : l.findIdx? p with
  | none =>
    rw [List.findIdx?_eq_none_iff] at e
    have : l.any p = false := by
      rw [List.any_eq_false]
      intro x hx
      rw [e x hx]
      simp
    rw [this]
    rfl
  | some i =>
    obtain ⟨h1, h2, _⟩ := List.findIdx?_eq_some_iff_getElem.1 e
    have : l.any p = true := List.any_eq_true.2 ⟨_, List.getElem_mem h1, h2⟩
    rw [this]
    exact decide_eq_true (by show (0 : Int) ≤ (i : Int); omega)
/-- What is asked of a predicate: at every form of the list, in every later world. -/
def PredF (g : Nat) (lb : Array Value) (p : S54 → Bool) (l : List S54) (w : World) : Prop :=
  ∀ (W : World) (x : S54) (Ag : Option Addr) (cg : Nat), Below w.heap.size w W → x ∈ l → Kd.C (Kd.int .i64) W Ag x.f2.length x.f2 →
    Calls Try.prog g (#[.agg #[.string x.f0, .int .i64 x.f1, .slice Ag x.f2.length cg]] ++ lb) W fun e w' => e = .returned (.bool (p x)) ∧ Below W.heap.size W w'
set_option maxHeartbeats 1000000 in
set_option maxRecDepth 100000 in
theorem IndexFunc.calls (g : Nat) (lb : Array Value) (p : S54 → Bool) (eg : ∀ args w, (callFunc g args).run Try.prog w = .ok (.enter g args) w) (A0 : Option Addr) (c0 : Nat) (l0 : List S54) (w : World) (hr0 : Kd.C k54 w A0 l0.length l0) (hp : PredF g lb p l0 w) :
    Calls Try.prog 73 #[.slice A0 l0.length c0, .func (.func g) #[] lb] w fun e w' => e = .returned (.int .i64 (idxF p l0)) ∧ Below w.heap.size w w' := by
  have hu54 := Try.underlying54
  have HM := Aside0.mk hr0.2.1
  have HR0 := Aside0.mk hr0
  have HP := Aside0.mk hp
  clear hr0 hp
  obtain ⟨r, hr⟩ : ∃ r, idxF p l0 = r := ⟨_, rfl⟩
  rw [hr]
  have R := Aside0.mk hr
  clear hr
  go_enter Try.func73, Try.ntmps73
  go_wp2_with (fail)
  go_loopg [8] l0.length (fun kq v8 w' => ∃ (i : Int), v8 = .int .i64 i ∧ Aside0 (0 ≤ i ∧ i ≤ l0.length) ∧ Aside0 (l0.length - i.toNat ≤ kq) ∧ Aside0 (∀ j : Nat, (j : Int) < i → p (rd_T54 l0 j) = false) ∧ Aside0 (Below w.heap.size w w'))
  case atStart => exact ⟨0, rfl, ⟨⟨by omega, by omega⟩⟩, ⟨by omega⟩, ⟨fun j h => by omega⟩, ⟨Below.refl _ _⟩⟩
  case round =>
    try clear p2
    obtain ⟨i, rfl, HI, HG, HT, HB⟩ := hrel
    by_cases d : i < (l0.length : Int)
    · have d0 : decide (i < (l0.length : Int)) = true := decide_eq_true d
      have p0 : 0 ≤ i := HI.out.1
      obtain ⟨ad, A2, c2, e0, hx0, hx1, hx2, hl2, hi2⟩ := at_T54 (Kd.C_below HR0.out HB.out) i p0 d
      cases e0
      have hcall := HP.out wr (rd_T54 l0 i) A2 c2 HB.out (rd_T54_mem l0 i p0 d) hi2
      have HC := Aside0.mk hcall
      clear hcall hl2 hi2
      have D := Aside0.mk d
      have hwr : wrap64 (i + 1) = i + 1 := by have := HM.out; unfold wrap64; omega
      have W := Aside0.mk hwr
      clear hwr
      replace p0 := eq_true p0
      replace d := eq_true d
      cases f : p (rd_T54 l0 i) with
      | true =>
        have F := Aside0.mk f
        rw [f] at HC
        clear f
        go_wp2_with (fail)
        refine (HC.out).mono ?_
        rintro e w' ⟨rfl, hb'⟩
        have HB2 := Aside0.mk hb'
        clear hb'
        go_wp2_with (fail)
        go_ret
        exact ⟨by have h := R.out; rw [idx_hit p l0 i HI.out.1 D.out F.out HT.out] at h; subst h; first | rfl | (simp; done) | (simp [*]; done), HB.out.trans (HB2.out.mono HB.out.size)⟩
      | false =>
        have F := Aside0.mk f
        rw [f] at HC
        clear f
        go_wp2_with (fail)
        refine (HC.out).mono ?_
        rintro e w' ⟨rfl, hb'⟩
        have HB2 := Aside0.mk hb'
        clear hb'
        go_wp2_with (fail)
        go_roundg (l0.length - (i.toNat + 1))
        case measure => have := HG.out; have := D.out; have := HI.out; omega
        case rel => exact ⟨i + 1, by have := W.out; first | (rw [this]; done) | (rw [this, this]; done) | (simp [this]; done), ⟨⟨by have := HI.out; omega, by have := D.out; omega⟩⟩, ⟨by have := HI.out; omega⟩, ⟨fun j hj => by
          by_cases e : (j : Int) = i
          · rw [e]; exact F.out
          · exact HT.out j (by omega)⟩, ⟨HB.out.trans (HB2.out.mono HB.out.size)⟩⟩
    · have d0 : decide (i < (l0.length : Int)) = false := decide_eq_false d
      have e : i = (l0.length : Int) := by have := HI.out; omega
      have hd := idx_none p l0 (e ▸ HT.out)
      have R2 := Aside0.mk (R.out.symm.trans hd)
      clear d e hd
      go_wp2_with (fail)
      go_ret
      exact ⟨by have h := R2.out; subst h; first | rfl | (simp; done) | (simp [*]; done), HB.out⟩
set_option maxHeartbeats 1000000 in
set_option maxRecDepth 100000 in
theorem ContainsFunc.calls (g : Nat) (lb : Array Value) (p : S54 → Bool) (eg : ∀ args w, (callFunc g args).run Try.prog w = .ok (.enter g args) w) (A0 : Option Addr) (c0 : Nat) (l0 : List S54) (w : World) (hr0 : Kd.C k54 w A0 l0.length l0) (hp : PredF g lb p l0 w) :
    Calls Try.prog 71 #[.slice A0 l0.length c0, .func (.func g) #[] lb] w fun e w' => e = .returned (.bool (l0.any p)) ∧ Below w.heap.size w w' := by
  have hcall := IndexFunc.calls g lb p eg A0 c0 l0 w hr0 hp
  rw [← idx_any p l0]
  generalize idxF p l0 = r at hcall ⊢
  have HC := Aside0.mk hcall
  clear hcall hr0 hp
  by_cases d : r ≥ 0
  · have d0 : decide (r ≥ 0) = true := decide_eq_true d
    have d1 : decide (0 ≤ r) = true := decide_eq_true d
    rw [d0]
    clear d
    go_enter Try.func71, Try.ntmps71
    go_wp2_with (first | (go_at_call 73; refine (HC.out).mono ?_; rintro e w' ⟨rfl, hb'⟩; have HB2 := Aside0.mk hb'; clear hb'))
    go_ret
    exact ⟨by first | rfl | (simp; done) | (simp [*]; done), HB2.out⟩
  · have d0 : decide (r ≥ 0) = false := decide_eq_false d
    have d1 : decide (0 ≤ r) = false := decide_eq_false d
    rw [d0]
    clear d
    go_enter Try.func71, Try.ntmps71
    go_wp2_with (first | (go_at_call 73; refine (HC.out).mono ?_; rintro e w' ⟨rfl, hb'⟩; have HB2 := Aside0.mk hb'; clear hb'))
    go_ret
    exact ⟨by first | rfl | (simp; done) | (simp [*]; done), HB2.out⟩
end Go.Proofs.Ytipjpdiianopcaa.Cv
namespace Go.Proofs.Ytipjpdiianopcaa.Cv
open Go.RowKit Go.Proofs.YtipjpdiianopcaaW.PrintWords Go.Proofs.YtipjpdiianopcaaW.PrintLast Go.Proofs.YtipjpdiianopcaaW.PrintMore Go.Proofs.Ytipjpdiianopcaa.A
attribute [local go_sem] max2_int min2_int max_two min_two max_three min_three max_four min_four
set_option linter.unusedVariables false
set_option linter.unusedSimpArgs false

/-- From form i on: the first fault of a table. -/
def isa_Validate.l0 : Nat → List S54 → Int → Option (Int × Int)
  | 0, _, _ => none
  | k + 1, l0, i => if i < (l0.length : Int) then ((isa_form.f k (rd_T54 l0 i).f0 (rd_T54 l0 i).f1 (rd_T54 l0 i).f2).bind fun t => (if t = 0 then (if (l0.take i.toNat).any (sameF (rd_T54 l0 i)) = true then (some (7, i)) else (isa_Validate.l0 k l0 (wrap64 (i + 1)))) else (some (t, i)))) else (some (0, 0))
def isa_Validate.f (k : Nat) (l0 : List S54) : Option (Int × Int) := if (l0.length : Int) > 100 then some (2, -1) else isa_Validate.l0 k l0 0
theorem isa_Validate.mono_l : ∀ k, (∀ y0 y1, LeO (isa_Validate.l0 k y0 y1) (isa_Validate.l0 (k + 1) y0 y1))
  | 0 => fun _ _ r h => by simp [isa_Validate.l0] at h
  | k + 1 => by
    have ih0 := isa_Validate.mono_l k
    intro y0 y1
    unfold isa_Validate.l0
    repeat' first
      | (with_reducible exact ih0 _ _)
      | (with_reducible exact isa_form.mono _ _ _ _)
      | (with_reducible exact LeO.refl _)
      | (with_reducible refine LeO.ite ?_ ?_)
      | (with_reducible refine LeO.bind ?_ (fun _ => ?_))
      | exact ih0 _ _
      | exact isa_form.mono _ _ _ _
      | refine LeO.ite ?_ ?_
      | refine LeO.bind ?_ (fun _ => ?_)
theorem isa_Validate.mono : ∀ a0 k, LeO (isa_Validate.f k a0) (isa_Validate.f (k + 1) a0) := by
  intro a0 k
  have ih0 := isa_Validate.mono_l k
  unfold isa_Validate.f
  repeat' first
      | (with_reducible exact ih0 _ _)
      | (with_reducible exact LeO.refl _)
      | (with_reducible refine LeO.ite ?_ ?_)
      | exact ih0 _ _
theorem enters_ {P : Program} {f : FuncId} {fn : Func} {c : Code} (hf : P.funcs[f]? = some fn) (hname : (fn.name == "runtime.NumGoroutine") = false) (hb : fn.body = some c) : ∀ args w, (callFunc f args).run P w = .ok (.enter f args) w := by
  intro args w
  have h1 : fn.name ≠ "runtime.NumGoroutine" := by simpa using hname
  simp [callFunc, hf, h1, hb, mark]
theorem validate_pred {w W : World} {f : S54} {A2 : Option Addr} {c2 g4 : Nat} {l : List S54} (hr : Kd.C (Kd.int .i64) w A2 f.f2.length f.f2) (hb : Below w.heap.size w W) (hk : W.heap[g4]? = some (.cells #[.string f.f0, .int .i64 f.f1, .slice A2 f.f2.length c2] 54 (0, 0))) : PredF 69 #[.pointer (some ⟨g4, 0, none⟩)] (sameF f) l W := by
  intro V x Ag cg hV hx hg
  have hlt : g4 < W.heap.size := blk_lt hk
  have hk' := blk_below hk hV
  exact same.calls g4 f x A2 Ag c2 cg V (Nat.lt_of_lt_of_le hlt hV.size) ((blk_cell hk' 0).trans rfl) ((blk_cell hk' 1).trans rfl) ((blk_cell hk' 2).trans rfl) (Kd.C_below (Kd.C_below hr hb) hV) hg
set_option maxHeartbeats 1000000 in
set_option maxRecDepth 100000 in
theorem isa_Validate.calls (k : Nat) (A0 : Option Addr) (c0 : Nat) (l0 : List (S54)) (r1 : Int) (r2 : Int) (w : World) (hr0 : Kd.C k54 w A0 l0.length l0) (hc0 : l0.length ≤ c0) (h : isa_Validate.f k l0 = some (r1, r2)) :
    Calls Try.prog 35 #[.slice A0 l0.length c0] w fun e w' => e = .returned (.agg #[.int .i64 r1, .int .i64 r2]) ∧ Below w.heap.size w w' := by
  have hu27 := Try.underlying27
  have hu54 := Try.underlying54
  have hmf : ∀ (fn : Fn) (first cap : Array Value) (w : World), (Instr.makeFunc fn first cap).run Try.prog w = .ok (.func fn first cap) w := fun _ _ _ _ => rfl
  have eg : ∀ args w, (callFunc 69 args).run Try.prog w = .ok (.enter 69 args) w := enters_ Try.func69 (by kernel_rfl) rfl
  have HR0 := Aside0.mk hr0
  have HC0 := Aside0.mk hc0
  clear hr0 hc0
  have HB := Aside0.mk (Below.refl w.heap.size w)
  unfold isa_Validate.f at h
  by_cases c : (l0.length : Int) > 100
  · rw [if_pos c] at h
    have c0b : decide (100 < (l0.length : Int)) = true := decide_eq_true c
    have c1b : decide (100 < l0.length) = true := decide_eq_true (by omega)
    clear c
    simp only [Option.some.injEq, Prod.mk.injEq] at h
    obtain ⟨rfl, rfl⟩ := h
    go_enter Try.func35, Try.ntmps35
    go_wp2_with (first | ((with_reducible refine gate_dst (N := 2) rfl ?_); refine box_event ?hg (N := 2) ?hd (cs := #[.int .i64 0, .int .i64 0]) (t := 27) ?hr ?_; (case hd => rfl); (case hg => rfl); (case hr => first | (go_simp; done) | (go_simp; rfl)); intro gb hg w4 hbox hb; have n0_ := Aside0.mk (below_step (by repeat (first | (with_reducible first | exact HB.out | apply below_alloc | apply pw_below_drewN | apply below_drew1) | exact HB.out)) hb); have n1_ := Aside0.mk hbox; have n2_ := Aside0.mk ((by rw [hg]; exact (below_size (by repeat (first | (with_reducible first | exact HB.out | apply below_alloc | apply pw_below_drewN | apply below_drew1) | exact HB.out)))) : w.heap.size ≤ gb); clear HB; have HB := n0_; have BK := n1_; have GE := n2_; clear n0_ n1_ n2_; clear hb hbox hg; have hcz0 : w4.cell? ⟨gb, 0, none⟩ = some (.int .i64 0) := (blk_cell BK.out 0).trans rfl; have hcz1 : w4.cell? ⟨gb, 1, none⟩ = some (.int .i64 0) := (blk_cell BK.out 1).trans rfl; have hfz0 := blk_frozen BK.out 0; have hfz1 := blk_frozen BK.out 1))
    refine bodyPost_ret (results_cell_row rfl _ _ gb 27 #[.int .i64 2, .int .i64 (-1)] (0, 0) _ rfl (by (with_reducible repeat (first | refine blk_drewN ?_ _ | refine blk_drew ?_ | refine blk_alloc ?_ _)); refine blk_put (cs := #[.int .i64 2, .int .i64 0]) ?_ 1 _ rfl; (with_reducible repeat (first | refine blk_drewN ?_ _ | refine blk_drew ?_ | refine blk_alloc ?_ _)); refine blk_put (cs := #[.int .i64 0, .int .i64 0]) ?_ 0 _ rfl; (with_reducible repeat (first | refine blk_drewN ?_ _ | refine blk_drew ?_ | refine blk_alloc ?_ _)); exact BK.out) Try.underlying27 rfl (by kernel_rfl)) rfl ?_
    exact ⟨by first | rfl | (simp; done) | (simp [*]; done), by repeat (first | (with_reducible first | exact HB.out | apply below_alloc | apply pw_below_drewN | apply below_drew1 | refine below_set ?_ GE.out) | exact HB.out)⟩
  · rw [if_neg c] at h
    have c0b : decide (100 < (l0.length : Int)) = false := decide_eq_false c
    have c1b : decide (100 < l0.length) = false := decide_eq_false (by omega)
    have CL := Aside0.mk c
    clear c
    have H' := Aside0.mk h
    clear h
    go_enter Try.func35, Try.ntmps35
    go_wp2_with (first | ((with_reducible refine gate_dst (N := 2) rfl ?_); refine box_event ?hg (N := 2) ?hd (cs := #[.int .i64 0, .int .i64 0]) (t := 27) ?hr ?_; (case hd => rfl); (case hg => rfl); (case hr => first | (go_simp; done) | (go_simp; rfl)); intro gb hg w4 hbox hb; have n0_ := Aside0.mk (below_step (by repeat (first | (with_reducible first | exact HB.out | apply below_alloc | apply pw_below_drewN | apply below_drew1) | exact HB.out)) hb); have n1_ := Aside0.mk hbox; have n2_ := Aside0.mk ((by rw [hg]; exact (below_size (by repeat (first | (with_reducible first | exact HB.out | apply below_alloc | apply pw_below_drewN | apply below_drew1) | exact HB.out)))) : w.heap.size ≤ gb); clear HB; have HB := n0_; have BK := n1_; have GE := n2_; clear n0_ n1_ n2_; clear hb hbox hg; have hcz0 : w4.cell? ⟨gb, 0, none⟩ = some (.int .i64 0) := (blk_cell BK.out 0).trans rfl; have hcz1 : w4.cell? ⟨gb, 1, none⟩ = some (.int .i64 0) := (blk_cell BK.out 1).trans rfl; have hfz0 := blk_frozen BK.out 0; have hfz1 := blk_frozen BK.out 1))
    go_loopg [13] k (fun kq v13 w' => ∃ (i a b : Int), v13 = .int .i64 i ∧ Aside0 (0 ≤ i) ∧ Aside0 (isa_Validate.l0 kq l0 i = some (r1, r2)) ∧ Aside0 (kq ≤ k) ∧ Aside0 (w'.heap[gb]? = some (.cells #[.int .i64 a, .int .i64 b] 27 (0, 0))) ∧ Aside0 (Below w.heap.size w w'))
    case atStart => exact ⟨0, 0, 0, rfl, ⟨Int.le_refl _⟩, H', ⟨Nat.le_refl _⟩, ⟨by (with_reducible repeat (first | refine blk_drewN ?_ _ | refine blk_drew ?_ | refine blk_alloc ?_ _)); exact BK.out⟩, ⟨by repeat (first | (with_reducible first | exact HB.out | apply below_alloc | apply pw_below_drewN | apply below_drew1 | refine below_set ?_ GE.out) | exact HB.out)⟩⟩
    case round =>
      clear H' HB BK
      try clear p2
      try clear c0b
      try clear c1b
      try clear hcz0
      try clear hcz1
      try clear hfz0
      try clear hfz1
      obtain ⟨i, a, b, rfl, HI, HA, HK1, BK, HB⟩ := hrel
      cases gk with
      | zero => exact absurd HA.out (by simp [isa_Validate.l0])
      | succ k1 =>
        have H := HA.out
        clear HA
        simp only [isa_Validate.l0] at H
        by_cases d : i < (l0.length : Int)
        · rw [if_pos d] at H
          have d0 : decide (i < (l0.length : Int)) = true := decide_eq_true d
          have p0 : 0 ≤ i := HI.out
          obtain ⟨ad, A2, c2, e0, hx0, hx1, hx2, hl2, hi2⟩ := at_T54 HR0.out i p0 d
          cases e0
          replace hx0 := (HB.out.cell (World.block_lt_of_cell? w _ hx0)).trans hx0
          replace hx1 := (HB.out.cell (World.block_lt_of_cell? w _ hx1)).trans hx1
          replace hx2 := (HB.out.cell (World.block_lt_of_cell? w _ hx2)).trans hx2
          have HR2 := Aside0.mk hi2
          have HC2 := Aside0.mk hl2
          clear hi2 hl2
          have HT := Aside0.mk (show i.toNat ≤ l0.length by omega)
          have N1 := Aside0.mk (show (l0.take i.toNat).length = i.toNat by rw [List.length_take]; omega)
          have D := Aside0.mk d
          have hwr : wrap64 (i + 1) = i + 1 := by have := CL.out; unfold wrap64; omega
          have WR := Aside0.mk hwr
          clear hwr
          obtain ⟨i54, hi54, _, _, _⟩ := info_parts info54
          have cut := cut_to (P := Try.prog) 47 54 .i64 Try.underlying47 hi54 (some ad) l0.length c0 i p0 (by omega) HC0.out
          replace p0 := eq_true p0
          replace d := eq_true d
          replace H := Option.bind_eq_some_iff.mp H
          obtain ⟨t, A10, H⟩ := H
          have A1 := Aside0.mk A10
          clear A10
          by_cases e : t = 0
          · rw [if_pos e] at H
            subst e
            by_cases f : (l0.take i.toNat).any (sameF (rd_T54 l0 i)) = true
            · rw [if_pos f] at H
              simp only [Option.some.injEq, Prod.mk.injEq] at H
              obtain ⟨rfl, rfl⟩ := H
              have F := Aside0.mk f
              clear f
              go_wp2_with (first | ((with_reducible refine gate_dst (N := 4) rfl ?_); refine box_event ?hg (N := 4) ?hd (cs := #[.string (⟨#[]⟩ : ByteArray), .int .i64 0, .slice none 0 0]) (t := 54) ?hr ?_; (case hd => rfl); (case hg => rfl); (case hr => first | (go_simp; done) | (go_simp; rfl)); intro g4 hg w16 hbox hb; have n0_ := Aside0.mk (blk_below (g := gb) (o := .cells #[.int .i64 a, .int .i64 b] 27 (0, 0)) (by (with_reducible repeat (first | refine blk_drewN ?_ _ | refine blk_drew ?_ | refine blk_alloc ?_ _)); exact BK.out) hb); have n1_ := Aside0.mk (below_step (by repeat (first | (with_reducible first | exact HB.out | apply below_alloc | apply pw_below_drewN | apply below_drew1 | refine below_set ?_ GE.out) | exact HB.out)) hb); have n2_ := Aside0.mk hbox; have n3_ := Aside0.mk ((by rw [hg]; exact (below_size (by repeat (first | (with_reducible first | exact HB.out | apply below_alloc | apply pw_below_drewN | apply below_drew1 | refine below_set ?_ GE.out) | exact HB.out)))) : w.heap.size ≤ g4); have n5_ := Aside0.mk ((by rw [hg]; exact Nat.ne_of_lt (blk_lt (g := gb) (o := .cells #[.int .i64 a, .int .i64 b] 27 (0, 0)) (by (with_reducible repeat (first | refine blk_drewN ?_ _ | refine blk_drew ?_ | refine blk_alloc ?_ _)); exact BK.out)) : gb ≠ g4)); have n6_ := Aside0.mk n5_.out.symm; clear BK; clear HB; have BK := n0_; have HB := n1_; have BK4 := n2_; have GE4 := n3_; have NB := n5_; have NB' := n6_; clear n0_ n1_ n2_ n3_ n5_ n6_; clear hb hbox hg; have hnb := NB'.out; have hnc := NB.out; have hd0 : w16.cell? ⟨g4, 0, none⟩ = some (.string (⟨#[]⟩ : ByteArray)) := (blk_cell BK4.out 0).trans rfl; have hd1 : w16.cell? ⟨g4, 1, none⟩ = some (.int .i64 0) := (blk_cell BK4.out 1).trans rfl; have hd2 : w16.cell? ⟨g4, 2, none⟩ = some (.slice none 0 0) := (blk_cell BK4.out 2).trans rfl; have hg0 := blk_frozen BK4.out 0; have hg1 := blk_frozen BK4.out 1; have hg2 := blk_frozen BK4.out 2) | (go_at_call 68; refine (isa_form.calls k1 (rd_T54 l0 i).f0 (rd_T54 l0 i).f1 A2 c2 (rd_T54 l0 i).f2 _ _ (Kd.C_below HR2.out (by repeat (first | (with_reducible first | exact HB.out | apply below_alloc | apply pw_below_drewN | apply below_drew1 | refine below_set ?_ GE.out | refine below_set ?_ GE4.out) | exact HB.out))) HC2.out A1.out).mono ?_; rintro e w19 ⟨rfl, hb⟩; have n0_ := Aside0.mk (blk_below (g := gb) (o := .cells #[.int .i64 a, .int .i64 b] 27 (0, 0)) (by (with_reducible repeat (first | refine blk_drewN ?_ _ | refine blk_drew ?_ | refine blk_alloc ?_ _)); refine blk_far ?_ NB.out _; (with_reducible repeat (first | refine blk_drewN ?_ _ | refine blk_drew ?_ | refine blk_alloc ?_ _)); refine blk_far ?_ NB.out _; (with_reducible repeat (first | refine blk_drewN ?_ _ | refine blk_drew ?_ | refine blk_alloc ?_ _)); refine blk_far ?_ NB.out _; (with_reducible repeat (first | refine blk_drewN ?_ _ | refine blk_drew ?_ | refine blk_alloc ?_ _)); exact BK.out) hb); have n1_ := Aside0.mk (blk_below (g := g4) (o := .cells #[.string (rd_T54 l0 i).f0, .int .i64 (rd_T54 l0 i).f1, .slice A2 (rd_T54 l0 i).f2.length c2] 54 (0, 0)) (by (with_reducible repeat (first | refine blk_drewN ?_ _ | refine blk_drew ?_ | refine blk_alloc ?_ _)); refine blk_put (cs := #[.string (rd_T54 l0 i).f0, .int .i64 (rd_T54 l0 i).f1, .slice none 0 0]) ?_ 2 _ rfl; (with_reducible repeat (first | refine blk_drewN ?_ _ | refine blk_drew ?_ | refine blk_alloc ?_ _)); refine blk_put (cs := #[.string (rd_T54 l0 i).f0, .int .i64 0, .slice none 0 0]) ?_ 1 _ rfl; (with_reducible repeat (first | refine blk_drewN ?_ _ | refine blk_drew ?_ | refine blk_alloc ?_ _)); refine blk_put (cs := #[.string (⟨#[]⟩ : ByteArray), .int .i64 0, .slice none 0 0]) ?_ 0 _ rfl; (with_reducible repeat (first | refine blk_drewN ?_ _ | refine blk_drew ?_ | refine blk_alloc ?_ _)); exact BK4.out) hb); have n2_ := Aside0.mk (below_step (by repeat (first | (with_reducible first | exact HB.out | apply below_alloc | apply pw_below_drewN | apply below_drew1 | refine below_set ?_ GE.out | refine below_set ?_ GE4.out) | exact HB.out)) hb); clear BK; clear BK4; clear HB; have BK := n0_; have BK4 := n1_; have HB := n2_; clear n0_ n1_ n2_; clear hb; have hcz0 : w19.cell? ⟨gb, 0, none⟩ = some (.int .i64 a) := (blk_cell BK.out 0).trans rfl; have hcz1 : w19.cell? ⟨gb, 1, none⟩ = some (.int .i64 b) := (blk_cell BK.out 1).trans rfl; have hfz0 := blk_frozen BK.out 0; have hfz1 := blk_frozen BK.out 1) | (go_at_call 71; have hcc := ContainsFunc.calls 69 #[.pointer (some ⟨g4, 0, none⟩)] (sameF (rd_T54 l0 i)) eg (some ad) c0 (l0.take i.toNat) _ (Kd.C_below (Kd.C_take HR0.out HT.out) HB.out) (validate_pred HR2.out HB.out BK4.out); rw [N1.out, F.out] at hcc; refine hcc.mono ?_; clear hcc; rintro e w21 ⟨rfl, hb⟩; have n0_ := Aside0.mk (blk_below (g := gb) (o := .cells #[.int .i64 a, .int .i64 b] 27 (0, 0)) (by (with_reducible repeat (first | refine blk_drewN ?_ _ | refine blk_drew ?_ | refine blk_alloc ?_ _)); exact BK.out) hb); have n2_ := Aside0.mk (below_step (by repeat (first | (with_reducible first | exact HB.out | apply below_alloc | apply pw_below_drewN | apply below_drew1 | refine below_set ?_ GE.out | refine below_set ?_ GE4.out) | exact HB.out)) hb); clear BK; clear HB; have BK := n0_; have HB := n2_; clear n0_ n2_; clear hb; have hcz0 : w21.cell? ⟨gb, 0, none⟩ = some (.int .i64 a) := (blk_cell BK.out 0).trans rfl; have hcz1 : w21.cell? ⟨gb, 1, none⟩ = some (.int .i64 b) := (blk_cell BK.out 1).trans rfl; have hfz0 := blk_frozen BK.out 0; have hfz1 := blk_frozen BK.out 1))
              refine bodyPost_ret (results_cell_row rfl _ _ gb 27 #[.int .i64 7, .int .i64 i] (0, 0) _ rfl (by (with_reducible repeat (first | refine blk_drewN ?_ _ | refine blk_drew ?_ | refine blk_alloc ?_ _)); refine blk_put (cs := #[.int .i64 7, .int .i64 b]) ?_ 1 _ rfl; (with_reducible repeat (first | refine blk_drewN ?_ _ | refine blk_drew ?_ | refine blk_alloc ?_ _)); refine blk_put (cs := #[.int .i64 a, .int .i64 b]) ?_ 0 _ rfl; (with_reducible repeat (first | refine blk_drewN ?_ _ | refine blk_drew ?_ | refine blk_alloc ?_ _)); exact BK.out) Try.underlying27 rfl (by kernel_rfl)) rfl ?_
              exact ⟨by first | rfl | (simp; done) | (simp [*]; done), by repeat (first | (with_reducible first | exact HB.out | apply below_alloc | apply pw_below_drewN | apply below_drew1 | refine below_set ?_ GE.out | refine below_set ?_ GE4.out) | exact HB.out)⟩
            · rw [if_neg f] at H
              have F := Aside0.mk (Bool.eq_false_iff.2 f)
              clear f
              have H' := Aside0.mk H
              clear H
              go_wp2_with (first | ((with_reducible refine gate_dst (N := 4) rfl ?_); refine box_event ?hg (N := 4) ?hd (cs := #[.string (⟨#[]⟩ : ByteArray), .int .i64 0, .slice none 0 0]) (t := 54) ?hr ?_; (case hd => rfl); (case hg => rfl); (case hr => first | (go_simp; done) | (go_simp; rfl)); intro g4 hg w16 hbox hb; have n0_ := Aside0.mk (blk_below (g := gb) (o := .cells #[.int .i64 a, .int .i64 b] 27 (0, 0)) (by (with_reducible repeat (first | refine blk_drewN ?_ _ | refine blk_drew ?_ | refine blk_alloc ?_ _)); exact BK.out) hb); have n1_ := Aside0.mk (below_step (by repeat (first | (with_reducible first | exact HB.out | apply below_alloc | apply pw_below_drewN | apply below_drew1 | refine below_set ?_ GE.out) | exact HB.out)) hb); have n2_ := Aside0.mk hbox; have n3_ := Aside0.mk ((by rw [hg]; exact (below_size (by repeat (first | (with_reducible first | exact HB.out | apply below_alloc | apply pw_below_drewN | apply below_drew1 | refine below_set ?_ GE.out) | exact HB.out)))) : w.heap.size ≤ g4); have n5_ := Aside0.mk ((by rw [hg]; exact Nat.ne_of_lt (blk_lt (g := gb) (o := .cells #[.int .i64 a, .int .i64 b] 27 (0, 0)) (by (with_reducible repeat (first | refine blk_drewN ?_ _ | refine blk_drew ?_ | refine blk_alloc ?_ _)); exact BK.out)) : gb ≠ g4)); have n6_ := Aside0.mk n5_.out.symm; clear BK; clear HB; have BK := n0_; have HB := n1_; have BK4 := n2_; have GE4 := n3_; have NB := n5_; have NB' := n6_; clear n0_ n1_ n2_ n3_ n5_ n6_; clear hb hbox hg; have hnb := NB'.out; have hnc := NB.out; have hd0 : w16.cell? ⟨g4, 0, none⟩ = some (.string (⟨#[]⟩ : ByteArray)) := (blk_cell BK4.out 0).trans rfl; have hd1 : w16.cell? ⟨g4, 1, none⟩ = some (.int .i64 0) := (blk_cell BK4.out 1).trans rfl; have hd2 : w16.cell? ⟨g4, 2, none⟩ = some (.slice none 0 0) := (blk_cell BK4.out 2).trans rfl; have hg0 := blk_frozen BK4.out 0; have hg1 := blk_frozen BK4.out 1; have hg2 := blk_frozen BK4.out 2) | (go_at_call 68; refine (isa_form.calls k1 (rd_T54 l0 i).f0 (rd_T54 l0 i).f1 A2 c2 (rd_T54 l0 i).f2 _ _ (Kd.C_below HR2.out (by repeat (first | (with_reducible first | exact HB.out | apply below_alloc | apply pw_below_drewN | apply below_drew1 | refine below_set ?_ GE.out | refine below_set ?_ GE4.out) | exact HB.out))) HC2.out A1.out).mono ?_; rintro e w19 ⟨rfl, hb⟩; have n0_ := Aside0.mk (blk_below (g := gb) (o := .cells #[.int .i64 a, .int .i64 b] 27 (0, 0)) (by (with_reducible repeat (first | refine blk_drewN ?_ _ | refine blk_drew ?_ | refine blk_alloc ?_ _)); refine blk_far ?_ NB.out _; (with_reducible repeat (first | refine blk_drewN ?_ _ | refine blk_drew ?_ | refine blk_alloc ?_ _)); refine blk_far ?_ NB.out _; (with_reducible repeat (first | refine blk_drewN ?_ _ | refine blk_drew ?_ | refine blk_alloc ?_ _)); refine blk_far ?_ NB.out _; (with_reducible repeat (first | refine blk_drewN ?_ _ | refine blk_drew ?_ | refine blk_alloc ?_ _)); exact BK.out) hb); have n1_ := Aside0.mk (blk_below (g := g4) (o := .cells #[.string (rd_T54 l0 i).f0, .int .i64 (rd_T54 l0 i).f1, .slice A2 (rd_T54 l0 i).f2.length c2] 54 (0, 0)) (by (with_reducible repeat (first | refine blk_drewN ?_ _ | refine blk_drew ?_ | refine blk_alloc ?_ _)); refine blk_put (cs := #[.string (rd_T54 l0 i).f0, .int .i64 (rd_T54 l0 i).f1, .slice none 0 0]) ?_ 2 _ rfl; (with_reducible repeat (first | refine blk_drewN ?_ _ | refine blk_drew ?_ | refine blk_alloc ?_ _)); refine blk_put (cs := #[.string (rd_T54 l0 i).f0, .int .i64 0, .slice none 0 0]) ?_ 1 _ rfl; (with_reducible repeat (first | refine blk_drewN ?_ _ | refine blk_drew ?_ | refine blk_alloc ?_ _)); refine blk_put (cs := #[.string (⟨#[]⟩ : ByteArray), .int .i64 0, .slice none 0 0]) ?_ 0 _ rfl; (with_reducible repeat (first | refine blk_drewN ?_ _ | refine blk_drew ?_ | refine blk_alloc ?_ _)); exact BK4.out) hb); have n2_ := Aside0.mk (below_step (by repeat (first | (with_reducible first | exact HB.out | apply below_alloc | apply pw_below_drewN | apply below_drew1 | refine below_set ?_ GE.out | refine below_set ?_ GE4.out) | exact HB.out)) hb); clear BK; clear BK4; clear HB; have BK := n0_; have BK4 := n1_; have HB := n2_; clear n0_ n1_ n2_; clear hb; have hcz0 : w19.cell? ⟨gb, 0, none⟩ = some (.int .i64 a) := (blk_cell BK.out 0).trans rfl; have hcz1 : w19.cell? ⟨gb, 1, none⟩ = some (.int .i64 b) := (blk_cell BK.out 1).trans rfl; have hfz0 := blk_frozen BK.out 0; have hfz1 := blk_frozen BK.out 1) | (go_at_call 71; have hcc := ContainsFunc.calls 69 #[.pointer (some ⟨g4, 0, none⟩)] (sameF (rd_T54 l0 i)) eg (some ad) c0 (l0.take i.toNat) _ (Kd.C_below (Kd.C_take HR0.out HT.out) HB.out) (validate_pred HR2.out HB.out BK4.out); rw [N1.out, F.out] at hcc; refine hcc.mono ?_; clear hcc; rintro e w21 ⟨rfl, hb⟩; have n0_ := Aside0.mk (blk_below (g := gb) (o := .cells #[.int .i64 a, .int .i64 b] 27 (0, 0)) (by (with_reducible repeat (first | refine blk_drewN ?_ _ | refine blk_drew ?_ | refine blk_alloc ?_ _)); exact BK.out) hb); have n2_ := Aside0.mk (below_step (by repeat (first | (with_reducible first | exact HB.out | apply below_alloc | apply pw_below_drewN | apply below_drew1 | refine below_set ?_ GE.out | refine below_set ?_ GE4.out) | exact HB.out)) hb); clear BK; clear HB; have BK := n0_; have HB := n2_; clear n0_ n2_; clear hb; have hcz0 : w21.cell? ⟨gb, 0, none⟩ = some (.int .i64 a) := (blk_cell BK.out 0).trans rfl; have hcz1 : w21.cell? ⟨gb, 1, none⟩ = some (.int .i64 b) := (blk_cell BK.out 1).trans rfl; have hfz0 := blk_frozen BK.out 0; have hfz1 := blk_frozen BK.out 1))
              go_roundg k1
              case measure => have := HK1.out; omega
              case rel => exact ⟨wrap64 (i + 1), a, b, by first | rfl | (simp; done), ⟨by rw [WR.out]; have := HI.out; omega⟩, H', ⟨by have := HK1.out; omega⟩, ⟨by (with_reducible repeat (first | refine blk_drewN ?_ _ | refine blk_drew ?_ | refine blk_alloc ?_ _)); exact BK.out⟩, ⟨by repeat (first | (with_reducible first | exact HB.out | apply below_alloc | apply pw_below_drewN | apply below_drew1 | refine below_set ?_ GE.out | refine below_set ?_ GE4.out) | exact HB.out)⟩⟩
          · rw [if_neg e] at H
            have e0 : (t == 0) = false := beq_eq_false_iff_ne.2 e
            have e1 : (t != 0) = true := bne_iff_ne.2 e
            clear e
            simp only [Option.some.injEq, Prod.mk.injEq] at H
            obtain ⟨rfl, rfl⟩ := H
            go_wp2_with (first | ((with_reducible refine gate_dst (N := 4) rfl ?_); refine box_event ?hg (N := 4) ?hd (cs := #[.string (⟨#[]⟩ : ByteArray), .int .i64 0, .slice none 0 0]) (t := 54) ?hr ?_; (case hd => rfl); (case hg => rfl); (case hr => first | (go_simp; done) | (go_simp; rfl)); intro g4 hg w16 hbox hb; have n0_ := Aside0.mk (blk_below (g := gb) (o := .cells #[.int .i64 a, .int .i64 b] 27 (0, 0)) (by (with_reducible repeat (first | refine blk_drewN ?_ _ | refine blk_drew ?_ | refine blk_alloc ?_ _)); exact BK.out) hb); have n1_ := Aside0.mk (below_step (by repeat (first | (with_reducible first | exact HB.out | apply below_alloc | apply pw_below_drewN | apply below_drew1 | refine below_set ?_ GE.out) | exact HB.out)) hb); have n2_ := Aside0.mk hbox; have n3_ := Aside0.mk ((by rw [hg]; exact (below_size (by repeat (first | (with_reducible first | exact HB.out | apply below_alloc | apply pw_below_drewN | apply below_drew1 | refine below_set ?_ GE.out) | exact HB.out)))) : w.heap.size ≤ g4); have n5_ := Aside0.mk ((by rw [hg]; exact Nat.ne_of_lt (blk_lt (g := gb) (o := .cells #[.int .i64 a, .int .i64 b] 27 (0, 0)) (by (with_reducible repeat (first | refine blk_drewN ?_ _ | refine blk_drew ?_ | refine blk_alloc ?_ _)); exact BK.out)) : gb ≠ g4)); have n6_ := Aside0.mk n5_.out.symm; clear BK; clear HB; have BK := n0_; have HB := n1_; have BK4 := n2_; have GE4 := n3_; have NB := n5_; have NB' := n6_; clear n0_ n1_ n2_ n3_ n5_ n6_; clear hb hbox hg; have hnb := NB'.out; have hnc := NB.out; have hd0 : w16.cell? ⟨g4, 0, none⟩ = some (.string (⟨#[]⟩ : ByteArray)) := (blk_cell BK4.out 0).trans rfl; have hd1 : w16.cell? ⟨g4, 1, none⟩ = some (.int .i64 0) := (blk_cell BK4.out 1).trans rfl; have hd2 : w16.cell? ⟨g4, 2, none⟩ = some (.slice none 0 0) := (blk_cell BK4.out 2).trans rfl; have hg0 := blk_frozen BK4.out 0; have hg1 := blk_frozen BK4.out 1; have hg2 := blk_frozen BK4.out 2) | (go_at_call 68; refine (isa_form.calls k1 (rd_T54 l0 i).f0 (rd_T54 l0 i).f1 A2 c2 (rd_T54 l0 i).f2 _ _ (Kd.C_below HR2.out (by repeat (first | (with_reducible first | exact HB.out | apply below_alloc | apply pw_below_drewN | apply below_drew1 | refine below_set ?_ GE.out | refine below_set ?_ GE4.out) | exact HB.out))) HC2.out A1.out).mono ?_; rintro e w19 ⟨rfl, hb⟩; have n0_ := Aside0.mk (blk_below (g := gb) (o := .cells #[.int .i64 a, .int .i64 b] 27 (0, 0)) (by (with_reducible repeat (first | refine blk_drewN ?_ _ | refine blk_drew ?_ | refine blk_alloc ?_ _)); refine blk_far ?_ NB.out _; (with_reducible repeat (first | refine blk_drewN ?_ _ | refine blk_drew ?_ | refine blk_alloc ?_ _)); refine blk_far ?_ NB.out _; (with_reducible repeat (first | refine blk_drewN ?_ _ | refine blk_drew ?_ | refine blk_alloc ?_ _)); refine blk_far ?_ NB.out _; (with_reducible repeat (first | refine blk_drewN ?_ _ | refine blk_drew ?_ | refine blk_alloc ?_ _)); exact BK.out) hb); have n1_ := Aside0.mk (blk_below (g := g4) (o := .cells #[.string (rd_T54 l0 i).f0, .int .i64 (rd_T54 l0 i).f1, .slice A2 (rd_T54 l0 i).f2.length c2] 54 (0, 0)) (by (with_reducible repeat (first | refine blk_drewN ?_ _ | refine blk_drew ?_ | refine blk_alloc ?_ _)); refine blk_put (cs := #[.string (rd_T54 l0 i).f0, .int .i64 (rd_T54 l0 i).f1, .slice none 0 0]) ?_ 2 _ rfl; (with_reducible repeat (first | refine blk_drewN ?_ _ | refine blk_drew ?_ | refine blk_alloc ?_ _)); refine blk_put (cs := #[.string (rd_T54 l0 i).f0, .int .i64 0, .slice none 0 0]) ?_ 1 _ rfl; (with_reducible repeat (first | refine blk_drewN ?_ _ | refine blk_drew ?_ | refine blk_alloc ?_ _)); refine blk_put (cs := #[.string (⟨#[]⟩ : ByteArray), .int .i64 0, .slice none 0 0]) ?_ 0 _ rfl; (with_reducible repeat (first | refine blk_drewN ?_ _ | refine blk_drew ?_ | refine blk_alloc ?_ _)); exact BK4.out) hb); have n2_ := Aside0.mk (below_step (by repeat (first | (with_reducible first | exact HB.out | apply below_alloc | apply pw_below_drewN | apply below_drew1 | refine below_set ?_ GE.out | refine below_set ?_ GE4.out) | exact HB.out)) hb); clear BK; clear BK4; clear HB; have BK := n0_; have BK4 := n1_; have HB := n2_; clear n0_ n1_ n2_; clear hb; have hcz0 : w19.cell? ⟨gb, 0, none⟩ = some (.int .i64 a) := (blk_cell BK.out 0).trans rfl; have hcz1 : w19.cell? ⟨gb, 1, none⟩ = some (.int .i64 b) := (blk_cell BK.out 1).trans rfl; have hfz0 := blk_frozen BK.out 0; have hfz1 := blk_frozen BK.out 1))
            refine bodyPost_ret (results_cell_row rfl _ _ gb 27 #[.int .i64 t, .int .i64 i] (0, 0) _ rfl (by (with_reducible repeat (first | refine blk_drewN ?_ _ | refine blk_drew ?_ | refine blk_alloc ?_ _)); refine blk_put (cs := #[.int .i64 t, .int .i64 b]) ?_ 1 _ rfl; (with_reducible repeat (first | refine blk_drewN ?_ _ | refine blk_drew ?_ | refine blk_alloc ?_ _)); refine blk_put (cs := #[.int .i64 a, .int .i64 b]) ?_ 0 _ rfl; (with_reducible repeat (first | refine blk_drewN ?_ _ | refine blk_drew ?_ | refine blk_alloc ?_ _)); exact BK.out) Try.underlying27 rfl (by kernel_rfl)) rfl ?_
            exact ⟨by first | rfl | (simp; done) | (simp [*]; done), by repeat (first | (with_reducible first | exact HB.out | apply below_alloc | apply pw_below_drewN | apply below_drew1 | refine below_set ?_ GE.out | refine below_set ?_ GE4.out) | exact HB.out)⟩
        · rw [if_neg d] at H
          have d0 : decide (i < (l0.length : Int)) = false := decide_eq_false d
          clear d
          simp only [Option.some.injEq, Prod.mk.injEq] at H
          obtain ⟨rfl, rfl⟩ := H
          have hcz0 : wr.cell? ⟨gb, 0, none⟩ = some (.int .i64 a) := (blk_cell BK.out 0).trans rfl
          have hcz1 : wr.cell? ⟨gb, 1, none⟩ = some (.int .i64 b) := (blk_cell BK.out 1).trans rfl
          have hfz0 := blk_frozen BK.out 0
          have hfz1 := blk_frozen BK.out 1
          go_wp2_with (fail)
          refine bodyPost_ret (results_cell_row rfl _ _ gb 27 #[.int .i64 0, .int .i64 0] (0, 0) _ rfl (by (with_reducible repeat (first | refine blk_drewN ?_ _ | refine blk_drew ?_ | refine blk_alloc ?_ _)); refine blk_put (cs := #[.int .i64 0, .int .i64 b]) ?_ 1 _ rfl; (with_reducible repeat (first | refine blk_drewN ?_ _ | refine blk_drew ?_ | refine blk_alloc ?_ _)); refine blk_put (cs := #[.int .i64 a, .int .i64 b]) ?_ 0 _ rfl; (with_reducible repeat (first | refine blk_drewN ?_ _ | refine blk_drew ?_ | refine blk_alloc ?_ _)); exact BK.out) Try.underlying27 rfl (by kernel_rfl)) rfl ?_
          exact ⟨by first | rfl | (simp; done) | (simp [*]; done), by repeat (first | (with_reducible first | exact HB.out | apply below_alloc | apply pw_below_drewN | apply below_drew1 | refine below_set ?_ GE.out) | exact HB.out)⟩
end Go.Proofs.Ytipjpdiianopcaa.Cv
namespace Go.Proofs.Ytipjpdiianopcaa.Cv
open Go.RowKit Go.Proofs.YtipjpdiianopcaaW.PrintWords Go.Proofs.YtipjpdiianopcaaW.PrintLast Go.Proofs.YtipjpdiianopcaaW.PrintMore Go.Proofs.Ytipjpdiianopcaa.A
attribute [local go_sem] max2_int min2_int max_two min_two max_three min_three max_four min_four
set_option linter.unusedVariables false
set_option linter.unusedSimpArgs false
theorem eqA27 (d : Nat) (w : World) (x0 y0 : Int) (x1 y1 : Int) :
    (Op.equalIn (d + 2) 27 (.agg #[.int .i64 x0, .int .i64 x1]) (.agg #[.int .i64 y0, .int .i64 y1])).run Try.prog w = .ok (x0 == y0 && (x1 == y1)) w := by
  refine eqA_of Try.underlying27 (by kernel_rfl) ?_
  refine eqf_cons (by rfl) (by go_simp; rfl) (by go_simp; rfl) (by go_simp) ?_
  exact eqf_last (by rfl) (by go_simp; rfl) (by go_simp; rfl) (by go_simp)
attribute [local go_sem high] eqA27
/-- A form has that name and those kinds. -/
def isNamed (name : ByteArray) (kinds : List Int) (g : S54) : Bool := g.f0.toList == name.toList && decide (g.f2 = kinds)
def isa_Find.f (k : Nat) (l0 : List S54) (name : ByteArray) (kinds : List Int) : Option (Int × Int × Int) := (isa_Validate.f k l0).bind fun bt => (if (!(bt.1 == 0) || (!(bt.2 == 0))) = true then some (0, bt.1, bt.2) else (if idxF (isNamed name kinds) l0 < 0 then some (0, 6, -2) else some (idxF (isNamed name kinds) l0, bt.1, bt.2)))
theorem isa_Find.mono : ∀ a0 a1 a2 k, LeO (isa_Find.f k a0 a1 a2) (isa_Find.f (k + 1) a0 a1 a2) := by
  intro a0 a1 a2 k
  unfold isa_Find.f
  repeat' first
      | (with_reducible exact isa_Validate.mono _ _)
      | (with_reducible exact LeO.refl _)
      | (with_reducible refine LeO.ite ?_ ?_)
      | (with_reducible refine LeO.bind ?_ (fun _ => ?_))
      | exact isa_Validate.mono _ _
      | refine LeO.ite ?_ ?_
      | refine LeO.bind ?_ (fun _ => ?_)
theorem find_pred {w W : World} {name : ByteArray} {kinds : List Int} {A2 : Option Addr} {c2 g4 g5 : Nat} {l : List S54} (hr : Kd.C (Kd.int .i64) w A2 kinds.length kinds) (hb : Below w.heap.size w W) (h4 : W.heap[g4]? = some (.cells #[.string name] 9 (0, 0))) (h5 : W.heap[g5]? = some (.cells #[.slice A2 kinds.length c2] 22 (0, 0))) : PredF 74 #[.pointer (some ⟨g4, 0, none⟩), .pointer (some ⟨g5, 0, none⟩)] (isNamed name kinds) l W := by
  intro V x Ag cg hV hx hg
  have hlt4 : g4 < W.heap.size := blk_lt h4
  have hlt5 : g5 < W.heap.size := blk_lt h5
  have h4' := blk_below h4 hV
  have h5' := blk_below h5 hV
  exact named.calls g4 g5 name kinds x A2 Ag c2 cg V (Nat.lt_of_lt_of_le hlt4 hV.size) (Nat.lt_of_lt_of_le hlt5 hV.size) ((blk_cell h4' 0).trans rfl) ((blk_cell h5' 0).trans rfl) (Kd.C_below (Kd.C_below hr hb) hV) hg
set_option maxHeartbeats 1000000 in
set_option maxRecDepth 100000 in
theorem isa_Find.calls (k : Nat) (A0 : Option Addr) (c0 : Nat) (l0 : List S54) (name : ByteArray) (A2 : Option Addr) (c2 : Nat) (kinds : List Int) (r1 : Int) (r2 : Int) (r3 : Int) (w : World) (hr0 : Kd.C k54 w A0 l0.length l0) (hc0 : l0.length ≤ c0) (hr2 : Kd.C (Kd.int .i64) w A2 kinds.length kinds) (hc2 : kinds.length ≤ c2) (h : isa_Find.f k l0 name kinds = some (r1, r2, r3)) :
    Calls Try.prog 39 #[.slice A0 l0.length c0, .string name, .slice A2 kinds.length c2] w fun e w' => e = .returned (.tuple #[.int .i64 r1, .agg #[.int .i64 r2, .int .i64 r3]]) ∧ Below w.heap.size w w' := by
  have hu27 := Try.underlying27
  have hu54 := Try.underlying54
  have hmf : ∀ (fn : Fn) (first cap : Array Value) (w : World), (Instr.makeFunc fn first cap).run Try.prog w = .ok (.func fn first cap) w := fun _ _ _ _ => rfl
  have eg : ∀ args w, (callFunc 74 args).run Try.prog w = .ok (.enter 74 args) w := enters_ Try.func74 (by kernel_rfl) rfl
  have HR0 := Aside0.mk hr0
  have HC0 := Aside0.mk hc0
  have HR2 := Aside0.mk hr2
  have HC2 := Aside0.mk hc2
  clear hr0 hc0 hr2 hc2
  have HB := Aside0.mk (Below.refl w.heap.size w)
  unfold isa_Find.f at h
  obtain ⟨⟨t1, t2⟩, A10, H⟩ := Option.bind_eq_some_iff.mp h
  clear h
  have A1 := Aside0.mk A10
  clear A10
  dsimp only at H
  obtain ⟨x, hx⟩ : ∃ x, idxF (isNamed name kinds) l0 = x := ⟨_, rfl⟩
  rw [hx] at H
  have X := Aside0.mk hx
  clear hx
  have H' := Aside0.mk H
  clear H
  go_enter Try.func39, Try.ntmps39
  go_upto_region 2 with (first | ((with_reducible refine gate_dst (N := 4) rfl ?_); refine box_event ?hg (N := 4) ?hd (cs := #[.string name]) (t := 9) ?hr ?_; (case hd => rfl); (case hg => rfl); (case hr => first | (go_simp; done) | (go_simp; rfl)); intro g4 hg w4 hbox hb; have nb_ := Aside0.mk (below_step (by repeat (first | (with_reducible first | exact HB.out | apply below_alloc | apply pw_below_drewN | apply below_drew1) | exact HB.out)) hb); have BK4 := Aside0.mk hbox; have GE4 := Aside0.mk ((by rw [hg]; exact (below_size (by repeat (first | (with_reducible first | exact HB.out | apply below_alloc | apply pw_below_drewN | apply below_drew1) | exact HB.out)))) : w.heap.size ≤ g4); clear HB; have HB := nb_; clear nb_; clear hb hbox hg) | ((with_reducible refine gate_dst (N := 5) rfl ?_); refine box_event ?hg (N := 5) ?hd (cs := #[.slice A2 kinds.length c2]) (t := 22) ?hr ?_; (case hd => rfl); (case hg => rfl); (case hr => first | (go_simp; done) | (go_simp; rfl)); intro g5 hg w5 hbox hb; have n4_ := Aside0.mk (blk_below (g := g4) (o := .cells #[.string name] 9 (0, 0)) (by (with_reducible repeat (first | refine blk_drewN ?_ _ | refine blk_drew ?_ | refine blk_alloc ?_ _)); exact BK4.out) hb); have nb_ := Aside0.mk (below_step (by repeat (first | (with_reducible first | exact HB.out | apply below_alloc | apply pw_below_drewN | apply below_drew1 | refine below_set ?_ GE4.out) | exact HB.out)) hb); have BK5 := Aside0.mk hbox; have GE5 := Aside0.mk ((by rw [hg]; exact (below_size (by repeat (first | (with_reducible first | exact HB.out | apply below_alloc | apply pw_below_drewN | apply below_drew1 | refine below_set ?_ GE4.out) | exact HB.out)))) : w.heap.size ≤ g5); have NB4_5 := Aside0.mk ((by rw [hg]; exact Nat.ne_of_lt (blk_lt (g := g4) (o := .cells #[.string name] 9 (0, 0)) (by (with_reducible repeat (first | refine blk_drewN ?_ _ | refine blk_drew ?_ | refine blk_alloc ?_ _)); exact BK4.out)) : g4 ≠ g5)); have NB5_4 := Aside0.mk NB4_5.out.symm; clear BK4; clear HB; have BK4 := n4_; clear n4_; have HB := nb_; clear nb_; clear hb hbox hg) | ((with_reducible refine gate_dst (N := 7) rfl ?_); refine box_event ?hg (N := 7) ?hd (cs := #[.int .i64 0, .int .i64 0]) (t := 27) ?hr ?_; (case hd => rfl); (case hg => rfl); (case hr => first | (go_simp; done) | (go_simp; rfl)); intro g7 hg w6 hbox hb; have n4_ := Aside0.mk (blk_below (g := g4) (o := .cells #[.string name] 9 (0, 0)) (by (with_reducible repeat (first | refine blk_drewN ?_ _ | refine blk_drew ?_ | refine blk_alloc ?_ _)); exact BK4.out) hb); have n5_ := Aside0.mk (blk_below (g := g5) (o := .cells #[.slice A2 kinds.length c2] 22 (0, 0)) (by (with_reducible repeat (first | refine blk_drewN ?_ _ | refine blk_drew ?_ | refine blk_alloc ?_ _)); exact BK5.out) hb); have nb_ := Aside0.mk (below_step (by repeat (first | (with_reducible first | exact HB.out | apply below_alloc | apply pw_below_drewN | apply below_drew1 | refine below_set ?_ GE4.out | refine below_set ?_ GE5.out) | exact HB.out)) hb); have BK7 := Aside0.mk hbox; have GE7 := Aside0.mk ((by rw [hg]; exact (below_size (by repeat (first | (with_reducible first | exact HB.out | apply below_alloc | apply pw_below_drewN | apply below_drew1 | refine below_set ?_ GE4.out | refine below_set ?_ GE5.out) | exact HB.out)))) : w.heap.size ≤ g7); have NB4_7 := Aside0.mk ((by rw [hg]; exact Nat.ne_of_lt (blk_lt (g := g4) (o := .cells #[.string name] 9 (0, 0)) (by (with_reducible repeat (first | refine blk_drewN ?_ _ | refine blk_drew ?_ | refine blk_alloc ?_ _)); exact BK4.out)) : g4 ≠ g7)); have NB7_4 := Aside0.mk NB4_7.out.symm; have NB5_7 := Aside0.mk ((by rw [hg]; exact Nat.ne_of_lt (blk_lt (g := g5) (o := .cells #[.slice A2 kinds.length c2] 22 (0, 0)) (by (with_reducible repeat (first | refine blk_drewN ?_ _ | refine blk_drew ?_ | refine blk_alloc ?_ _)); exact BK5.out)) : g5 ≠ g7)); have NB7_5 := Aside0.mk NB5_7.out.symm; clear BK4; clear BK5; clear HB; have BK4 := n4_; clear n4_; have BK5 := n5_; clear n5_; have HB := nb_; clear nb_; clear hb hbox hg) | ((with_reducible refine gate_dst (N := 8) rfl ?_); refine box_event ?hg (N := 8) ?hd (cs := #[.int .i64 0, .int .i64 0]) (t := 27) ?hr ?_; (case hd => rfl); (case hg => rfl); (case hr => first | (go_simp; done) | (go_simp; rfl)); intro g8 hg w10 hbox hb; have n4_ := Aside0.mk (blk_below (g := g4) (o := .cells #[.string name] 9 (0, 0)) (by (with_reducible repeat (first | refine blk_drewN ?_ _ | refine blk_drew ?_ | refine blk_alloc ?_ _)); exact BK4.out) hb); have n5_ := Aside0.mk (blk_below (g := g5) (o := .cells #[.slice A2 kinds.length c2] 22 (0, 0)) (by (with_reducible repeat (first | refine blk_drewN ?_ _ | refine blk_drew ?_ | refine blk_alloc ?_ _)); exact BK5.out) hb); have n7_ := Aside0.mk (blk_below (g := g7) (o := .cells #[.int .i64 0, .int .i64 0] 27 (0, 0)) (by (with_reducible repeat (first | refine blk_drewN ?_ _ | refine blk_drew ?_ | refine blk_alloc ?_ _)); exact BK7.out) hb); have nb_ := Aside0.mk (below_step (by repeat (first | (with_reducible first | exact HB.out | apply below_alloc | apply pw_below_drewN | apply below_drew1 | refine below_set ?_ GE4.out | refine below_set ?_ GE5.out | refine below_set ?_ GE7.out) | exact HB.out)) hb); have BK8 := Aside0.mk hbox; have GE8 := Aside0.mk ((by rw [hg]; exact (below_size (by repeat (first | (with_reducible first | exact HB.out | apply below_alloc | apply pw_below_drewN | apply below_drew1 | refine below_set ?_ GE4.out | refine below_set ?_ GE5.out | refine below_set ?_ GE7.out) | exact HB.out)))) : w.heap.size ≤ g8); have NB4_8 := Aside0.mk ((by rw [hg]; exact Nat.ne_of_lt (blk_lt (g := g4) (o := .cells #[.string name] 9 (0, 0)) (by (with_reducible repeat (first | refine blk_drewN ?_ _ | refine blk_drew ?_ | refine blk_alloc ?_ _)); exact BK4.out)) : g4 ≠ g8)); have NB8_4 := Aside0.mk NB4_8.out.symm; have NB5_8 := Aside0.mk ((by rw [hg]; exact Nat.ne_of_lt (blk_lt (g := g5) (o := .cells #[.slice A2 kinds.length c2] 22 (0, 0)) (by (with_reducible repeat (first | refine blk_drewN ?_ _ | refine blk_drew ?_ | refine blk_alloc ?_ _)); exact BK5.out)) : g5 ≠ g8)); have NB8_5 := Aside0.mk NB5_8.out.symm; have NB7_8 := Aside0.mk ((by rw [hg]; exact Nat.ne_of_lt (blk_lt (g := g7) (o := .cells #[.int .i64 0, .int .i64 0] 27 (0, 0)) (by (with_reducible repeat (first | refine blk_drewN ?_ _ | refine blk_drew ?_ | refine blk_alloc ?_ _)); exact BK7.out)) : g7 ≠ g8)); have NB8_7 := Aside0.mk NB7_8.out.symm; clear BK4; clear BK5; clear BK7; clear HB; have BK4 := n4_; clear n4_; have BK5 := n5_; clear n5_; have BK7 := n7_; clear n7_; have HB := nb_; clear nb_; clear hb hbox hg; have zc0 : w10.cell? ⟨g8, 0, none⟩ = some (.int .i64 0) := (blk_cell BK8.out 0).trans rfl; have zf0 := blk_frozen BK8.out 0; have zc1 : w10.cell? ⟨g8, 1, none⟩ = some (.int .i64 0) := (blk_cell BK8.out 1).trans rfl; have zf1 := blk_frozen BK8.out 1) | (go_at_call 35; refine (isa_Validate.calls k A0 c0 l0 t1 t2 _ (Kd.C_below HR0.out (by repeat (first | (with_reducible first | exact HB.out | apply below_alloc | apply pw_below_drewN | apply below_drew1 | refine below_set ?_ GE4.out | refine below_set ?_ GE5.out | refine below_set ?_ GE7.out) | exact HB.out))) HC0.out A1.out).mono ?_; rintro e w9 ⟨rfl, hb⟩; have n4_ := Aside0.mk (blk_below (g := g4) (o := .cells #[.string name] 9 (0, 0)) (by (with_reducible repeat (first | refine blk_drewN ?_ _ | refine blk_drew ?_ | refine blk_alloc ?_ _)); exact BK4.out) hb); have n5_ := Aside0.mk (blk_below (g := g5) (o := .cells #[.slice A2 kinds.length c2] 22 (0, 0)) (by (with_reducible repeat (first | refine blk_drewN ?_ _ | refine blk_drew ?_ | refine blk_alloc ?_ _)); exact BK5.out) hb); have n7_ := Aside0.mk (blk_below (g := g7) (o := .cells #[.int .i64 0, .int .i64 0] 27 (0, 0)) (by (with_reducible repeat (first | refine blk_drewN ?_ _ | refine blk_drew ?_ | refine blk_alloc ?_ _)); exact BK7.out) hb); have nb_ := Aside0.mk (below_step (by repeat (first | (with_reducible first | exact HB.out | apply below_alloc | apply pw_below_drewN | apply below_drew1 | refine below_set ?_ GE4.out | refine below_set ?_ GE5.out | refine below_set ?_ GE7.out) | exact HB.out)) hb); clear BK4 BK5 BK7 HB hb; have BK4 := n4_; have BK5 := n5_; have BK7 := n7_; have HB := nb_; clear n4_ n5_ n7_ nb_))
  (try simp only [Act.put, List.setIfInBounds_toArray, List.set_cons_zero, List.set_cons_succ])
  have n4_ : Aside0 (((w10.setCell ⟨g8, 0, none⟩ (.int .i64 t1)).setCell ⟨g8, 1, none⟩ (.int .i64 t2)).heap[g4]? = some (.cells #[.string name] 9 (0, 0))) := ⟨by (with_reducible repeat (first | refine blk_drewN ?_ _ | refine blk_drew ?_ | refine blk_alloc ?_ _)); refine blk_far ?_ NB4_8.out _; (with_reducible repeat (first | refine blk_drewN ?_ _ | refine blk_drew ?_ | refine blk_alloc ?_ _)); refine blk_far ?_ NB4_8.out _; (with_reducible repeat (first | refine blk_drewN ?_ _ | refine blk_drew ?_ | refine blk_alloc ?_ _)); exact BK4.out⟩
  have n5_ : Aside0 (((w10.setCell ⟨g8, 0, none⟩ (.int .i64 t1)).setCell ⟨g8, 1, none⟩ (.int .i64 t2)).heap[g5]? = some (.cells #[.slice A2 kinds.length c2] 22 (0, 0))) := ⟨by (with_reducible repeat (first | refine blk_drewN ?_ _ | refine blk_drew ?_ | refine blk_alloc ?_ _)); refine blk_far ?_ NB5_8.out _; (with_reducible repeat (first | refine blk_drewN ?_ _ | refine blk_drew ?_ | refine blk_alloc ?_ _)); refine blk_far ?_ NB5_8.out _; (with_reducible repeat (first | refine blk_drewN ?_ _ | refine blk_drew ?_ | refine blk_alloc ?_ _)); exact BK5.out⟩
  have n7_ : Aside0 (((w10.setCell ⟨g8, 0, none⟩ (.int .i64 t1)).setCell ⟨g8, 1, none⟩ (.int .i64 t2)).heap[g7]? = some (.cells #[.int .i64 0, .int .i64 0] 27 (0, 0))) := ⟨by (with_reducible repeat (first | refine blk_drewN ?_ _ | refine blk_drew ?_ | refine blk_alloc ?_ _)); refine blk_far ?_ NB7_8.out _; (with_reducible repeat (first | refine blk_drewN ?_ _ | refine blk_drew ?_ | refine blk_alloc ?_ _)); refine blk_far ?_ NB7_8.out _; (with_reducible repeat (first | refine blk_drewN ?_ _ | refine blk_drew ?_ | refine blk_alloc ?_ _)); exact BK7.out⟩
  have n8_ : Aside0 (((w10.setCell ⟨g8, 0, none⟩ (.int .i64 t1)).setCell ⟨g8, 1, none⟩ (.int .i64 t2)).heap[g8]? = some (.cells #[.int .i64 t1, .int .i64 t2] 27 (0, 0))) := ⟨by (with_reducible repeat (first | refine blk_drewN ?_ _ | refine blk_drew ?_ | refine blk_alloc ?_ _)); refine blk_put (cs := #[.int .i64 t1, .int .i64 0]) ?_ 1 _ rfl; (with_reducible repeat (first | refine blk_drewN ?_ _ | refine blk_drew ?_ | refine blk_alloc ?_ _)); refine blk_put (cs := #[.int .i64 0, .int .i64 0]) ?_ 0 _ rfl; (with_reducible repeat (first | refine blk_drewN ?_ _ | refine blk_drew ?_ | refine blk_alloc ?_ _)); exact BK8.out⟩
  have nb_ : Aside0 (Below w.heap.size w ((w10.setCell ⟨g8, 0, none⟩ (.int .i64 t1)).setCell ⟨g8, 1, none⟩ (.int .i64 t2))) := ⟨by repeat (first | (with_reducible first | exact HB.out | apply below_alloc | apply pw_below_drewN | apply below_drew1 | refine below_set ?_ GE4.out | refine below_set ?_ GE5.out | refine below_set ?_ GE7.out | refine below_set ?_ GE8.out) | exact HB.out)⟩
  clear BK4 BK5 BK7 BK8 HB
  generalize ((w10.setCell ⟨g8, 0, none⟩ (.int .i64 t1)).setCell ⟨g8, 1, none⟩ (.int .i64 t2)) = w11 at n4_ n5_ n7_ n8_ nb_ ⊢
  have BK4 := n4_
  have BK5 := n5_
  have BK7 := n7_
  have BK8 := n8_
  have HB := nb_
  clear n4_ n5_ n7_ n8_ nb_
  have H := H'.out
  clear H'
  have hc0 : w11.cell? ⟨g8, 0, none⟩ = some (.int .i64 t1) := (blk_cell BK8.out 0).trans rfl
  have hf0 := blk_frozen BK8.out 0
  have hc1 : w11.cell? ⟨g8, 1, none⟩ = some (.int .i64 t2) := (blk_cell BK8.out 1).trans rfl
  have hf1 := blk_frozen BK8.out 1
  by_cases c : (!(t1 == 0) || (!(t2 == 0))) = true
  · rw [if_pos c] at H
    simp only [Option.some.injEq, Prod.mk.injEq] at H
    obtain ⟨rfl, rfl, rfl⟩ := H
    try go_wp2
    have n7_ := Aside0.mk (blk_drew BK7.out)
    have n8_ := Aside0.mk (blk_drew BK8.out)
    have nb_ := Aside0.mk (below_drew1 HB.out)
    clear BK7 BK8 HB
    have BK7 := n7_
    have BK8 := n8_
    have HB := nb_
    clear n7_ n8_ nb_
    refine start_ (n := 3) (S := fun w' => w'.cell? ⟨g8, 0, none⟩ = some (.int .i64 t1) ∧ w'.cell? ⟨g8, 1, none⟩ = some (.int .i64 t2)) (ds := []) #[false, false, false] (by kernel_rfl) rfl rfl ⟨(blk_cell BK8.out 0).trans rfl, (blk_cell BK8.out 1).trans rfl⟩ (fun hHeld => ?_)
    generalize w11.drew = w13 at BK7 BK8 HB hHeld ⊢
    refine pure_ (i := 1) (N := some 6) (v := ?_) (a' := ?_) #[false, true, false] rfl rfl (by kernel_rfl) (fun _ _ _ h => h) (Or.inl ⟨by rfl, ?_⟩) ?_ ?_
    rotate_left
    · intro w'
      go_simp
      with_reducible rfl
    rotate_left
    · simp only [Act.put, List.setIfInBounds_toArray, List.set_cons_zero, List.set_cons_succ, i64_w, i32_w]
      rfl
    refine take_ (i := 0) (N := some 15) (v := ?_) (a' := ?_) #[true, true, false] rfl rfl (by kernel_rfl) (fun _ _ _ h => h) (Or.inl ⟨by rfl, ?_⟩) hHeld ?_ ?_
    rotate_left
    · rintro w' ⟨s0, s1⟩
      go_simp
      with_reducible rfl
    rotate_left
    · simp only [Act.put, List.setIfInBounds_toArray, List.set_cons_zero, List.set_cons_succ, i64_w, i32_w]
      rfl
    refine one_ (i := 2) (N := none) #[true, true, true] rfl rfl (by kernel_rfl) (by decide) (fun K hK => ?_)
    have hs0 : w13.cell? ⟨g7, 0, none⟩ = some (.int .i64 0) := (blk_cell BK7.out 0).trans rfl
    have hfs0 := blk_frozen BK7.out 0
    have hs1 : w13.cell? ⟨g7, 1, none⟩ = some (.int .i64 0) := (blk_cell BK7.out 1).trans rfl
    have hfs1 := blk_frozen BK7.out 1
    have hns := NB8_7.out
    have hms := NB7_8.out
    refine skip_ (w1 := ?_) (by rfl) rfl ?_ ?_
    rotate_left
    · go_simp
      rfl
    refine hK.out _ _ ⟨(cell_far (p := ⟨g7, _, none⟩) NB8_7.out _).trans ((cell_far (p := ⟨g7, _, none⟩) NB8_7.out _).trans (hHeld.1)), (cell_far (p := ⟨g7, _, none⟩) NB8_7.out _).trans ((cell_far (p := ⟨g7, _, none⟩) NB8_7.out _).trans (hHeld.2))⟩ (fun hHeld => ?_)
    clear hK K
    refine done_ (by kernel_rfl) ?_
    try go_wp2
    refine bodyPost_ret (results_tc rfl _ _ g7 27 #[.int .i64 t1, .int .i64 t2] (0, 0) _ rfl (by (with_reducible repeat (first | refine blk_drewN ?_ _ | refine blk_drew ?_ | refine blk_alloc ?_ _)); refine blk_put (cs := #[.int .i64 t1, .int .i64 0]) ?_ 1 _ rfl; (with_reducible repeat (first | refine blk_drewN ?_ _ | refine blk_drew ?_ | refine blk_alloc ?_ _)); refine blk_put (cs := #[.int .i64 0, .int .i64 0]) ?_ 0 _ rfl; (with_reducible repeat (first | refine blk_drewN ?_ _ | refine blk_drew ?_ | refine blk_alloc ?_ _)); exact BK7.out) Try.underlying27 rfl (by kernel_rfl)) rfl ?_
    exact ⟨by first | rfl | (simp; done) | (simp [*]; done), by repeat (first | (with_reducible first | exact HB.out | apply below_alloc | apply pw_below_drewN | apply below_drew1 | refine below_set ?_ GE4.out | refine below_set ?_ GE5.out | refine below_set ?_ GE7.out | refine below_set ?_ GE8.out) | exact HB.out)⟩
  · rw [if_neg c] at H
    have cb : (!(t1 == 0) || (!(t2 == 0))) = false := by simpa using c
    clear c
    by_cases d : x < 0
    · rw [if_pos d] at H
      have d0 : decide (x < 0) = true := decide_eq_true d
      clear d
      simp only [Option.some.injEq, Prod.mk.injEq] at H
      obtain ⟨rfl, rfl, rfl⟩ := H
      go_wp2_with (first | (go_at_call 73; have hcc := IndexFunc.calls 74 #[.pointer (some ⟨g4, 0, none⟩), .pointer (some ⟨g5, 0, none⟩)] (isNamed name kinds) eg A0 c0 l0 _ (Kd.C_below HR0.out (by repeat (first | (with_reducible first | exact HB.out | apply below_alloc | apply pw_below_drewN | apply below_drew1 | refine below_set ?_ GE4.out | refine below_set ?_ GE5.out | refine below_set ?_ GE7.out | refine below_set ?_ GE8.out) | exact HB.out))) (find_pred HR2.out (by repeat (first | (with_reducible first | exact HB.out | apply below_alloc | apply pw_below_drewN | apply below_drew1 | refine below_set ?_ GE4.out | refine below_set ?_ GE5.out | refine below_set ?_ GE7.out | refine below_set ?_ GE8.out) | exact HB.out)) (by (with_reducible repeat (first | refine blk_drewN ?_ _ | refine blk_drew ?_ | refine blk_alloc ?_ _)); exact BK4.out) (by (with_reducible repeat (first | refine blk_drewN ?_ _ | refine blk_drew ?_ | refine blk_alloc ?_ _)); exact BK5.out)); rw [X.out] at hcc; refine hcc.mono ?_; clear hcc; rintro e w12 ⟨rfl, hb⟩; have n7_ := Aside0.mk (blk_below (g := g7) (o := .cells #[.int .i64 0, .int .i64 0] 27 (0, 0)) (by (with_reducible repeat (first | refine blk_drewN ?_ _ | refine blk_drew ?_ | refine blk_alloc ?_ _)); exact BK7.out) hb); have n8_ := Aside0.mk (blk_below (g := g8) (o := .cells #[.int .i64 t1, .int .i64 t2] 27 (0, 0)) (by (with_reducible repeat (first | refine blk_drewN ?_ _ | refine blk_drew ?_ | refine blk_alloc ?_ _)); exact BK8.out) hb); have nb_ := Aside0.mk (below_step (by repeat (first | (with_reducible first | exact HB.out | apply below_alloc | apply pw_below_drewN | apply below_drew1 | refine below_set ?_ GE4.out | refine below_set ?_ GE5.out | refine below_set ?_ GE7.out | refine below_set ?_ GE8.out) | exact HB.out)) hb); clear BK7 BK8 HB hb; have BK7 := n7_; have BK8 := n8_; have HB := nb_; clear n7_ n8_ nb_; have hs0 : w12.cell? ⟨g7, 0, none⟩ = some (.int .i64 0) := (blk_cell BK7.out 0).trans rfl; have hs1 : w12.cell? ⟨g7, 1, none⟩ = some (.int .i64 0) := (blk_cell BK7.out 1).trans rfl; have hfs0 := blk_frozen BK7.out 0; have hfs1 := blk_frozen BK7.out 1))
      refine bodyPost_ret (results_tc rfl _ _ g7 27 #[.int .i64 6, .int .i64 (-2)] (0, 0) _ rfl (by (with_reducible repeat (first | refine blk_drewN ?_ _ | refine blk_drew ?_ | refine blk_alloc ?_ _)); refine blk_put (cs := #[.int .i64 6, .int .i64 0]) ?_ 1 _ rfl; (with_reducible repeat (first | refine blk_drewN ?_ _ | refine blk_drew ?_ | refine blk_alloc ?_ _)); refine blk_put (cs := #[.int .i64 0, .int .i64 0]) ?_ 0 _ rfl; (with_reducible repeat (first | refine blk_drewN ?_ _ | refine blk_drew ?_ | refine blk_alloc ?_ _)); exact BK7.out) Try.underlying27 rfl (by kernel_rfl)) rfl ?_
      exact ⟨by first | rfl | (simp; done) | (simp [*]; done), by repeat (first | (with_reducible first | exact HB.out | apply below_alloc | apply pw_below_drewN | apply below_drew1 | refine below_set ?_ GE4.out | refine below_set ?_ GE5.out | refine below_set ?_ GE7.out | refine below_set ?_ GE8.out) | exact HB.out)⟩
    · rw [if_neg d] at H
      have d0 : decide (x < 0) = false := decide_eq_false d
      clear d
      simp only [Option.some.injEq, Prod.mk.injEq] at H
      obtain ⟨rfl, rfl, rfl⟩ := H
      go_wp2_with (first | (go_at_call 73; have hcc := IndexFunc.calls 74 #[.pointer (some ⟨g4, 0, none⟩), .pointer (some ⟨g5, 0, none⟩)] (isNamed name kinds) eg A0 c0 l0 _ (Kd.C_below HR0.out (by repeat (first | (with_reducible first | exact HB.out | apply below_alloc | apply pw_below_drewN | apply below_drew1 | refine below_set ?_ GE4.out | refine below_set ?_ GE5.out | refine below_set ?_ GE7.out | refine below_set ?_ GE8.out) | exact HB.out))) (find_pred HR2.out (by repeat (first | (with_reducible first | exact HB.out | apply below_alloc | apply pw_below_drewN | apply below_drew1 | refine below_set ?_ GE4.out | refine below_set ?_ GE5.out | refine below_set ?_ GE7.out | refine below_set ?_ GE8.out) | exact HB.out)) (by (with_reducible repeat (first | refine blk_drewN ?_ _ | refine blk_drew ?_ | refine blk_alloc ?_ _)); exact BK4.out) (by (with_reducible repeat (first | refine blk_drewN ?_ _ | refine blk_drew ?_ | refine blk_alloc ?_ _)); exact BK5.out)); rw [X.out] at hcc; refine hcc.mono ?_; clear hcc; rintro e w12 ⟨rfl, hb⟩; have n7_ := Aside0.mk (blk_below (g := g7) (o := .cells #[.int .i64 0, .int .i64 0] 27 (0, 0)) (by (with_reducible repeat (first | refine blk_drewN ?_ _ | refine blk_drew ?_ | refine blk_alloc ?_ _)); exact BK7.out) hb); have n8_ := Aside0.mk (blk_below (g := g8) (o := .cells #[.int .i64 t1, .int .i64 t2] 27 (0, 0)) (by (with_reducible repeat (first | refine blk_drewN ?_ _ | refine blk_drew ?_ | refine blk_alloc ?_ _)); exact BK8.out) hb); have nb_ := Aside0.mk (below_step (by repeat (first | (with_reducible first | exact HB.out | apply below_alloc | apply pw_below_drewN | apply below_drew1 | refine below_set ?_ GE4.out | refine below_set ?_ GE5.out | refine below_set ?_ GE7.out | refine below_set ?_ GE8.out) | exact HB.out)) hb); clear BK7 BK8 HB hb; have BK7 := n7_; have BK8 := n8_; have HB := nb_; clear n7_ n8_ nb_; have hs0 : w12.cell? ⟨g7, 0, none⟩ = some (.int .i64 0) := (blk_cell BK7.out 0).trans rfl; have hs1 : w12.cell? ⟨g7, 1, none⟩ = some (.int .i64 0) := (blk_cell BK7.out 1).trans rfl; have hfs0 := blk_frozen BK7.out 0; have hfs1 := blk_frozen BK7.out 1))
      have n7_ := Aside0.mk (blk_drew BK7.out)
      have n8_ := Aside0.mk (blk_drew BK8.out)
      have nb_ := Aside0.mk (below_drew1 HB.out)
      clear BK7 BK8 HB
      have BK7 := n7_
      have BK8 := n8_
      have HB := nb_
      clear n7_ n8_ nb_
      refine start_ (n := 4) (S := fun w' => w'.cell? ⟨g8, 0, none⟩ = some (.int .i64 t1) ∧ w'.cell? ⟨g8, 1, none⟩ = some (.int .i64 t2)) (ds := []) #[false, false, false, false] (by kernel_rfl) rfl rfl ⟨(blk_cell BK8.out 0).trans rfl, (blk_cell BK8.out 1).trans rfl⟩ (fun hHeld => ?_)
      generalize w12.drew = w14 at BK7 BK8 HB hHeld ⊢
      refine pure_ (i := 0) (N := some 22) (v := ?_) (a' := ?_) #[true, false, false, false] rfl rfl (by kernel_rfl) (fun _ _ _ h => h) (Or.inl ⟨by rfl, ?_⟩) ?_ ?_
      rotate_left
      · intro w'
        go_simp
        with_reducible rfl
      rotate_left
      · simp only [Act.put, List.setIfInBounds_toArray, List.set_cons_zero, List.set_cons_succ, i64_w, i32_w]
        rfl
      refine pure_ (i := 2) (N := some 6) (v := ?_) (a' := ?_) #[true, false, true, false] rfl rfl (by kernel_rfl) (fun _ _ _ h => h) (Or.inl ⟨by rfl, ?_⟩) ?_ ?_
      rotate_left
      · intro w'
        go_simp
        with_reducible rfl
      rotate_left
      · simp only [Act.put, List.setIfInBounds_toArray, List.set_cons_zero, List.set_cons_succ, i64_w, i32_w]
        rfl
      refine take_ (i := 1) (N := some 23) (v := ?_) (a' := ?_) #[true, true, true, false] rfl rfl (by kernel_rfl) (fun _ _ _ h => h) (Or.inl ⟨by rfl, ?_⟩) hHeld ?_ ?_
      rotate_left
      · rintro w' ⟨s0, s1⟩
        go_simp
        with_reducible rfl
      rotate_left
      · simp only [Act.put, List.setIfInBounds_toArray, List.set_cons_zero, List.set_cons_succ, i64_w, i32_w]
        rfl
      refine one_ (i := 3) (N := none) #[true, true, true, true] rfl rfl (by kernel_rfl) (by decide) (fun K hK => ?_)
      have hs0 : w14.cell? ⟨g7, 0, none⟩ = some (.int .i64 0) := (blk_cell BK7.out 0).trans rfl
      have hfs0 := blk_frozen BK7.out 0
      have hs1 : w14.cell? ⟨g7, 1, none⟩ = some (.int .i64 0) := (blk_cell BK7.out 1).trans rfl
      have hfs1 := blk_frozen BK7.out 1
      have hns := NB8_7.out
      have hms := NB7_8.out
      refine skip_ (w1 := ?_) (by rfl) rfl ?_ ?_
      rotate_left
      · go_simp
        rfl
      refine hK.out _ _ ⟨(cell_far (p := ⟨g7, _, none⟩) NB8_7.out _).trans ((cell_far (p := ⟨g7, _, none⟩) NB8_7.out _).trans (hHeld.1)), (cell_far (p := ⟨g7, _, none⟩) NB8_7.out _).trans ((cell_far (p := ⟨g7, _, none⟩) NB8_7.out _).trans (hHeld.2))⟩ (fun hHeld => ?_)
      clear hK K
      refine done_ (by kernel_rfl) ?_
      try go_wp2
      refine bodyPost_ret (results_tc rfl _ _ g7 27 #[.int .i64 t1, .int .i64 t2] (0, 0) _ rfl (by (with_reducible repeat (first | refine blk_drewN ?_ _ | refine blk_drew ?_ | refine blk_alloc ?_ _)); refine blk_put (cs := #[.int .i64 t1, .int .i64 0]) ?_ 1 _ rfl; (with_reducible repeat (first | refine blk_drewN ?_ _ | refine blk_drew ?_ | refine blk_alloc ?_ _)); refine blk_put (cs := #[.int .i64 0, .int .i64 0]) ?_ 0 _ rfl; (with_reducible repeat (first | refine blk_drewN ?_ _ | refine blk_drew ?_ | refine blk_alloc ?_ _)); exact BK7.out) Try.underlying27 rfl (by kernel_rfl)) rfl ?_
      exact ⟨by first | rfl | (simp; done) | (simp [*]; done), by repeat (first | (with_reducible first | exact HB.out | apply below_alloc | apply pw_below_drewN | apply below_drew1 | refine below_set ?_ GE4.out | refine below_set ?_ GE5.out | refine below_set ?_ GE7.out | refine below_set ?_ GE8.out) | exact HB.out)⟩
end Go.Proofs.Ytipjpdiianopcaa.Cv
