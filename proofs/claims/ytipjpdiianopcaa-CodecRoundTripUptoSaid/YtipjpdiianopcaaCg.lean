/- codec.Get and codec.GetText by their contracts. -/
import Derived.Test.YtipjpdiianopcaaCr
namespace Go.Proofs.Ytipjpdiianopcaa.Cr
open Go.RowKit Go.Proofs.YtipjpdiianopcaaW.PrintWords Go.Proofs.YtipjpdiianopcaaW.PrintLast Go.Proofs.YtipjpdiianopcaaW.PrintMore Go.Proofs.Ytipjpdiianopcaa.A
set_option linter.unusedVariables false
set_option linter.unusedSimpArgs false

theorem slice3 {α : Type} {d : Kd α} {e : Nat} {w : World} {base : Nat} {ok : Nat → Prop} {v : Value} {xs : List α} (h : d.R e w base ok v xs) : ∃ A n c, v = .slice A n c := by
  obtain ⟨A, c, h⟩ := Kd.R_slice h
  exact ⟨A, _, c, h⟩

def codec_Get.f (l0 : List Int) : Option (List Int × Int × Int) :=
  if 200000 < (l0.length : Int) then some ([], 2, -1)
  else if (rL (rN l0) l0).2.2 = true ∨ (rL (rN l0) l0).2.1 ≠ (l0.length : Int) then some ([], 17, -2) else some ((rL (rN l0) l0).1, 0, 0)
set_option maxHeartbeats 8000000 in
set_option maxRecDepth 100000 in
theorem codec_Get.calls (A0 : Option Addr) (c0 : Nat) (l0 : List Int) (r1 : List Int) (r2 : Int) (r3 : Int) (w : World) (hr0 : Kd.C (Kd.int .u8) w A0 l0.length l0) (hc0 : l0.length ≤ c0) (h : codec_Get.f l0 = some (r1, r2, r3)) :
    Calls Try.prog 27 #[.slice A0 l0.length c0] w fun e w' => ∃ v0_ : Value, e = .returned (.tuple #[v0_, .agg #[.int .i64 r2, .int .i64 r3]]) ∧ Kd.R (Kd.int .i64) 3 w' w.heap.size (fun _ => True) v0_ r1 ∧ Below w.heap.size w w' := by
  have HR := Aside0.mk hr0
  have HCC := Aside0.mk hc0
  clear hr0 hc0
  unfold codec_Get.f at h
  have hG := blk_new w (.cells #[.int .i64 0, .int .i64 0] 27)
  have hc27_0 : (w.alloc (.cells #[.int .i64 0, .int .i64 0] 27)).cell? ⟨w.heap.size, 0, none⟩ = some (.int .i64 0) := (blk_cell hG 0).trans rfl
  have hc27_1 : (w.alloc (.cells #[.int .i64 0, .int .i64 0] 27)).cell? ⟨w.heap.size, 1, none⟩ = some (.int .i64 0) := (blk_cell hG 1).trans rfl
  have hf27_0 := blk_frozen hG 0
  have hf27_1 := blk_frozen hG 1
  have HG := Aside0.mk hG
  clear hG
  have hu27 := Try.underlying27
  have hu95 := Try.underlying95
  by_cases c : 200000 < (l0.length : Int)
  · rw [if_pos c] at h
    simp only [Option.some.injEq, Prod.mk.injEq] at h
    obtain ⟨rfl, rfl, rfl⟩ := h
    have cb : decide ((200000 : Int) < (l0.length : Int)) = true := decide_eq_true c
    have cn : decide (200000 < l0.length) = true := decide_eq_true (by omega)
    clear c
    go_enter Try.func27, Try.ntmps27
    go_wp2
    refine bodyPost_ret (results_tc rfl _ _ w.heap.size 27 #[.int .i64 2, .int .i64 (-1)] (0, 0) _ rfl (blk_new w _) Try.underlying27 rfl (by kernel_rfl)) rfl ?_
    exact ⟨_, rfl, Kd.R_nil _ _ _ _ _, (Below.refl _ _).alloc (Nat.le_refl _) _⟩
  · rw [if_neg c] at h
    have hl : l0.length ≤ 200000 := by omega
    have HL := Aside0.mk hl
    have cb : decide ((200000 : Int) < (l0.length : Int)) = false := decide_eq_false c
    have cn : decide (200000 < l0.length) = false := decide_eq_false (by omega)
    obtain ⟨rl, ra, rb, hx⟩ : ∃ rl ra rb, rL (rN l0) l0 = (rl, ra, rb) := ⟨_, _, _, rfl⟩
    rw [hx] at h
    have HX := Aside0.mk hx
    clear hx c
    have hI : IsS95 (w.alloc (.cells #[.int .i64 0, .int .i64 0] 27)) ((w.alloc (.cells #[.int .i64 0, .int .i64 0] 27)).alloc (.cells #[.slice A0 l0.length c0, .int .i64 0, .bool false] 95)) (w.heap.size + 1) l0 0 false := by
      have h := IsS95.new (w.alloc (.cells #[.int .i64 0, .int .i64 0] 27)) (w.alloc (.cells #[.int .i64 0, .int .i64 0] 27)) A0 c0 l0 0 false (Below.refl _ _) (Kd.C_alloc HR.out _) HCC.out
      simpa using h
    have HI := Aside0.mk hI
    clear hI hl
    have hlen1 : (w.alloc (.cells #[.int .i64 0, .int .i64 0] 27)).heap.size = w.heap.size + 1 := by simp
    have HL1 := Aside0.mk hlen1
    clear hlen1
    have H := Aside0.mk h
    clear h
    go_enter Try.func27, Try.ntmps27
    go_upto_region 5 with (first | (go_at_call 61; refine (readInt _ l0 (w.alloc (.cells #[.int .i64 0, .int .i64 0] 27)) _ HI.out ((Below.refl _ _).alloc (Nat.le_refl _) _) (by have := HL.out; omega)).mono ?_; rintro e w1 ⟨v, rfl, hr, hi, hb⟩; rw [HX.out] at hr hi; obtain ⟨A1, n1, c1, rfl⟩ := slice3 hr; have HB1 := Aside0.mk hb; have HR1 := Aside0.mk hr; obtain ⟨A9, c9, hg, hgg, HC9⟩ := hi; have hs1 := cellS95_1 hg; have hs2 := cellS95_2 hg; have hG1 := (hb.block w.heap.size (by simp)).trans HG.out; have HG1 := Aside0.mk hG1; clear hr hg hgg hb hG1 HC9))
    go_cut [29] (fun v29 wc => ∃ b : Bool, v29 = .bool b ∧ Aside0 (b = true ↔ rb = true ∨ ra ≠ (l0.length : Int)) ∧ wc = w1)
    case first =>
      cases rb with
      | true =>
        go_wp2
        go_meet
        case rel => exact ⟨true, rfl, ⟨by simp⟩, rfl⟩
      | false =>
        by_cases e : ra = (l0.length : Int)
        · have eb : (ra != (l0.length : Int)) = false := bne_eq_false_iff_eq.mpr e
          have E := Aside0.mk e
          clear e
          go_wp2
          go_meet
          case rel => exact ⟨false, rfl, ⟨by have := E.out; simp [this]⟩, rfl⟩
        · have eb : (ra != (l0.length : Int)) = true := bne_iff_ne.mpr e
          have E := Aside0.mk e
          clear e
          go_wp2
          go_meet
          case rel => exact ⟨true, rfl, ⟨by have := E.out; simp [this]⟩, rfl⟩
    case rest =>
      obtain ⟨b, rfl, HBB, rfl⟩ := hcut
      have hG1 := HG1.out
      have hc1_0 : wc.cell? ⟨w.heap.size, 0, none⟩ = some (.int .i64 0) := (blk_cell hG1 0).trans rfl
      have hc1_1 : wc.cell? ⟨w.heap.size, 1, none⟩ = some (.int .i64 0) := (blk_cell hG1 1).trans rfl
      have hf1_0 := blk_frozen hG1 0
      have hf1_1 := blk_frozen hG1 1
      clear hG1
      have h := H.out
      have hB := (((Below.refl w.heap.size w).alloc (Nat.le_refl _) (.cells #[.int .i64 0, .int .i64 0] 27)).trans (HB1.out.mono (by simp)))
      have HB := Aside0.mk hB
      clear hB
      cases b with
      | true =>
        rw [if_pos (HBB.out.1 rfl)] at h
        simp only [Option.some.injEq, Prod.mk.injEq] at h
        obtain ⟨rfl, rfl, rfl⟩ := h
        go_wp2
        refine bodyPost_ret (results_tc rfl _ _ w.heap.size 27 #[.int .i64 17, .int .i64 (-2)] (0, 0) _ rfl (by refine blk_put (cs := #[.int .i64 17, .int .i64 0]) ?_ 1 _ rfl; refine blk_put (cs := #[.int .i64 0, .int .i64 0]) ?_ 0 _ rfl; exact HG1.out) Try.underlying27 rfl (by kernel_rfl)) rfl ?_
        exact ⟨_, rfl, Kd.R_nil _ _ _ _ _, below_set (below_set HB.out (Nat.le_refl _)) (Nat.le_refl _)⟩
      | false =>
        rw [if_neg (fun hc => by have := HBB.out.2 hc; simp at this)] at h
        simp only [Option.some.injEq, Prod.mk.injEq] at h
        obtain ⟨rfl, rfl, rfl⟩ := h
        go_wp2
        refine bodyPost_ret (results_tc rfl _ _ w.heap.size 27 #[.int .i64 0, .int .i64 0] (0, 0) _ rfl (by refine blk_put (cs := #[.int .i64 0, .int .i64 0]) ?_ 1 _ rfl; refine blk_put (cs := #[.int .i64 0, .int .i64 0]) ?_ 0 _ rfl; exact HG1.out) Try.underlying27 rfl (by kernel_rfl)) rfl ?_
        refine ⟨_, rfl, Kd.R_lower (base := (w.alloc (.cells #[.int .i64 0, .int .i64 0] 27)).heap.size) (Kd.R_mono (Kd.R_set (Kd.R_set HR1.out HG1.out (by simp [Kd.int, Kd.string, Kd.scalar]) 0 _) (blk_put HG1.out 0 _ rfl) (by simp [Kd.int, Kd.string, Kd.scalar]) 1 _) (fun _ _ => trivial)) (by simp), below_set (below_set HB.out (Nat.le_refl _)) (Nat.le_refl _)⟩

def codec_GetText.f (l0 : List Int) : Option (List ByteArray × Int × Int) :=
  if 200000 < (l0.length : Int) then some ([], 2, -1)
  else if (rL (rT l0) l0).2.2 = true ∨ (rL (rT l0) l0).2.1 ≠ (l0.length : Int) then some ([], 17, -2) else some ((rL (rT l0) l0).1, 0, 0)
set_option maxHeartbeats 8000000 in
set_option maxRecDepth 100000 in
theorem codec_GetText.calls (A0 : Option Addr) (c0 : Nat) (l0 : List Int) (r1 : List ByteArray) (r2 : Int) (r3 : Int) (w : World) (hr0 : Kd.C (Kd.int .u8) w A0 l0.length l0) (hc0 : l0.length ≤ c0) (h : codec_GetText.f l0 = some (r1, r2, r3)) :
    Calls Try.prog 30 #[.slice A0 l0.length c0] w fun e w' => ∃ v0_ : Value, e = .returned (.tuple #[v0_, .agg #[.int .i64 r2, .int .i64 r3]]) ∧ Kd.R Kd.string 9 w' w.heap.size (fun _ => True) v0_ r1 ∧ Below w.heap.size w w' := by
  have HR := Aside0.mk hr0
  have HCC := Aside0.mk hc0
  clear hr0 hc0
  unfold codec_GetText.f at h
  have hG := blk_new w (.cells #[.int .i64 0, .int .i64 0] 27)
  have hc27_0 : (w.alloc (.cells #[.int .i64 0, .int .i64 0] 27)).cell? ⟨w.heap.size, 0, none⟩ = some (.int .i64 0) := (blk_cell hG 0).trans rfl
  have hc27_1 : (w.alloc (.cells #[.int .i64 0, .int .i64 0] 27)).cell? ⟨w.heap.size, 1, none⟩ = some (.int .i64 0) := (blk_cell hG 1).trans rfl
  have hf27_0 := blk_frozen hG 0
  have hf27_1 := blk_frozen hG 1
  have HG := Aside0.mk hG
  clear hG
  have hu27 := Try.underlying27
  have hu95 := Try.underlying95
  by_cases c : 200000 < (l0.length : Int)
  · rw [if_pos c] at h
    simp only [Option.some.injEq, Prod.mk.injEq] at h
    obtain ⟨rfl, rfl, rfl⟩ := h
    have cb : decide ((200000 : Int) < (l0.length : Int)) = true := decide_eq_true c
    have cn : decide (200000 < l0.length) = true := decide_eq_true (by omega)
    clear c
    go_enter Try.func30, Try.ntmps30
    go_wp2
    refine bodyPost_ret (results_tc rfl _ _ w.heap.size 27 #[.int .i64 2, .int .i64 (-1)] (0, 0) _ rfl (blk_new w _) Try.underlying27 rfl (by kernel_rfl)) rfl ?_
    exact ⟨_, rfl, Kd.R_nil _ _ _ _ _, (Below.refl _ _).alloc (Nat.le_refl _) _⟩
  · rw [if_neg c] at h
    have hl : l0.length ≤ 200000 := by omega
    have HL := Aside0.mk hl
    have cb : decide ((200000 : Int) < (l0.length : Int)) = false := decide_eq_false c
    have cn : decide (200000 < l0.length) = false := decide_eq_false (by omega)
    obtain ⟨rl, ra, rb, hx⟩ : ∃ rl ra rb, rL (rT l0) l0 = (rl, ra, rb) := ⟨_, _, _, rfl⟩
    rw [hx] at h
    have HX := Aside0.mk hx
    clear hx c
    have hI : IsS95 (w.alloc (.cells #[.int .i64 0, .int .i64 0] 27)) ((w.alloc (.cells #[.int .i64 0, .int .i64 0] 27)).alloc (.cells #[.slice A0 l0.length c0, .int .i64 0, .bool false] 95)) (w.heap.size + 1) l0 0 false := by
      have h := IsS95.new (w.alloc (.cells #[.int .i64 0, .int .i64 0] 27)) (w.alloc (.cells #[.int .i64 0, .int .i64 0] 27)) A0 c0 l0 0 false (Below.refl _ _) (Kd.C_alloc HR.out _) HCC.out
      simpa using h
    have HI := Aside0.mk hI
    clear hI hl
    have hlen1 : (w.alloc (.cells #[.int .i64 0, .int .i64 0] 27)).heap.size = w.heap.size + 1 := by simp
    have HL1 := Aside0.mk hlen1
    clear hlen1
    have H := Aside0.mk h
    clear h
    go_enter Try.func30, Try.ntmps30
    go_upto_region 5 with (first | (go_at_call 64; refine (readStr _ l0 (w.alloc (.cells #[.int .i64 0, .int .i64 0] 27)) _ HI.out ((Below.refl _ _).alloc (Nat.le_refl _) _) (by have := HL.out; omega)).mono ?_; rintro e w1 ⟨v, rfl, hr, hi, hb⟩; rw [HX.out] at hr hi; obtain ⟨A1, n1, c1, rfl⟩ := slice3 hr; have HB1 := Aside0.mk hb; have HR1 := Aside0.mk hr; obtain ⟨A9, c9, hg, hgg, HC9⟩ := hi; have hs1 := cellS95_1 hg; have hs2 := cellS95_2 hg; have hG1 := (hb.block w.heap.size (by simp)).trans HG.out; have HG1 := Aside0.mk hG1; clear hr hg hgg hb hG1 HC9))
    go_cut [29] (fun v29 wc => ∃ b : Bool, v29 = .bool b ∧ Aside0 (b = true ↔ rb = true ∨ ra ≠ (l0.length : Int)) ∧ wc = w1)
    case first =>
      cases rb with
      | true =>
        go_wp2
        go_meet
        case rel => exact ⟨true, rfl, ⟨by simp⟩, rfl⟩
      | false =>
        by_cases e : ra = (l0.length : Int)
        · have eb : (ra != (l0.length : Int)) = false := bne_eq_false_iff_eq.mpr e
          have E := Aside0.mk e
          clear e
          go_wp2
          go_meet
          case rel => exact ⟨false, rfl, ⟨by have := E.out; simp [this]⟩, rfl⟩
        · have eb : (ra != (l0.length : Int)) = true := bne_iff_ne.mpr e
          have E := Aside0.mk e
          clear e
          go_wp2
          go_meet
          case rel => exact ⟨true, rfl, ⟨by have := E.out; simp [this]⟩, rfl⟩
    case rest =>
      obtain ⟨b, rfl, HBB, rfl⟩ := hcut
      have hG1 := HG1.out
      have hc1_0 : wc.cell? ⟨w.heap.size, 0, none⟩ = some (.int .i64 0) := (blk_cell hG1 0).trans rfl
      have hc1_1 : wc.cell? ⟨w.heap.size, 1, none⟩ = some (.int .i64 0) := (blk_cell hG1 1).trans rfl
      have hf1_0 := blk_frozen hG1 0
      have hf1_1 := blk_frozen hG1 1
      clear hG1
      have h := H.out
      have hB := (((Below.refl w.heap.size w).alloc (Nat.le_refl _) (.cells #[.int .i64 0, .int .i64 0] 27)).trans (HB1.out.mono (by simp)))
      have HB := Aside0.mk hB
      clear hB
      cases b with
      | true =>
        rw [if_pos (HBB.out.1 rfl)] at h
        simp only [Option.some.injEq, Prod.mk.injEq] at h
        obtain ⟨rfl, rfl, rfl⟩ := h
        go_wp2
        refine bodyPost_ret (results_tc rfl _ _ w.heap.size 27 #[.int .i64 17, .int .i64 (-2)] (0, 0) _ rfl (by refine blk_put (cs := #[.int .i64 17, .int .i64 0]) ?_ 1 _ rfl; refine blk_put (cs := #[.int .i64 0, .int .i64 0]) ?_ 0 _ rfl; exact HG1.out) Try.underlying27 rfl (by kernel_rfl)) rfl ?_
        exact ⟨_, rfl, Kd.R_nil _ _ _ _ _, below_set (below_set HB.out (Nat.le_refl _)) (Nat.le_refl _)⟩
      | false =>
        rw [if_neg (fun hc => by have := HBB.out.2 hc; simp at this)] at h
        simp only [Option.some.injEq, Prod.mk.injEq] at h
        obtain ⟨rfl, rfl, rfl⟩ := h
        go_wp2
        refine bodyPost_ret (results_tc rfl _ _ w.heap.size 27 #[.int .i64 0, .int .i64 0] (0, 0) _ rfl (by refine blk_put (cs := #[.int .i64 0, .int .i64 0]) ?_ 1 _ rfl; refine blk_put (cs := #[.int .i64 0, .int .i64 0]) ?_ 0 _ rfl; exact HG1.out) Try.underlying27 rfl (by kernel_rfl)) rfl ?_
        refine ⟨_, rfl, Kd.R_lower (base := (w.alloc (.cells #[.int .i64 0, .int .i64 0] 27)).heap.size) (Kd.R_mono (Kd.R_set (Kd.R_set HR1.out HG1.out (by simp [Kd.int, Kd.string, Kd.scalar]) 0 _) (blk_put HG1.out 0 _ rfl) (by simp [Kd.int, Kd.string, Kd.scalar]) 1 _) (fun _ _ => trivial)) (by simp), below_set (below_set HB.out (Nat.le_refl _)) (Nat.le_refl _)⟩
end Go.Proofs.Ytipjpdiianopcaa.Cr
