/- Words and contracts for the laws of encode. -/
import Derived.Test.YtipjpdiianopcaaqAx0
import Derived.Test.YtipjpdiianopcaaqCv
import Derived.Test.YtipjpdiianopcaaqCfl
import Derived.Test.YtipjpdiianopcaaqCen
import Derived.Test.YtipjpdiianopcaaqCcc
import Derived.Test.YtipjpdiianopcaaqBn4
import Derived.Test.YtipjpdiianopcaaqAx1
import Derived.Test.YtipjpdiianopcaaqAx15
import Derived.Test.YtipjpdiianopcaaqAx16
import Derived.Test.YtipjpdiianopcaaqAx18
import Derived.Test.YtipjpdiianopcaaqAx9
namespace Go.Proofs.Ytipjpdiianopcaa.E
open Go.RowKit Go.Proofs.YtipjpdiianopcaaW.dF Go.Proofs.YtipjpdiianopcaaW.fO Go.Proofs.YtipjpdiianopcaaW.jP Go.Proofs.Ytipjpdiianopcaa.A Go.Proofs.Ytipjpdiianopcaa.Cv Go.Proofs.Ytipjpdiianopcaa.Cfl Go.Proofs.Ytipjpdiianopcaa.Cen
attribute [local go_sem] mV mW oO oP lC lD mX mY
set_option linter.unusedVariables false
set_option linter.unusedSimpArgs false
attribute [local go_sem high] RP
attribute [local go_sem high] Eb Ec
def cZ.j0 : Nat → List (nJ) → List Int → Int → List Int → Int → Int → Int → Int → Option (Bool)
 | 0, _, _, _, _, _, _, _, _ => none
 | k + 1, x0, x5, SI, aNs, aGy, aNt, aGz, aNu => if aGz = 0 then (if aGy = 0 then (if 0 ≤ SI then (if SI < (x0.length : Int) then ((aV.f k ((aI x0 SI).f0) ((aI x0 SI).f1) ((aI x0 SI).f2) aNs).bind fun aHU => ((bF.f x5 aHU).bind fun aHV => (some aHV))) else (none)) else (none)) else (some false)) else (if (aGy == aGz && (aNt == aNu)) = true then (some ((x5.length : Int) == 0)) else (some false))
def cZ.f (k : Nat) (l0 : List (nJ)) (bY : Int) (dR : List Int) : Option (Bool) := (dL.f k).bind fun aHW => (if aHW = true then ((gX.f k l0 bY dR).bind fun Ad => ((bC.f k l0).bind fun FM => (if FM.1 = 0 then ((eU.f k l0 bY dR).bind fun Ih => (cZ.j0 k l0 Ad.1 bY dR Ad.2.1 Ad.2.2 Ih.1 Ih.2)) else (cZ.j0 k l0 Ad.1 bY dR Ad.2.1 Ad.2.2 FM.1 FM.2)))) else (some false))
def cZ.T9 : Bool × List (List Nat × List Nat) := (true, [([], []), ([0], [0]), ([1], [1]), ([2], [2]), ([3], [3]), ([3], [3]), ([3], [3]), ([6, 3], [3, 6]), ([5, 7, 3], [3, 5, 7]), ([8, 3], [3, 8]), ([3], [3]), ([10, 3], [3, 10]), ([9, 11, 3, 3], [3, 9, 11]), ([4, 12, 12, 3], [3, 4, 12]), ([3, 13], [3, 13]), ([14, 13, 0, 1, 2, 3, 4, 5, 6, 7, 8, 9, 10, 11, 12, 13, 14], [14])])
def cZ.B9 : List Nat := [0, 1, 3, 7, 15, 15, 15, 79, 239, 495, 15, 1039, 4079, 8191, 16383, 32767]
theorem cZ.aAB : Ap .any (opsOf Try.f13 9) = cZ.T9 := by kernel_rfl
theorem cZ.QY : uF cZ.T9.2 cZ.B9 = true := by kernel_rfl
set_option maxHeartbeats 8000000 in
set_option maxRecDepth 100000 in
theorem cZ.calls (k : Nat) (A0 : Option Addr) (c0 : Nat) (l0 : List (nJ)) (bY : Int) (iE : Option Addr) (gZ : Nat) (dR : List Int) (r : Bool) (w : World) (hr0 : Kd.C Nv w A0 l0.length l0) (hc0 : l0.length ≤ c0) (Dq : Kd.C (Kd.int .i64) w iE dR.length dR) (Dt : dR.length ≤ gZ) (hT : r = true) (h : cZ.f k l0 bY dR = some r) :
  Calls Try.prog 13 #[.slice A0 l0.length c0, .agg #[.int .i64 bY, .slice iE dR.length gZ]] w fun e w' => e = .returned (.bool r) ∧ Below w.heap.size w w' := by
 have Kz := Try.underlying65
 have NL := Try.underlying27
 have Jf := Try.underlying54
 have HT := aA.mk hT
 clear hT
 have HR0 := aA.mk hr0
 have Am := aA.mk hc0
 clear hr0 hc0
 have AZ := aA.mk Dq
 have Hg := aA.mk Dt
 clear Dq Dt
 have HB := aA.mk (Below.refl w.heap.size w)
 have H : ((dL.f k).bind fun aHW => (if aHW = true then ((gX.f k l0 bY dR).bind fun Ad => ((bC.f k l0).bind fun FM => (if FM.1 = 0 then ((eU.f k l0 bY dR).bind fun Ih => (cZ.j0 k l0 Ad.1 bY dR Ad.2.1 Ad.2.2 Ih.1 Ih.2)) else (cZ.j0 k l0 Ad.1 bY dR Ad.2.1 Ad.2.2 FM.1 FM.2)))) else (some false))) = some r := h
 clear h
 replace H := Option.bind_eq_some_iff.mp H
 obtain ⟨aHW, Wi, H⟩ := H
 replace H : (if aHW = true then ((gX.f k l0 bY dR).bind fun Ad => ((bC.f k l0).bind fun FM => (if FM.1 = 0 then ((eU.f k l0 bY dR).bind fun Ih => (cZ.j0 k l0 Ad.1 bY dR Ad.2.1 Ad.2.2 Ih.1 Ih.2)) else (cZ.j0 k l0 Ad.1 bY dR Ad.2.1 Ad.2.2 FM.1 FM.2)))) else (some false)) = some r := H
 have A3 := aA.mk Wi
 clear Wi
 by_cases c4 : aHW = true
 ·subst c4
  have H1 : ((gX.f k l0 bY dR).bind fun Ad => ((bC.f k l0).bind fun FM => (if FM.1 = 0 then ((eU.f k l0 bY dR).bind fun Ih => (cZ.j0 k l0 Ad.1 bY dR Ad.2.1 Ad.2.2 Ih.1 Ih.2)) else (cZ.j0 k l0 Ad.1 bY dR Ad.2.1 Ad.2.2 FM.1 FM.2)))) = some r := by rw [if_pos rfl] at H; exact H
  clear H
  have H := H1
  clear H1
  replace H := Option.bind_eq_some_iff.mp H
  obtain ⟨⟨Yw, En, Iq⟩, A50, H⟩ := H
  replace H : ((bC.f k l0).bind fun FM => (if FM.1 = 0 then ((eU.f k l0 bY dR).bind fun Ih => (cZ.j0 k l0 Yw bY dR En Iq Ih.1 Ih.2)) else (cZ.j0 k l0 Yw bY dR En Iq FM.1 FM.2))) = some r := H
  have A5 := aA.mk A50
  clear A50
  replace H := Option.bind_eq_some_iff.mp H
  obtain ⟨⟨PZ, aBe⟩, Zh, H⟩ := H
  replace H : (if PZ = 0 then ((eU.f k l0 bY dR).bind fun Ih => (cZ.j0 k l0 Yw bY dR En Iq Ih.1 Ih.2)) else (cZ.j0 k l0 Yw bY dR En Iq PZ aBe)) = some r := H
  have A6 := aA.mk Zh
  clear Zh
  have HC7 := aA.mk H
  clear H
  go_enter Try.func13, Try.ntmps13
  go_upto_if 20 with (first | ((with_reducible refine dH (N := 3) rfl ?_); (try (refine dZ (by rfl) ?_; dsimp only)); refine dB ?hg (N := 3) ?hd (cs := #[.int .i64 bY, .slice iE dR.length gZ]) (t := 65) ?hr ?_; (case hd => rfl); (case hg => rfl); (case hr => first | (go_simp; done) | (go_simp; rfl)); intro BH hg w8 hbox hb; have bT := aA.mk (aT (dG HB.out) hb); have bW := aA.mk (hbox); have dA := aA.mk ((by rw [hg]; exact (aN (dG HB.out)) : w.heap.size ≤ BH)); have dN := aA.mk ((by rw [hg]; exact (aN (dG HB.out)) : w.heap.size ≤ BH)); clear HB; have HB := bT; have rG := bW; have bJy := dA; have Ey := dN; clear bT bW dA dN; clear hb hbox hg) | ((with_reducible refine cO (f := 45) rfl ?_); refine gI (some 8) rfl rfl Try.func45 aQ rfl #[] rfl fP ?_; (with_reducible refine (dL.calls k  true _ rfl A3.out).mono ?_); rintro e w9 ⟨rfl, hb⟩; refine ⟨_, rfl, ?_⟩; have bT := aA.mk (aK (g := BH) (o := .cells #[.int .i64 bY, .slice iE dR.length gZ] 65 (0, 0)) (aH rG.out) hb); have bW := aA.mk (aT (bV HB.out Ey.out) hb); clear rG HB; have rG := bT; have HB := bW; clear bT bW; have aEU : w9.cell? ⟨BH, 0, none⟩ = some (.int .i64 bY) := (aC rG.out 0).trans rfl; have aEV : w9.cell? ⟨BH, 1, none⟩ = some (.slice iE dR.length gZ) := (aC rG.out 1).trans rfl; have aEW := aG rG.out 0; have aEX := aG rG.out 1) | ((with_reducible refine cO (f := 46) rfl ?_); refine gI (some 13) rfl rfl Try.func46 aQ rfl #[.slice A0 l0.length c0, .agg #[.int .i64 bY, .slice iE dR.length gZ]] rfl fP ?_; (with_reducible refine (gX.calls k _ _ l0 bY _ _ dR Yw En Iq _ ?fJ ?fK ?gK ?iI A5.out).mono ?_); (case fJ => repeat (first | exact (Kd.dP HR0.out HB.out) | (with_reducible refine Kd.fG ?_ _) | (with_reducible refine Kd.fC ?_ _) | (with_reducible refine Kd.gJ ?_))); (case fK => exact Am.out); (case gK => repeat (first | exact (Kd.dP AZ.out HB.out) | (with_reducible refine Kd.fG ?_ _) | (with_reducible refine Kd.fC ?_ _) | (with_reducible refine Kd.gJ ?_))); (case iI => exact Hg.out); rintro e RY ⟨bGO, rfl, ho0, hb⟩; refine ⟨_, rfl, ?_⟩; have bT := aA.mk (Kd.jV ho0 (aN (bV HB.out Ey.out))); have bW := aA.mk (aK (g := BH) (o := .cells #[.int .i64 bY, .slice iE dR.length gZ] 65 (0, 0)) (aH rG.out) hb); have dA := aA.mk (aT (bV HB.out Ey.out) hb); clear rG HB; have JV := bT; have rG := bW; have HB := dA; clear bT bW dA) | ((with_reducible refine dH (N := 6) rfl ?_); (try (refine dZ (by rfl) ?_; dsimp only)); refine dB ?hg (N := 6) ?hd (cs := #[.int .i64 0, .int .i64 0]) (t := 27) ?hr ?_; (case hd => rfl); (case hg => rfl); (case hr => first | (go_simp; done) | (go_simp; rfl)); intro DX hg w12 hbox hb; have bT := aA.mk (Kd.dI (bH JV.out) hb); have bW := aA.mk (aK (g := BH) (o := .cells #[.int .i64 bY, .slice iE dR.length gZ] 65 (0, 0)) (aH rG.out) hb); have dA := aA.mk (aT (bV HB.out Ey.out) hb); have dN := aA.mk (hbox); have eY := aA.mk ((by rw [hg]; exact (aN (bV HB.out Ey.out)) : w.heap.size ≤ DX)); have fV := aA.mk ((by rw [hg]; exact (aN (bV HB.out Ey.out)) : w.heap.size ≤ DX)); have jA := aA.mk ((by rw [hg]; exact Nat.ne_of_lt (bU (g := BH) (o := .cells #[.int .i64 bY, .slice iE dR.length gZ] 65 (0, 0)) (aH rG.out)) : BH ≠ DX)); have nC := aA.mk ((by rw [hg]; exact Nat.ne_of_gt (bU (g := BH) (o := .cells #[.int .i64 bY, .slice iE dR.length gZ] 65 (0, 0)) (aH rG.out)) : DX ≠ BH)); clear JV rG HB; have JV := bT; have rG := bW; have HB := dA; have wF := dN; have bJz := eY; have JW := fV; have Ld := jA; have Uy := nC; clear bT bW dA dN eY fV jA nC; clear hb hbox hg; have aWs := Uy.out; have aWt := Ld.out; have VY : w12.cell? ⟨DX, 0, none⟩ = some (.int .i64 0) := (aC wF.out 0).trans rfl; have VZ : w12.cell? ⟨DX, 1, none⟩ = some (.int .i64 0) := (aC wF.out 1).trans rfl; have We := aG wF.out 0; have Wh := aG wF.out 1) | ((with_reducible refine cO (f := 34) rfl ?_); refine gI (some 17) rfl rfl Try.func34 aQ rfl #[.slice A0 l0.length c0] rfl fP ?_; (with_reducible refine (bC.calls k _ _ l0 PZ aBe _ ?fJ ?fK A6.out).mono ?_); (case fJ => exact Kd.dP HR0.out (dK HB.out Ey.out JW.out)); (case fK => exact Am.out); rintro e w15 ⟨rfl, hb⟩; refine ⟨_, rfl, ?_⟩; have bT := aA.mk (Kd.dI (by refine bH ?_; exact (Kd.dX (Kd.dO (p := ⟨DX, 1, none⟩) (Kd.dO (p := ⟨DX, 0, none⟩) (Kd.dV JV.out wF.out (by decide)) (fun _ hk => hk.2) (.int .i64 En)) (fun _ hk => hk.2) (.int .i64 Iq)) (fun _ h_ => h_.1))) hb); have bW := aA.mk (aK (g := BH) (o := .cells #[.int .i64 bY, .slice iE dR.length gZ] 65 (0, 0)) (by refine aH ?_; refine aU ?_ Ld.out _; refine aH ?_; refine aU ?_ Ld.out _; refine aH ?_; exact rG.out) hb); have dA := aA.mk (aK (g := DX) (o := .cells #[.int .i64 En, .int .i64 Iq] 27 (0, 0)) (by refine aH ?_; refine aY (cs := #[.int .i64 En, .int .i64 0]) ?_ 1 _ rfl; refine aH ?_; refine aY (cs := #[.int .i64 0, .int .i64 0]) ?_ 0 _ rfl; refine aH ?_; exact wF.out) hb); have dN := aA.mk (aT (dK HB.out Ey.out JW.out) hb); clear JV rG wF HB; have JV := bT; have rG := bW; have wF := dA; have HB := dN; clear bT bW dA dN) | ((with_reducible refine dH (N := 7) rfl ?_); (try (refine dZ (by rfl) ?_; dsimp only)); refine dB ?hg (N := 7) ?hd (cs := #[.int .i64 0, .int .i64 0]) (t := 27) ?hr ?_; (case hd => rfl); (case hg => rfl); (case hr => first | (go_simp; done) | (go_simp; rfl)); intro CG hg w16 hbox hb; have bT := aA.mk (Kd.dI (bH JV.out) hb); have bW := aA.mk (aK (g := BH) (o := .cells #[.int .i64 bY, .slice iE dR.length gZ] 65 (0, 0)) (aH rG.out) hb); have dA := aA.mk (aK (g := DX) (o := .cells #[.int .i64 En, .int .i64 Iq] 27 (0, 0)) (aH wF.out) hb); have dN := aA.mk (aT (dK HB.out Ey.out JW.out) hb); have eY := aA.mk (hbox); have fV := aA.mk ((by rw [hg]; exact (aN (dK HB.out Ey.out JW.out)) : w.heap.size ≤ CG)); have jA := aA.mk ((by rw [hg]; exact (aN (dK HB.out Ey.out JW.out)) : w.heap.size ≤ CG)); have nC := aA.mk ((by rw [hg]; exact Nat.ne_of_lt (bU (g := BH) (o := .cells #[.int .i64 bY, .slice iE dR.length gZ] 65 (0, 0)) (aH rG.out)) : BH ≠ CG)); have rC := aA.mk ((by rw [hg]; exact Nat.ne_of_gt (bU (g := BH) (o := .cells #[.int .i64 bY, .slice iE dR.length gZ] 65 (0, 0)) (aH rG.out)) : CG ≠ BH)); have tC := aA.mk ((by rw [hg]; exact Nat.ne_of_lt (bU (g := DX) (o := .cells #[.int .i64 En, .int .i64 Iq] 27 (0, 0)) (aH wF.out)) : DX ≠ CG)); have mM := aA.mk ((by rw [hg]; exact Nat.ne_of_gt (bU (g := DX) (o := .cells #[.int .i64 En, .int .i64 Iq] 27 (0, 0)) (aH wF.out)) : CG ≠ DX)); clear JV rG wF HB; have JV := bT; have rG := bW; have wF := dA; have HB := dN; have yC := eY; have bJA := fV; have SK := jA; have Bv := nC; have Px := rC; have Bz := tC; have Py := mM; clear bT bW dA dN eY fV jA nC rC tC mM; clear hb hbox hg; have aBK := Px.out; have aBL := Bv.out; have bJB := Py.out; have bJC := Bz.out; have aMP : w16.cell? ⟨CG, 0, none⟩ = some (.int .i64 0) := (aC yC.out 0).trans rfl; have aMQ : w16.cell? ⟨CG, 1, none⟩ = some (.int .i64 0) := (aC yC.out 1).trans rfl; have aMR := aG yC.out 0; have aMS := aG yC.out 1))
  (try simp only [Act.put, JF, Gf, Jh])
  go_cut [] (fun wc => ∃ (kq : Nat) (rW : Int) (xG : Int), aA (cZ.j0 kq l0 Yw bY dR En Iq rW xG = some r) ∧ aA (kq ≤ k) ∧ aA (Kd.R (Kd.int .u8) 5 wc w.heap.size (fun _ => True) bGO Yw) ∧ aA (wc.heap[BH]? = some (.cells #[.int .i64 bY, (.slice iE dR.length gZ)] 65 (0, 0))) ∧ aA (wc.heap[DX]? = some (.cells #[.int .i64 En, .int .i64 Iq] 27 (0, 0))) ∧ aA (wc.heap[CG]? = some (.cells #[.int .i64 rW, .int .i64 xG] 27 (0, 0))) ∧ aA (Below w.heap.size w wc))
  case first =>
   have H := HC7.out; clear HC7
   by_cases c20 : PZ = 0
   ·rw [if_pos c20] at H; have QT : (PZ == 0) = true := beq_iff_eq.mpr c20; have aXR : (PZ != 0) = false := bne_eq_false_iff_eq.mpr c20; clear c20
    (first | rw [QT] | (simp only [nX, tY]; rw [QT]) | skip)
    replace H := Option.bind_eq_some_iff.mp H; obtain ⟨⟨aJ8, aNv⟩, aJY, H⟩ := H; replace H : (cZ.j0 k l0 Yw bY dR En Iq aJ8 aNv) = some r := H; have A21 := aA.mk aJY; clear aJY; have H' := aA.mk H; clear H; have aPe := Ld.out; have aPf := Uy.out; have aFi := Bv.out; have aFj := Px.out; have aAO : w16.cell? ⟨BH, 0, none⟩ = some (.int .i64 bY) := (aC rG.out 0).trans rfl; have aAP : w16.cell? ⟨BH, 1, none⟩ = some (.slice iE dR.length gZ) := (aC rG.out 1).trans rfl; have aAQ := aG rG.out 0; have aAR := aG rG.out 1
    go_wp2_with (first | ((with_reducible refine cO (f := 47) rfl ?_); refine gI (some 23) rfl rfl Try.func47 aQ rfl #[.slice A0 l0.length c0, .agg #[.int .i64 bY, .slice iE dR.length gZ]] rfl fP ?_; (with_reducible refine (eU.calls k _ _ l0 bY _ _ dR aJ8 aNv _ ?fJ ?fK ?gK ?iI A21.out).mono ?_); (case fJ => exact Kd.dP HR0.out (eG HB.out Ey.out JW.out SK.out)); (case fK => exact Am.out); (case gK => exact Kd.dP AZ.out (eG HB.out Ey.out JW.out SK.out)); (case iI => exact Hg.out); rintro e w25 ⟨rfl, hb⟩; refine ⟨_, rfl, ?_⟩; have bT := aA.mk (Kd.dI (by refine bH ?_; exact (Kd.dX (Kd.dO (p := ⟨CG, 1, none⟩) (Kd.dO (p := ⟨CG, 0, none⟩) (Kd.dV JV.out yC.out (by decide)) (fun _ hk => hk.2) (.int .i64 PZ)) (fun _ hk => hk.2) (.int .i64 aBe)) (fun _ h_ => h_.1))) hb); have bW := aA.mk (aK (g := BH) (o := .cells #[.int .i64 bY, .slice iE dR.length gZ] 65 (0, 0)) (by refine aH ?_; refine aU ?_ Bv.out _; refine aH ?_; refine aU ?_ Bv.out _; refine aH ?_; exact rG.out) hb); have dA := aA.mk (aK (g := DX) (o := .cells #[.int .i64 En, .int .i64 Iq] 27 (0, 0)) (by refine aH ?_; refine aU ?_ Bz.out _; refine aH ?_; refine aU ?_ Bz.out _; refine aH ?_; exact wF.out) hb); have dN := aA.mk (aK (g := CG) (o := .cells #[.int .i64 PZ, .int .i64 aBe] 27 (0, 0)) (by refine aH ?_; refine aY (cs := #[.int .i64 PZ, .int .i64 0]) ?_ 1 _ rfl; refine aH ?_; refine aY (cs := #[.int .i64 0, .int .i64 0]) ?_ 0 _ rfl; refine aH ?_; exact yC.out) hb); have eY := aA.mk (aT (eG HB.out Ey.out JW.out SK.out) hb); clear JV rG wF yC HB; have JV := bT; have rG := bW; have wF := dA; have yC := dN; have HB := eY; clear bT bW dA dN eY; have aJ9 := Py.out; have aJ_ := Bz.out; have Xl : w25.cell? ⟨CG, 0, none⟩ = some (.int .i64 PZ) := (aC yC.out 0).trans rfl; have Xm : w25.cell? ⟨CG, 1, none⟩ = some (.int .i64 aBe) := (aC yC.out 1).trans rfl; have Xn := aG yC.out 0; have Xo := aG yC.out 1))
    go_meet
    case rel => exact ⟨_, (aJ8), (aNv), H', ⟨by first | omega | exact Nat.le_refl _⟩, ⟨by refine bH ?_; exact Kd.dX (Kd.dO (p := ⟨CG, 1, none⟩) (Kd.dO (p := ⟨CG, 0, none⟩) (Kd.dV JV.out yC.out (by decide)) (fun _ hk => hk.2) (.int .i64 aJ8)) (fun _ hk => hk.2) (.int .i64 aNv)) (fun _ hk => trivial)⟩, ⟨by refine aH ?_; refine aU ?_ Bv.out _; refine aH ?_; refine aU ?_ Bv.out _; refine aH ?_; exact rG.out⟩, ⟨by refine aH ?_; refine aU ?_ Bz.out _; refine aH ?_; refine aU ?_ Bz.out _; refine aH ?_; exact wF.out⟩, ⟨by refine aH ?_; refine aY (cs := #[.int .i64 aJ8, .int .i64 aBe]) ?_ 1 _ rfl; refine aH ?_; refine aY (cs := #[.int .i64 PZ, .int .i64 aBe]) ?_ 0 _ rfl; refine aH ?_; exact yC.out⟩, ⟨eG HB.out Ey.out JW.out SK.out⟩⟩
   ·rw [if_neg c20] at H; have QT : (PZ == 0) = false := beq_eq_false_iff_ne.mpr c20; have aXR : (PZ != 0) = true := bne_iff_ne.mpr c20
    (first | rw [QT] | (simp only [nX, tY]; rw [QT]) | skip)
    have H' := aA.mk H; clear H
    go_wp2
    go_meet
    case rel => exact ⟨_, (PZ), (aBe), H', ⟨by first | omega | exact Nat.le_refl _⟩, ⟨by refine bH ?_; exact Kd.dX (Kd.dO (p := ⟨CG, 1, none⟩) (Kd.dO (p := ⟨CG, 0, none⟩) (Kd.dV JV.out yC.out (by decide)) (fun _ hk => hk.2) (.int .i64 PZ)) (fun _ hk => hk.2) (.int .i64 aBe)) (fun _ hk => trivial)⟩, ⟨by refine aH ?_; refine aU ?_ Bv.out _; refine aH ?_; refine aU ?_ Bv.out _; refine aH ?_; exact rG.out⟩, ⟨by refine aH ?_; refine aU ?_ Bz.out _; refine aH ?_; refine aU ?_ Bz.out _; refine aH ?_; exact wF.out⟩, ⟨by refine aH ?_; refine aY (cs := #[.int .i64 PZ, .int .i64 0]) ?_ 1 _ rfl; refine aH ?_; refine aY (cs := #[.int .i64 0, .int .i64 0]) ?_ 0 _ rfl; refine aH ?_; exact yC.out⟩, ⟨eG HB.out Ey.out JW.out SK.out⟩⟩
  case rest =>
   clear HC7; obtain ⟨kq, rW, xG, HA, HJ6, qJ, rG, wF, yC, HB⟩ := hcut
   cases kq with
   | zero => exact absurd HA.out (by simp [cZ.j0])
   | succ kj6 =>
    have H := HA.out; clear HA; simp only [cZ.j0] at H
    by_cases c28 : rW = 0
    ·rw [if_pos c28] at H; have aCk : (rW == 0) = true := beq_iff_eq.mpr c28; have aXS : (rW != 0) = false := bne_eq_false_iff_eq.mpr c28; clear c28
     by_cases c29 : En = 0
     ·rw [if_pos c29] at H; have aI0 : (En == 0) = true := beq_iff_eq.mpr c29; have aXT : (En != 0) = false := bne_eq_false_iff_eq.mpr c29; clear c29
      by_cases c30 : 0 ≤ bY
      ·rw [if_pos c30] at H; have bJD : decide (0 ≤ bY) = true := fB c30; clear c30
       by_cases c31 : bY < (l0.length : Int)
       ·rw [if_pos c31] at H; have aXU : decide (bY < (l0.length : Int)) = true := fB c31; clear c31; replace H := Option.bind_eq_some_iff.mp H; obtain ⟨aHU, aKa, H⟩ := H; replace H : ((bF.f Yw aHU).bind fun aHV => (some aHV)) = some r := H; have A32 := aA.mk aKa; clear aKa; replace H := Option.bind_eq_some_iff.mp H; obtain ⟨aHV, aCl, H⟩ := H; replace H : (some aHV) = some r := H; have A33 := aA.mk aCl; clear aCl; obtain rfl := Option.some.inj H; have Yi := Px.out; have Yj := Bv.out; have aCb := Py.out; have aCc := Bz.out; have Ro : wc.cell? ⟨CG, 0, none⟩ = some (.int .i64 rW) := (aC yC.out 0).trans rfl; have Rq : wc.cell? ⟨CG, 1, none⟩ = some (.int .i64 xG) := (aC yC.out 1).trans rfl; have Rt := aG yC.out 0; have Ru := aG yC.out 1
        try go_wp2
        have bT := aA.mk (Kd.qG qJ.out); have bW := aA.mk (dY rG.out); have dA := aA.mk (dY wF.out); have dN := aA.mk (dY yC.out); have eY := aA.mk (fZ HB.out); clear qJ; clear rG; clear wF; clear yC; clear HB; have qJ := bT; have rG := bW; have wF := dA; have yC := dN; have HB := eY; clear bT bW dA dN eY; have aST : 0 ≤ (bY : Int) := dU dW; have aSU : bY < (l0.length : Int) := dU dW; obtain ⟨aCN, aKb, aKc, bGP, SL, SN, SQ, aGA, aGB⟩ := rJ HR0.out bY aST aSU; have Pz := SQ; have PD := SN; have PE := SL
        cases bGP
        replace SL := (HB.out.cell (dM w _ SL)).trans SL; replace SN := (HB.out.cell (dM w _ SN)).trans SN; replace SQ := (HB.out.cell (dM w _ SQ)).trans SQ; have aGC := aA.mk aGB; have aNw := aA.mk aGA; clear aGB aGA; replace aST := eq_true aST; replace aSU := eq_true aSU
        refine qZ (n := 16) (S := fun w' => w'.cell? ⟨DX, 0, none⟩ = some (.int .i64 En) ∧ w'.cell? ⟨DX, 1, none⟩ = some (.int .i64 Iq) ∧ w'.cell? ⟨BH, 0, none⟩ = some (.int .i64 bY) ∧ w'.cell? ⟨BH, 1, none⟩ = some (.slice iE dR.length gZ) ∧ w'.cell? (aCN.add ((bY).toNat * 3)) = some (.string ((aI l0 bY).f0)) ∧ w'.cell? ⟨(aCN.add ((bY).toNat * 3)).block, (aCN.add ((bY).toNat * 3)).off + 1, none⟩ = some (.int .i64 ((aI l0 bY).f1)) ∧ w'.cell? ⟨(aCN.add ((bY).toNat * 3)).block, (aCN.add ((bY).toNat * 3)).off + 2, none⟩ = some (.slice aKb ((aI l0 bY).f2).length aKc)) (ds := []) #[false, false, false, false, false, false, false, false, false, false, false, false, false, false, false, false] aQ rfl rfl ⟨(aC wF.out 0).trans rfl, (aC wF.out 1).trans rfl, (aC rG.out 0).trans rfl, (aC rG.out 1).trans rfl, ((HB.out.cell (dM w _ PE)).trans PE), ((HB.out.cell (dM w _ PD)).trans PD), ((HB.out.cell (dM w _ Pz)).trans Pz)⟩ (fun hHeld => ?_); refine nK cZ.aAB cZ.QY (fun gG zQ => ?_); generalize wc.drew = w37 at qJ rG wF yC HB aGC SL SN SQ hHeld ⊢
        refine bQ (i := 0) (N := some 35) (v := ?_) (a' := ?_) #[true, false, false, false, false, false, false, false, false, false, false, false, false, false, false, false] rfl rfl (bP gG.out aQ) (fun _ _ _ h => h) (bG ?_) ?_ ?_; rotate_left
        ·intro w'; go_simp; with_reducible rfl
        rotate_left
        ·simp only [Act.put, aX]; rfl
        refine iQ (i := 1) (N := some 36) (v := ?_) (a' := ?_) #[true, true, false, false, false, false, false, false, false, false, false, false, false, false, false, false] rfl rfl (iH gG.out zQ.out aQ) (fun _ _ _ h => h) (bG ?_) hHeld ?_ ?_; rotate_left
        ·rintro w' ⟨s0, s1, s2, s3, s4, s5, s6⟩; go_simp; with_reducible rfl
        rotate_left
        ·simp only [Act.put, aX]; rfl
        refine bQ (i := 2) (N := some 37) (v := ?_) (a' := ?_) #[true, true, true, false, false, false, false, false, false, false, false, false, false, false, false, false] rfl rfl (bP gG.out aQ) (fun _ _ _ h => h) (bG ?_) ?_ ?_; rotate_left
        ·intro w'; go_simp; with_reducible rfl
        rotate_left
        ·simp only [Act.put, aX]; rfl
        refine bQ (i := 3) (N := some 38) (v := ?_) (a' := ?_) #[true, true, true, true, false, false, false, false, false, false, false, false, false, false, false, false] rfl rfl (bP gG.out aQ) (fun _ _ _ h => h) (bG ?_) ?_ ?_; rotate_left
        ·intro w'; go_simp; with_reducible rfl
        rotate_left
        ·simp only [Act.put, aX]; rfl
        refine bQ (i := 4) (N := some 39) (v := ?_) (a' := ?_) #[true, true, true, true, true, false, false, false, false, false, false, false, false, false, false, false] rfl rfl (bP gG.out aQ) (fun _ _ _ h => h) (bG ?_) ?_ ?_; rotate_left
        ·intro w'; go_simp; with_reducible rfl
        rotate_left
        ·simp only [Act.put, aX]; rfl
        refine bQ (i := 5) (N := some 40) (v := ?_) (a' := ?_) #[true, true, true, true, true, true, false, false, false, false, false, false, false, false, false, false] rfl rfl (bP gG.out aQ) (fun _ _ _ h => h) (bG ?_) ?_ ?_; rotate_left
        ·intro w'; go_simp; with_reducible rfl
        rotate_left
        ·simp only [Act.put, aX]; rfl
        refine bQ (i := 6) (N := some 41) (v := ?_) (a' := ?_) #[true, true, true, true, true, true, true, false, false, false, false, false, false, false, false, false] rfl rfl (bP gG.out aQ) (fun _ _ _ h => h) (bG ?_) ?_ ?_; rotate_left
        ·intro w'; go_simp; with_reducible rfl
        rotate_left
        ·simp only [Act.put, aX]; rfl
        refine bQ (i := 10) (N := some 45) (v := ?_) (a' := ?_) #[true, true, true, true, true, true, true, false, false, false, true, false, false, false, false, false] rfl rfl (bP gG.out aQ) (fun _ _ _ h => h) (bG ?_) ?_ ?_; rotate_left
        ·intro w'; go_simp; with_reducible rfl
        rotate_left
        ·simp only [Act.put, aX]; rfl
        refine iQ (i := 7) (N := some 42) (v := ?_) (a' := ?_) #[true, true, true, true, true, true, true, true, false, false, true, false, false, false, false, false] rfl rfl (iH gG.out zQ.out aQ) (fun _ _ _ h => h) (bG ?_) hHeld ?_ ?_; rotate_left
        ·rintro w' ⟨s0, s1, s2, s3, s4, s5, s6⟩; go_simp; with_reducible rfl
        rotate_left
        ·simp only [Act.put, aX]; rfl
        refine bQ (i := 8) (N := some 43) (v := ?_) (a' := ?_) #[true, true, true, true, true, true, true, true, true, false, true, false, false, false, false, false] rfl rfl (bP gG.out aQ) (fun _ _ _ h => h) (bG ?_) ?_ ?_; rotate_left
        ·intro w'; go_simp; with_reducible rfl
        rotate_left
        ·simp only [Act.put, aX]; rfl
        refine iQ (i := 9) (N := some 44) (v := ?_) (a' := ?_) #[true, true, true, true, true, true, true, true, true, true, true, false, false, false, false, false] rfl rfl (iH gG.out zQ.out aQ) (fun _ _ _ h => h) (bG ?_) hHeld ?_ ?_; rotate_left
        ·rintro w' ⟨s0, s1, s2, s3, s4, s5, s6⟩; go_simp; with_reducible rfl
        rotate_left
        ·simp only [Act.put, aX]; rfl
        refine iQ (i := 11) (N := some 46) (v := ?_) (a' := ?_) #[true, true, true, true, true, true, true, true, true, true, true, true, false, false, false, false] rfl rfl (iH gG.out zQ.out aQ) (fun _ _ _ h => h) (bG ?_) hHeld ?_ ?_; rotate_left
        ·rintro w' ⟨s0, s1, s2, s3, s4, s5, s6⟩; go_simp; with_reducible rfl
        rotate_left
        ·simp only [Act.put, aX]; rfl
        refine wL (i := 12) (N := some 47) #[true, true, true, true, true, true, true, true, true, true, true, true, true, false, false, false] rfl rfl (qH gG.out aQ) (by decide) (fun K hK => ?_); refine xR Try.func48 aQ rfl #[.agg #[.string ((aI l0 bY).f0), .int .i64 ((aI l0 bY).f1), .slice aKb ((aI l0 bY).f2).length aKc], .slice iE dR.length gZ] (by rfl) rfl rfl fP ?_
        with_reducible refine (aV.calls kj6 ((aI l0 bY).f0) ((aI l0 bY).f1) _ _ ((aI l0 bY).f2) _ _ dR aHU _ ?fJ ?fK ?gK ?iI A32.out).mono ?_
        (case fJ => repeat (first | exact (Kd.dP aGC.out HB.out) | (with_reducible refine Kd.fG ?_ _) | (with_reducible refine Kd.fC ?_ _) | (with_reducible refine Kd.gJ ?_)))
        (case fK => exact aNw.out)
        (case gK => repeat (first | exact (Kd.dP AZ.out HB.out) | (with_reducible refine Kd.fG ?_ _) | (with_reducible refine Kd.fC ?_ _) | (with_reducible refine Kd.gJ ?_)))
        (case iI => exact Hg.out)
        rintro e w38 ⟨bMa, rfl, ho0, hb⟩; refine ⟨_, rfl, ?_⟩; have bT := aA.mk (Kd.lH (bH qJ.out) (Kd.jY ho0) hb); have bW := aA.mk (Kd.jV (Kd.qQ ho0 (Kd.wK (bH qJ.out))) (aN (eG HB.out Ey.out JW.out SK.out))); have dA := aA.mk (aK (g := BH) (o := .cells #[.int .i64 bY, .slice iE dR.length gZ] 65 (0, 0)) (aH rG.out) hb); have dN := aA.mk (aK (g := DX) (o := .cells #[.int .i64 En, .int .i64 Iq] 27 (0, 0)) (aH wF.out) hb); have eY := aA.mk (aK (g := CG) (o := .cells #[.int .i64 rW, .int .i64 xG] 27 (0, 0)) (aH yC.out) hb); have fV := aA.mk (aT (eG HB.out Ey.out JW.out SK.out) hb); clear qJ; clear rG; clear wF; clear yC; clear HB; have qJ := bT; have aKd := bW; have rG := dA; have wF := dN; have yC := eY; have HB := fV; clear bT bW dA dN eY fV
        (try clear hb)
        (try clear hb2)
        (try clear hk)
        (try clear hi)
        (try clear ho0)
        obtain ⟨Zx, Zy, aNx⟩ := Kd.iK qJ.out
        (first | subst aNx | (injection aNx with Hl NQ Ho; have NR := Hl.symm; have NS := Ho.symm; clear Hl NQ Ho; subst NR; subst NS))
        obtain ⟨aSV, aSW, aNy⟩ := Kd.iK aKd.out
        (first | subst aNy | (injection aNy with Hl NQ Ho; have NR := Hl.symm; have NS := Ho.symm; clear Hl NQ Ho; subst NR; subst NS))
        refine hK.out _ _ ⟨(aC wF.out 0).trans rfl, (aC wF.out 1).trans rfl, (aC rG.out 0).trans rfl, (aC rG.out 1).trans rfl, ((HB.out.cell (dM w _ PE)).trans PE), ((HB.out.cell (dM w _ PD)).trans PD), ((HB.out.cell (dM w _ Pz)).trans Pz)⟩ (fun hHeld => ?_); clear hK K; refine sJ (a' := ?_) ?_ ?_; rotate_left
        ·show Act.put _ (some 47) _ = _; simp only [Act.put, aX]; rfl
        refine wL (i := 13) (N := some 48) #[true, true, true, true, true, true, true, true, true, true, true, true, true, true, false, false] rfl rfl (qH gG.out aQ) (by decide) (fun K hK => ?_); refine xR Try.func24 aQ rfl #[.slice Zx Yw.length Zy, .slice aSV aHU.length aSW] (by rfl) rfl rfl fP ?_
        with_reducible refine (bF.calls _ _ Yw _ _ aHU aHV _ ?fJ ?fK ?gK ?iI A33.out).mono ?_
        (case fJ => repeat (first | exact (Kd.fM qJ.out).2.2 | (with_reducible refine Kd.fG ?_ _) | (with_reducible refine Kd.fC ?_ _) | (with_reducible refine Kd.gJ ?_)))
        (case fK => exact (Kd.fM qJ.out).2.1)
        (case gK => repeat (first | exact (Kd.fM aKd.out).2.2 | (with_reducible refine Kd.fG ?_ _) | (with_reducible refine Kd.fC ?_ _) | (with_reducible refine Kd.gJ ?_)))
        (case iI => exact (Kd.fM aKd.out).2.1)
        rintro e w' ⟨rfl, ⟨nd, rfl⟩⟩; refine ⟨_, rfl, ?_⟩; refine hK.out _ _ ⟨(aC wF.out 0).trans rfl, (aC wF.out 1).trans rfl, (aC rG.out 0).trans rfl, (aC rG.out 1).trans rfl, ((HB.out.cell (dM w _ PE)).trans PE), ((HB.out.cell (dM w _ PD)).trans PD), ((HB.out.cell (dM w _ Pz)).trans Pz)⟩ (fun hHeld => ?_); clear hK K; refine sJ (a' := ?_) ?_ ?_; rotate_left
        ·show Act.put _ (some 48) _ = _; simp only [Act.put, aX]; rfl
        refine bQ (i := 14) (N := some 49) (v := ?_) (a' := ?_) #[true, true, true, true, true, true, true, true, true, true, true, true, true, true, true, false] rfl rfl (bP gG.out aQ) (fun _ _ _ h => h) (bG ?_) ?_ ?_; rotate_left
        ·intro w'; go_simp; with_reducible rfl
        rotate_left
        ·simp only [Act.put, aX]; rfl
        refine bQ (i := 15) (N := some 4) (v := ?_) (a' := ?_) #[true, true, true, true, true, true, true, true, true, true, true, true, true, true, true, true] rfl rfl (bP gG.out aQ) (fun _ _ _ h => h) (bG ?_) ?_ ?_; rotate_left
        ·intro w'; go_simp; with_reducible rfl
        rotate_left
        ·simp only [Act.put, aX]; rfl
        refine sG (sH gG.out aQ) ?_
        try go_wp2
        go_ret
        exact ⟨by first | rfl | (simp [bK, bM] <;> rfl) | (simp [*, bK, bM] <;> rfl), eG HB.out Ey.out JW.out SK.out⟩
       ·rw [if_neg c31] at H; exact absurd H (by simp)
      ·rw [if_neg c30] at H; exact absurd H (by simp)
     ·rw [if_neg c29] at H; have aI0 : (En == 0) = false := beq_eq_false_iff_ne.mpr c29; have aXT : (En != 0) = true := bne_iff_ne.mpr c29; exact absurd ((Option.some.inj H).trans HT.out) (by decide)
    ·rw [if_neg c28] at H; have aCk : (rW == 0) = false := beq_eq_false_iff_ne.mpr c28; have aXS : (rW != 0) = true := bne_iff_ne.mpr c28
     by_cases c41 : (En == rW && (Iq == xG)) = true
     ·rw [if_pos c41] at H; have aPz : (En == rW && (Iq == xG)) = true := c41
      (try (have aXV : decide (En = rW && (Iq == xG)) = true := by simpa using c41))
      (try (have aXW : (En == rW && (Iq == xG)) = true := by simpa using c41))
      clear c41; obtain rfl := Option.some.inj H; have aPr := Px.out; have aPs := Bv.out; have aOV := Py.out; have aOW := Bz.out; have aFy : wc.cell? ⟨CG, 0, none⟩ = some (.int .i64 rW) := (aC yC.out 0).trans rfl; have aFz : wc.cell? ⟨CG, 1, none⟩ = some (.int .i64 xG) := (aC yC.out 1).trans rfl; have aFA := aG yC.out 0; have aFB := aG yC.out 1; have aJi := Uy.out; have aJj := Ld.out; have aMc : wc.cell? ⟨DX, 0, none⟩ = some (.int .i64 En) := (aC wF.out 0).trans rfl; have aMd : wc.cell? ⟨DX, 1, none⟩ = some (.int .i64 Iq) := (aC wF.out 1).trans rfl; have aMe := aG wF.out 0; have aMf := aG wF.out 1; obtain ⟨bMb, bMc, bGQ⟩ := Kd.iK qJ.out; subst bGQ
      go_wp2
      go_ret
      exact ⟨by first | rfl | (simp [bK, bM] <;> rfl) | (simp [*, bK, bM] <;> rfl), eG HB.out Ey.out JW.out SK.out⟩
     ·rw [if_neg c41] at H; have aPz : (En == rW && (Iq == xG)) = false := by simpa using c41
      (try (have aXV : decide (En = rW && (Iq == xG)) = false := by simpa using c41))
      (try (have aXW : (En == rW && (Iq == xG)) = false := by simpa using c41))
      (try (have bJE : ¬ (En = rW && (Iq == xG)) := by simpa using c41))
      clear c41; exact absurd ((Option.some.inj H).trans HT.out) (by decide)
 ·replace c4 := Bool.eq_false_iff.mpr c4
  subst c4
  have H1 : (some false) = some r := by rw [if_neg (show ¬ (false = true) by decide)] at H; exact H
  clear H
  have H := H1
  clear H1
  exact absurd ((Option.some.inj H).trans HT.out) (by decide)
end Go.Proofs.Ytipjpdiianopcaa.E
