/- Contracts of library functions and of token.number, as the printed texts call them. -/
import Derived.Test.YtipjpdiianopcaaDoorHx
import Derived.Test.YtipjpdiianopcaaDoorShelf
import Derived.Test.YtipjpdiianopcaaDoorWM
import Derived.Lib.Walk
import Derived.Lib.AtoiErrMem
namespace Go.Proofs.YtipjpdiianopcaaDoor.Ct
open Go.Shelf Go.RowKit Go.Proofs.YtipjpdiianopcaaW.PrintWords Go.Proofs.YtipjpdiianopcaaDoor.Hx
set_option linter.unusedVariables false
/-- What is read of the library's variables. -/
def GS (w : World) : Prop := (∃ tp p, w.var? Tryd.prog "strconv.ErrSyntax" = some #[.iface tp p]) ∧ (∃ tp p, w.var? Tryd.prog "strconv.ErrRange" = some #[.iface tp p]) ∧ Lib.TabIs Tryd.prog w "internal/strconv.uint64pow10" .u64 Lib.pow10Tab
theorem var_keep {P : Program} {w W : World} {n : String} {cs : Array Value} (h : Below w.heap.size w W) (hv : w.var? P n = some cs) : W.var? P n = some cs := by
  unfold World.var? at hv ⊢
  cases hg : P.globalNamed n with
  | none => rw [hg] at hv; cases hv
  | some g =>
    rw [hg] at hv
    simp only [Option.bind_some] at hv ⊢
    cases ho : w.heap[g]? with
    | none => rw [ho] at hv; cases hv
    | some o =>
      have hlt : g < w.heap.size := by
        rw [Array.getElem?_eq_some_iff] at ho
        exact ho.1
      rw [h.block g hlt]
      exact hv
theorem GS.below {w W : World} (h : GS w) (hb : Below w.heap.size w W) : GS W := by
  obtain ⟨⟨a, b, h1⟩, ⟨c, d, h2⟩, h3⟩ := h
  exact ⟨⟨a, b, var_keep hb h1⟩, ⟨c, d, var_keep hb h2⟩, var_keep hb h3⟩
theorem syntax_cell {w : World} (h : GS w) : ∃ tp p, w.cell? ⟨1, 0, none⟩ = some (.iface tp p) := by
  obtain ⟨⟨a, b, h1⟩, _, _⟩ := h
  exact ⟨a, b, World.var?_cell (show Tryd.prog.globalNamed "strconv.ErrSyntax" = some 1 by kernel_rfl) h1 0⟩
theorem range_cell {w : World} (h : GS w) : ∃ tp p, w.cell? ⟨2, 0, none⟩ = some (.iface tp p) := by
  obtain ⟨_, ⟨a, b, h1⟩, _⟩ := h
  exact ⟨a, b, World.var?_cell (show Tryd.prog.globalNamed "strconv.ErrRange" = some 2 by kernel_rfl) h1 0⟩
/-- What a call of ParseUint answers with. -/
def PuPost (r : Lib.NumEnd Nat) (w : World) (e : Ending) (w' : World) : Prop :=
  match r with
  | .ok u => e = .returned (.tuple #[.int .u64 (u : Int), .nilIface]) ∧ Below w.heap.size w w'
  | Go.Lib.NumEnd.syntax => ∃ N, e = .returned (.tuple #[.int .u64 0, .iface 132 (.pointer (some ⟨N, 0, none⟩))]) ∧ Below w.heap.size w w'
  | .range => ∃ N, e = .returned (.tuple #[.int .u64 4294967295, .iface 132 (.pointer (some ⟨N, 0, none⟩))]) ∧ Below w.heap.size w w'
theorem drewN_zero (w : World) : w.drewN 0 = w := by cases w; rfl
theorem below_grow_ (w : World) (q : Nat) (os : Array Obj) : Below w.heap.size w (Sort.grow (w.drewN q) os) :=
  ⟨rfl, rfl, rfl, by first | (simp [Sort.grow]; done) | (simp [Sort.grow]; omega), fun i hi => by
    show ((w.drewN q).heap ++ os)[i]? = _
    rw [Array.getElem?_append_left (by show i < w.heap.size; omega)]
    rfl⟩
theorem below_of {w w' : World} {s : ByteArray} (h : w' = w ∨ w' = Lib.bytesWorld w 5 s) : Below w.heap.size w w' := by
  rcases h with rfl | rfl
  · exact Below.refl _ _
  · exact Lib.bytesWorld_below _ _ _
theorem pu16 (s : ByteArray) (hl : s.size ≤ 281474976710656) (w : World) (hG : GS w) : Calls Tryd.prog 58 #[.string s, .int .i64 16, .int .i64 32] w (PuPost (hexB s.data.toList) w) := by
  obtain ⟨a, b, h1⟩ := syntax_cell hG
  obtain ⟨c, d, h2⟩ := range_cell hG
  cases h : hexB s.data.toList with
  | ok u => exact (outer16_ok Tryd.laysPu14 s (by omega) u h w).mono fun e w' ⟨he, hw⟩ => ⟨he, below_of hw⟩
  | range => exact (outer16_range Tryd.laysPu14 s hl h _ w h2 (Or.inr ⟨_, _, rfl⟩)).mono fun e w' ⟨N, he, hw⟩ => ⟨N, he, hw⟩
  | _ => exact (outer16_syntax Tryd.laysPu14 s hl h _ w h1 (Or.inr ⟨_, _, rfl⟩)).mono fun e w' ⟨N, he, hw⟩ => ⟨N, he, hw⟩
theorem pu10 (s : ByteArray) (hl : s.size ≤ 281474976710656) (w : World) (hG : GS w) : Calls Tryd.prog 58 #[.string s, .int .i64 10, .int .i64 32] w (PuPost (Lib.parseUintB 32 s.data.toList) w) := by
  obtain ⟨a, b, h1⟩ := syntax_cell hG
  obtain ⟨c, d, h2⟩ := range_cell hG
  cases h : Lib.parseUintB 32 s.data.toList with
  | ok u => exact (Tryd.strconv_ParseUint_10_at32_ok s (by omega) u h w).mono fun e w' ⟨he, hw⟩ => ⟨he, below_of hw⟩
  | range => exact (Tryd.strconv_ParseUint_10_at32_range s hl h _ w h2 (Or.inr ⟨_, _, rfl⟩)).mono fun e w' ⟨N, he, _, _, hw⟩ => ⟨N, he, hw⟩
  | _ => exact (Tryd.strconv_ParseUint_10_at32_syntax s hl h _ w h1 (Or.inr ⟨_, _, rfl⟩)).mono fun e w' ⟨N, he, _, _, hw⟩ => ⟨N, he, hw⟩
theorem hexM_le : ∀ (l : List UInt8) (acc u : Nat), acc ≤ 4294967295 → hexM acc l = .ok u → u ≤ 4294967295
  | [], acc, u, ha, h => by rw [hexM] at h; injection h with h; omega
  | c :: r, acc, u, ha, h => by
    rw [hexM] at h
    cases hv : hexV c.toNat with
    | none => rw [hv] at h; cases h
    | some d =>
      rw [hv] at h
      by_cases ho : 4294967295 < acc * 16 + d
      · simp only [ho, if_true] at h; cases h
      · simp only [ho, if_false] at h
        exact hexM_le r _ u (by omega) h
theorem hexB_le {l : List UInt8} {u : Nat} (h : hexB l = .ok u) : u ≤ 4294967295 := by
  unfold hexB at h
  split at h
  · cases h
  · exact hexM_le l 0 u (by omega) h
theorem decM_le : ∀ (l : List UInt8) (acc u : Nat), acc ≤ 4294967295 → Lib.parseUintM 4294967295 acc l = .ok u → u ≤ 4294967295
  | [], acc, u, ha, h => by rw [Lib.parseUintM] at h; injection h with h; omega
  | c :: r, acc, u, ha, h => by
    rw [Lib.parseUintM] at h
    split at h
    · split at h
      · cases h
      · split at h
        · cases h
        · exact decM_le r _ u (by omega) h
    · cases h
theorem decB_le {l : List UInt8} {u : Nat} (h : Lib.parseUintB 32 l = .ok u) : u ≤ 4294967295 := by
  unfold Lib.parseUintB at h
  split at h
  · cases h
  · exact decM_le l 0 u (by omega) h
theorem prefix_size {s : ByteArray} (h : Lib.hasPrefix s.data.toList [48, 120] = true) : 2 ≤ s.size := by
  unfold Lib.hasPrefix at h
  have h2 := (List.isPrefixOf_iff_prefix.1 h).length_le
  rw [Lib.size_eq]
  simpa using h2
set_option maxHeartbeats 4000000 in
set_option maxRecDepth 100000 in
theorem number_hex_ok (s : ByteArray) (hl : s.size ≤ 281474976710656) (hp : Lib.hasPrefix s.data.toList [48, 120] = true) (u : Nat) (hu : hexB (s.extract 2 s.size).data.toList = .ok u) (w : World) (hG : GS w) :
    Calls Tryd.prog 33 #[.string s] w fun e w' => e = .returned (.tuple #[.int .i64 (u : Int), .bool true]) ∧ Below w.heap.size w w' := by
  have h2 := prefix_size hp
  have hI := pu16 (s.extract 2 s.size) (by rw [ByteArray.size_extract]; omega) w hG
  rw [hu] at hI
  have hI : Calls Tryd.prog 58 #[.string (s.extract 2 s.size), .int .i64 16, .int .i64 32] w fun e w' => e = .returned (.tuple #[.int .u64 (u : Int), .nilIface]) ∧ Below w.heap.size w w' := hI
  obtain ⟨v, hv⟩ : ∃ v : Int, v = (u : Int) := ⟨_, rfl⟩
  have v0 : 0 ≤ v := by omega
  have v1 : v ≤ 4294967295 := by have := hexB_le hu; omega
  rw [← hv] at hI ⊢
  clear hv hu hG
  go_enter Tryd.func33, Tryd.ntmps33
  go_wp2_with (first | (go_at_call 57; refine (Tryd.strings_HasPrefix _ _ _).mono ?_; rintro e w' ⟨rfl, hw⟩; subst hw) | (go_at_call 58; refine hI.mono ?_; rintro e W1 ⟨rfl, hb⟩))
  go_quiet (fail)
  go_wp2
  go_ret2
  exact ⟨rfl, pw_below_drewN hb _⟩
set_option maxHeartbeats 4000000 in
set_option maxRecDepth 100000 in
theorem number_hex_syntax (s : ByteArray) (hl : s.size ≤ 281474976710656) (hp : Lib.hasPrefix s.data.toList [48, 120] = true) (hu : hexB (s.extract 2 s.size).data.toList = Go.Lib.NumEnd.syntax) (w : World) (hG : GS w) :
    Calls Tryd.prog 33 #[.string s] w fun e w' => e = .returned (.tuple #[.int .i64 0, .bool false]) ∧ Below w.heap.size w w' := by
  have h2 := prefix_size hp
  have hI := pu16 (s.extract 2 s.size) (by rw [ByteArray.size_extract]; omega) w hG
  rw [hu] at hI
  have hI : Calls Tryd.prog 58 #[.string (s.extract 2 s.size), .int .i64 16, .int .i64 32] w fun e w' => ∃ N, e = .returned (.tuple #[.int .u64 0, .iface 132 (.pointer (some ⟨N, 0, none⟩))]) ∧ Below w.heap.size w w' := hI
  clear hu hG
  go_enter Tryd.func33, Tryd.ntmps33
  go_wp2_with (first | (go_at_call 57; refine (Tryd.strings_HasPrefix _ _ _).mono ?_; rintro e w' ⟨rfl, hw⟩; subst hw) | (go_at_call 58; refine hI.mono ?_; rintro e W1 ⟨N, rfl, hb⟩))
  go_quiet (fail)
  go_wp2
  go_ret2
  exact ⟨rfl, pw_below_drewN hb _⟩
set_option maxHeartbeats 4000000 in
set_option maxRecDepth 100000 in
theorem number_hex_range (s : ByteArray) (hl : s.size ≤ 281474976710656) (hp : Lib.hasPrefix s.data.toList [48, 120] = true) (hu : hexB (s.extract 2 s.size).data.toList = .range) (w : World) (hG : GS w) :
    Calls Tryd.prog 33 #[.string s] w fun e w' => e = .returned (.tuple #[.int .i64 4294967295, .bool false]) ∧ Below w.heap.size w w' := by
  have h2 := prefix_size hp
  have hI := pu16 (s.extract 2 s.size) (by rw [ByteArray.size_extract]; omega) w hG
  rw [hu] at hI
  have hI : Calls Tryd.prog 58 #[.string (s.extract 2 s.size), .int .i64 16, .int .i64 32] w fun e w' => ∃ N, e = .returned (.tuple #[.int .u64 4294967295, .iface 132 (.pointer (some ⟨N, 0, none⟩))]) ∧ Below w.heap.size w w' := hI
  clear hu hG
  go_enter Tryd.func33, Tryd.ntmps33
  go_wp2_with (first | (go_at_call 57; refine (Tryd.strings_HasPrefix _ _ _).mono ?_; rintro e w' ⟨rfl, hw⟩; subst hw) | (go_at_call 58; refine hI.mono ?_; rintro e W1 ⟨N, rfl, hb⟩))
  go_quiet (fail)
  go_wp2
  go_ret2
  exact ⟨rfl, pw_below_drewN hb _⟩
set_option maxHeartbeats 4000000 in
set_option maxRecDepth 100000 in
theorem number_dec_syntax (s : ByteArray) (hl : s.size ≤ 281474976710656) (hp : Lib.hasPrefix s.data.toList [48, 120] = false) (hu : Lib.parseUintB 32 s.data.toList = Go.Lib.NumEnd.syntax) (w : World) (hG : GS w) :
    Calls Tryd.prog 33 #[.string s] w fun e w' => e = .returned (.tuple #[.int .i64 0, .bool false]) ∧ Below w.heap.size w w' := by
  skip
  have hI := pu10 s hl w hG
  rw [hu] at hI
  have hI : Calls Tryd.prog 58 #[.string s, .int .i64 10, .int .i64 32] w fun e w' => ∃ N, e = .returned (.tuple #[.int .u64 0, .iface 132 (.pointer (some ⟨N, 0, none⟩))]) ∧ Below w.heap.size w w' := hI
  clear hu hG
  go_enter Tryd.func33, Tryd.ntmps33
  go_wp2_with (first | (go_at_call 57; refine (Tryd.strings_HasPrefix _ _ _).mono ?_; rintro e w' ⟨rfl, hw⟩; subst hw) | (go_at_call 58; refine hI.mono ?_; rintro e W1 ⟨N, rfl, hb⟩))
  go_quiet (fail)
  go_wp2
  go_ret2
  exact ⟨rfl, pw_below_drewN hb _⟩
set_option maxHeartbeats 4000000 in
set_option maxRecDepth 100000 in
theorem number_dec_range (s : ByteArray) (hl : s.size ≤ 281474976710656) (hp : Lib.hasPrefix s.data.toList [48, 120] = false) (hu : Lib.parseUintB 32 s.data.toList = .range) (w : World) (hG : GS w) :
    Calls Tryd.prog 33 #[.string s] w fun e w' => e = .returned (.tuple #[.int .i64 4294967295, .bool false]) ∧ Below w.heap.size w w' := by
  skip
  have hI := pu10 s hl w hG
  rw [hu] at hI
  have hI : Calls Tryd.prog 58 #[.string s, .int .i64 10, .int .i64 32] w fun e w' => ∃ N, e = .returned (.tuple #[.int .u64 4294967295, .iface 132 (.pointer (some ⟨N, 0, none⟩))]) ∧ Below w.heap.size w w' := hI
  clear hu hG
  go_enter Tryd.func33, Tryd.ntmps33
  go_wp2_with (first | (go_at_call 57; refine (Tryd.strings_HasPrefix _ _ _).mono ?_; rintro e w' ⟨rfl, hw⟩; subst hw) | (go_at_call 58; refine hI.mono ?_; rintro e W1 ⟨N, rfl, hb⟩))
  go_quiet (fail)
  go_wp2
  go_ret2
  exact ⟨rfl, pw_below_drewN hb _⟩
/-- The test behind a decimal numeral. -/
def noLead (s : ByteArray) : Bool := s.size == 1 || !((bt s 0 : Int) == 48)
theorem dec_ne {s : ByteArray} {u : Nat} (h : Lib.parseUintB 32 s.data.toList = .ok u) : 0 < s.size := by
  unfold Lib.parseUintB at h
  split at h
  · cases h
  · rename_i hn
    rw [Lib.size_eq]
    exact List.length_pos_iff.2 hn
set_option maxHeartbeats 4000000 in
set_option maxRecDepth 100000 in
theorem number_dec_ok (s : ByteArray) (hl : s.size ≤ 281474976710656) (hp : Lib.hasPrefix s.data.toList [48, 120] = false) (u : Nat) (hu : Lib.parseUintB 32 s.data.toList = .ok u) (w : World) (hG : GS w) :
    Calls Tryd.prog 33 #[.string s] w fun e w' => e = .returned (.tuple #[.int .i64 (u : Int), .bool (noLead s)]) ∧ Below w.heap.size w w' := by
  have hn := dec_ne hu
  have hI := pu10 s hl w hG
  rw [hu] at hI
  have hI : Calls Tryd.prog 58 #[.string s, .int .i64 10, .int .i64 32] w fun e w' => e = .returned (.tuple #[.int .u64 (u : Int), .nilIface]) ∧ Below w.heap.size w w' := hI
  obtain ⟨v, hv⟩ : ∃ v : Int, v = (u : Int) := ⟨_, rfl⟩
  have v0 : 0 ≤ v := by omega
  have v1 : v ≤ 4294967295 := by have := decB_le hu; omega
  rw [← hv] at hI ⊢
  clear hv hu hG
  go_enter Tryd.func33, Tryd.ntmps33
  go_wp2_with (first | (go_at_call 57; refine (Tryd.strings_HasPrefix _ _ _).mono ?_; rintro e w' ⟨rfl, hw⟩; subst hw) | (go_at_call 58; refine hI.mono ?_; rintro e W1 ⟨rfl, hb⟩))
  by_cases h1 : s.size = 1
  · have hb1 : ((s.size : Int) == 1) = true := by rw [h1]; rfl
    have hd1 : decide (s.size = 1) = true := decide_eq_true h1
    have hR : noLead s = true := by unfold noLead; rw [h1]; rfl
    have HR := Lib.hid hR
    clear h1 hR
    go_quiet (fail)
    go_wp2
    go_ret2
    exact ⟨by rw [HR.out]; rfl, pw_below_drewN hb _⟩
  · have hb1 : ((s.size : Int) == 1) = false := by rw [beq_eq_false_iff_ne]; omega
    have hd1 : decide (s.size = 1) = false := decide_eq_false h1
    obtain ⟨c, hc⟩ : ∃ c : Int, bt s 0 = c := ⟨_, rfl⟩
    have hR : noLead s = !(c == 48) := by
      unfold noLead
      rw [hc, beq_eq_false_iff_ne.2 h1, Bool.false_or]
    have hx : ∀ h : (0 : Nat) < s.size, ((s[0]'h).toNat : Int) = c := fun h => (bt_at s 0 h).trans hc
    have hx1 := hx hn
    have HR := Lib.hid hR
    clear h1 hR hc
    by_cases h48 : c = 48
    · have e1 : (c == 48) = true := by rw [h48]; rfl
      have e2 : (c != 48) = false := by rw [h48]; rfl
      subst h48
      clear e1 e2
      go_quiet (fail)
      go_wp2
      go_ret2
      exact ⟨by rw [HR.out]; rfl, pw_below_drewN hb _⟩
    · have e1 : (c == 48) = false := beq_eq_false_iff_ne.2 h48
      have e2 : (c != 48) = true := bne_iff_ne.2 h48
      have E1 := Lib.hid e1
      clear h48 e1
      go_quiet (fail)
      go_wp2
      go_ret2
      exact ⟨by rw [HR.out, E1.out]; rfl, pw_below_drewN hb _⟩
/-- What number answers. -/
def numOf (s : ByteArray) : Int × Bool :=
  if Lib.hasPrefix s.data.toList [48, 120] = true then
    (match hexB (s.extract 2 s.size).data.toList with | .ok u => ((u : Int), true) | Go.Lib.NumEnd.syntax => (0, false) | .range => (4294967295, false))
  else (match Lib.parseUintB 32 s.data.toList with | .ok u => ((u : Int), noLead s) | Go.Lib.NumEnd.syntax => (0, false) | .range => (4294967295, false))
end Go.Proofs.YtipjpdiianopcaaDoor.Ct
namespace Go.Proofs.YtipjpdiianopcaaDoor.A
open Go.Shelf Go.RowKit Go.Proofs.YtipjpdiianopcaaW.PrintWords Go.Proofs.YtipjpdiianopcaaDoor.Hx Go.Proofs.YtipjpdiianopcaaDoor.Ct
set_option linter.unusedVariables false
def token_number.f (l0 : ByteArray) : Option (Int × Bool) := if l0.size ≤ 281474976710656 then some (numOf l0) else none
theorem token_number.calls0 (l0 : ByteArray) (r1 : Int) (r2 : Bool) (w : World) (h : token_number.f l0 = some (r1, r2)) (hG : GS w) :
    Calls Tryd.prog 33 #[.string l0] w fun e w' => e = .returned (.tuple #[.int .i64 r1, .bool r2]) ∧ Below w.heap.size w w' := by
  unfold token_number.f at h
  by_cases hl : l0.size ≤ 281474976710656
  · rw [if_pos hl] at h
    have h := Option.some.inj h
    unfold numOf at h
    by_cases hp : Lib.hasPrefix l0.data.toList [48, 120] = true
    · rw [if_pos hp] at h
      cases hu : hexB (l0.extract 2 l0.size).data.toList with
      | ok u => rw [hu] at h; cases h; exact number_hex_ok l0 hl hp u hu w hG
      | range => rw [hu] at h; cases h; exact number_hex_range l0 hl hp hu w hG
      | _ => rw [hu] at h; cases h; exact number_hex_syntax l0 hl hp hu w hG
    · rw [if_neg hp] at h
      have hp := Bool.eq_false_iff.2 hp
      cases hu : Lib.parseUintB 32 l0.data.toList with
      | ok u => rw [hu] at h; cases h; exact number_dec_ok l0 hl hp u hu w hG
      | range => rw [hu] at h; cases h; exact number_dec_range l0 hl hp hu w hG
      | _ => rw [hu] at h; cases h; exact number_dec_syntax l0 hl hp hu w hG
  · rw [if_neg hl] at h; cases h
def strings_IndexByte.f (l0 : ByteArray) (a1 : Int) : Option Int := some (Lib.indexByte l0.data.toList a1.toNat.toUInt8)
theorem strings_IndexByte.calls (l0 : ByteArray) (a1 : Int) (r : Int) (w : World) (h : strings_IndexByte.f l0 a1 = some r) :
    Calls Tryd.prog 55 #[.string l0, .int .u8 a1] w fun e w' => e = .returned (.int .i64 r) ∧ ∃ nd, w' = w.drewN nd := by
  obtain rfl := Option.some.inj h
  exact (Tryd.strings_IndexByte l0 a1 w).mono fun e w' ⟨he, hw⟩ => ⟨he, 0, hw.trans (drewN_zero w).symm⟩
def strconv_Itoa.f (a0 : Int) : Option ByteArray := if -9223372036854775808 ≤ a0 ∧ a0 ≤ 9223372036854775807 then some ⟨(Lib.itoa a0).toArray⟩ else none
theorem strconv_Itoa.calls0 (a0 : Int) (r : ByteArray) (w : World) (h : strconv_Itoa.f a0 = some r) (hG : GS w) :
    Calls Tryd.prog 72 #[.int .i64 a0] w fun e w' => e = .returned (.string r) ∧ Below w.heap.size w w' := by
  unfold strconv_Itoa.f at h
  by_cases hc : -9223372036854775808 ≤ a0 ∧ a0 ≤ 9223372036854775807
  · rw [if_pos hc] at h
    obtain rfl := Option.some.inj h
    exact (Tryd.strconv_Itoa a0 hc.1 hc.2 w hG.2.2).mono fun e w' ⟨he, k, os, hw⟩ => ⟨he, by rw [hw]; exact below_grow_ w k os⟩
  · rw [if_neg hc] at h; cases h
def strings_Join.f (l0 : List ByteArray) (l1 : ByteArray) : Option ByteArray := if l0.length ≤ 1000000 ∧ (Lib.join (l0.map (·.data.toList)) l1.data.toList).length ≤ 140737488355328 then some ⟨(Lib.join (l0.map (·.data.toList)) l1.data.toList).toArray⟩ else none
theorem strings_Join.calls (A0 : Option Addr) (c0 : Nat) (l0 : List ByteArray) (l1 : ByteArray) (r : ByteArray) (w : World) (hr0 : Kd.C Kd.string w A0 l0.length l0) (hc0 : l0.length ≤ c0) (h : strings_Join.f l0 l1 = some r) :
    Calls Tryd.prog 54 #[.slice A0 l0.length c0, .string l1] w fun e w' => e = .returned (.string r) ∧ Below w.heap.size w w' := by
  unfold strings_Join.f at h
  by_cases hc : l0.length ≤ 1000000 ∧ (Lib.join (l0.map (·.data.toList)) l1.data.toList).length ≤ 140737488355328
  · rw [if_pos hc] at h
    obtain rfl := Option.some.inj h
    by_cases hn : l0 = []
    · subst hn
      exact (Tryd.strings_Join_none A0 c0 l1 w).mono fun e w' ⟨he, hw⟩ => ⟨he, by rw [hw]; exact Below.refl _ _⟩
    · have hpos : 0 < l0.length := List.length_pos_iff.2 hn
      obtain ⟨ad, hA, h0⟩ := Kd.at_string hr0 0 (by omega) (by omega)
      have h0 : w.cell? ad = some (.string (rdOf ByteArray.empty l0 0)) := h0
      obtain ⟨bk, o, sp⟩ := ad
      have hsp : sp = none := by
        cases sp with
        | none => rfl
        | some k =>
          exfalso
          unfold World.cell? at h0
          split at h0
          · simp at h0
          · cases h0
      subst hsp
      subst hA
      refine (Tryd.strings_Join bk o c0 l0 l1 w ?_ (World.block_lt_of_cell? w _ h0) (by omega) hc0 hc.2).mono fun e w' ⟨he, hw⟩ => ⟨he, hw⟩
      intro j x hj
      obtain ⟨hjl, hx⟩ := List.getElem?_eq_some_iff.1 hj
      obtain ⟨ad2, hA2, h2⟩ := Kd.at_string hr0 (j : Int) (by omega) (by omega)
      obtain rfl := Option.some.inj hA2
      rw [Int.toNat_natCast, add_at] at h2
      rw [h2]
      unfold rdOf
      rw [Int.toNat_natCast, List.getD_eq_getElem?_getD, hj]
      rfl
  · rw [if_neg hc] at h; cases h
theorem token_number.calls (l0 : ByteArray) (r1 : Int) (r2 : Bool) (w : World) (h : token_number.f l0 = some (r1, r2)) (hG : GS w := by exact GS.below HGS.out (by repeat (first | (with_reducible first | exact HB.out | apply below_alloc | apply pw_below_drewN | apply below_drew1 | refine below_set ?_ (Aside0.out (by assumption))) | exact HB.out))) :
    Calls Tryd.prog 33 #[.string l0] w fun e w' => e = .returned (.tuple #[.int .i64 r1, .bool r2]) ∧ Below w.heap.size w w' := token_number.calls0 l0 r1 r2 w h hG
theorem strconv_Itoa.calls (a0 : Int) (r : ByteArray) (w : World) (h : strconv_Itoa.f a0 = some r) (hG : GS w := by exact GS.below HGS.out (by repeat (first | (with_reducible first | exact HB.out | apply below_alloc | apply pw_below_drewN | apply below_drew1 | refine below_set ?_ (Aside0.out (by assumption))) | exact HB.out))) :
    Calls Tryd.prog 72 #[.int .i64 a0] w fun e w' => e = .returned (.string r) ∧ Below w.heap.size w w' := strconv_Itoa.calls0 a0 r w h hG
end Go.Proofs.YtipjpdiianopcaaDoor.A
