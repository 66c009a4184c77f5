/- A region within a round of a range over a function, by the words for a region anywhere. isa.fields: the iterator over the parts of a text that spaces end, as a call and as a sequence. isa.Default, as a call: the constants, what the two loops lay, the first loop's body. isa.Default, as a call. isa.Default, as the printed texts call it. -/
import Derived.RangeFuncCalls
import Derived.OrdersIn
import Derived.TacticsIn
import Derived.Test.YtipjpdiianopcaaWM
import Derived.RangeFuncNested
import Derived.RangeFuncBound
import Derived.RangeFuncLeaves
import Derived.RangeFuncBox
import Derived.Shelf.Abstract
import Derived.Shelf.RegionOpen
import Derived.WalkKit
import Derived.OwnWalkIn
import Derived.TacticsInMore
import Derived.LoopNIn
import Derived.LoopIn
import Derived.Maps.AppendAt
import Derived.Test.YtipjpdiianopcaaAx0
import Derived.Test.YtipjpdiianopcaaAx7
import Derived.Lib.SlBytesConst
namespace Go.Proofs.Ytipjpdiianopcaa.Ch
open Go.RowKit Go.Proofs.YtipjpdiianopcaaW.PrintLast
variable {P : Program} {ops : Array Oper} {Q : Exit → Act → World → Prop} {S : World → Prop} {l n : Nat}

theorem op_in {o : Oper} {a : Act} {w : World} {K : Act → World → Prop} (hd : ∀ c, o.op ≠ .defer c) (h : o.wp P a w K Q) : o.wpIn (Fence.wide.inRound l) n P a w K Q := by
  refine ⟨fun _ _ => trivial, ?_⟩
  rw [show (Fence.wide.inRound l).round = some l from rfl, Oper.semAt_some l a.eval o hd]
  unfold Oper.wp at h
  generalize (execOp a.eval o).run P w = r at h ⊢
  unfold Oper.upon at h
  unfold Oper.uponIn
  split at h
  · exact h
  · exact h
  · exact h
  · exact ⟨(fun h => by simp [Fence.wide] at h), CallsIn.inRound l (callsIn_wide.2 h)⟩
  · refine ⟨(fun h => by simp [Fence.wide] at h), fun c cs _ => ?_⟩
    obtain ⟨v, w', hv, hs⟩ := h c cs
    exact ⟨v, w', hv, stepsIn_wide.2 hs⟩
  · exact h
  · exact h.elim
theorem opI_in {i : Nat} {a : Act} {w : World} {K : Act → World → Prop} (hd : ∀ (j : Nat) o, ops[j]? = some o → ∀ c, o.op ≠ .defer c) (hq : ¬ LetsOut Q) (h : wpOp P ops Q i K a w) : wpOpIn (Fence.wide.inRound l) n P ops Q i K a w := by
  unfold wpOp at h
  unfold wpOpIn
  cases ho : ops[i]? with
  | none => rw [ho] at h; exact h
  | some o =>
    rw [ho] at h
    dsimp only at h ⊢
    split
    · rename_i hw
      rw [if_pos hw] at h
      rcases h with h | h
      · exact op_in (hd i o ho) h
      · exact absurd h.2 hq
    · rename_i hw
      rw [if_neg hw] at h
      exact ⟨fun _ _ => trivial, h⟩
theorem any_in {md : Region.Mode} (hd : ∀ (j : Nat) o, ops[j]? = some o → ∀ c, o.op ≠ .defer c) (hq : ¬ LetsOut Q) : ∀ (fuel : Nat) (listed : Array Bool) (a : Act) (w : World), wpAny P md ops Q fuel listed a w → wpAnyIn (Fence.wide.inRound l) n P md ops Q fuel listed a w
  | 0, _, _, _, h => h
  | fuel + 1, _, _, _, h => ⟨h.1, fun i hi => opI_in hd hq (wpOp_mono (fun a' w' h' => any_in hd hq fuel _ a' w' h') (h.2 i hi))⟩
/-- No operation is a defer statement. -/
def noDefer (ops : Array Oper) : Bool := ops.all fun o => match o.op with | .defer _ => false | _ => true
theorem noDefer_spec (h : noDefer ops = true) : ∀ (j : Nat) o, ops[j]? = some o → ∀ c, o.op ≠ .defer c := by
  intro j o ho c hc
  have h1 := Array.all_eq_true_iff_forall_mem.1 h o (Array.mem_of_getElem? ho)
  rw [hc] at h1
  cases h1
/-- As start_, in a round. -/
theorem start_in {id m : Nat} {a : Act} {w : World} {ds : List Nat} (hnd : noDefer ops = true) (hq : ¬ LetsOut Q) (lb : Array Bool) (hm : P.follows .mixedOrders = true) (hn : ops.size = m) (hl : Array.replicate m false = lb) (hS : S w.drew)
    (h : S w.drew → wpAnyLast P .any ops Q S ds m lb a w.drew) : (Code.region id ops true).wpIn (Fence.wide.inRound l) n P Q a w := by
  subst hn
  subst hl
  exact wpIn_region_any hm (any_in (noDefer_spec hnd) hq _ _ _ _ (wpAny_of_last _ _ _ _ (h hS)))
end Go.Proofs.Ytipjpdiianopcaa.Ch
namespace Go.Proofs.Ytipjpdiianopcaa.Cf
open Go.RowKit Go.Shelf Go.Proofs.YtipjpdiianopcaaW.PrintWords
attribute [local go_sem] Oper.semAt_some
set_option linter.unusedVariables false
set_option linter.unusedSimpArgs false

/-- The parts of s from i on: number n, begun at st. -/
def items (s : ByteArray) : Nat → Int → Int → Int → List (Int × ByteArray)
  | 0, _, _, _ => []
  | d + 1, i, n, st => if bt s i = 32 then (n, s.extract st.toNat i.toNat) :: items s d (i + 1) (n + 1) (i + 1) else items s d (i + 1) n st
def parts (s : ByteArray) : List (Int × ByteArray) := items s s.size 0 0 0
/-- The block of the text stays. -/
def Stays (Bn : Nat) (W W' : World) : Prop := W'.heap[Bn]? = W.heap[Bn]?
abbrev Part (s : ByteArray) := { x : Int × ByteArray // x ∈ parts s }
set_option maxRecDepth 100000 in
set_option maxHeartbeats 2000000 in
theorem seq_in (n : Nat) (hn : 1 ≤ n) (l Bn : Nat) (s : ByteArray) (hs : s.size ≤ 1000000) (J Jx : List (Part s) → World → Prop)
    (hY : ∀ pre x W, J pre W → pre.length < (parts s).length → YieldAt Fence.wide (n - 1) Try.prog l #[.int .i64 x.1.1, .string x.1.2] W fun e W' =>
      (e = .returned (.bool true) ∧ J (pre ++ [x]) W' ∧ Stays Bn W W') ∨ (e = .returned (.bool false) ∧ Jx (pre ++ [x]) W'))
    (W : World) (hBn : W.heap[Bn]? = some (.cells #[.string s] 9 (0, 0))) (h0 : J [] W) :
    CallsIn Fence.wide n Try.prog 86 #[.func (.yield l) #[] #[], .pointer (some ⟨Bn, 0, none⟩)] W fun e W' => (∃ v, e = .returned v) ∧
      ((∃ ys, ys.map Subtype.val = parts s ∧ J ys W') ∨ (∃ pre, True ∧ Jx pre W')) := by
  refine callsIn_of_wp Try.func86 rfl trivial ?_ rfl
  simp only [Try.ntmps86, List.size_toArray, List.length_cons, List.length_nil, Nat.reduceAdd, Nat.reduceSub, Array.replicate_succ, Array.replicate_zero, List.push_toArray, List.append_toArray, List.nil_append, List.cons_append]
  have hc0 : W.cell? ⟨Bn, 0, none⟩ = some (.string s) := (blk_cell hBn 0).trans rfl
  gi_wp2
  gi_loopw [3, 4, 8] (fun p3 p4 p8 wr => ∃ (k st i : Int) (pre : List (Part s)), p3 = .int .i64 k ∧ p4 = .int .i64 st ∧ p8 = .int .i64 i ∧ 0 ≤ k ∧ k ≤ i ∧ 0 ≤ st ∧ st ≤ i ∧ i ≤ (s.size : Int) ∧ pre.map Subtype.val ++ items s (s.size - i.toNat) i k st = parts s ∧ J pre wr ∧ wr.heap[Bn]? = some (.cells #[.string s] 9 (0, 0)))
    (fun _ _ i _ => s.size - (intOf i).toNat)
  case atStart => exact ⟨0, 0, 0, [], rfl, rfl, rfl, by omega, by omega, by omega, by omega, by omega, rfl, h0, hBn⟩
  case round =>
    obtain ⟨k, st, i, pre, rfl, rfl, rfl, hk0, hk1, hs0, hs1, hi, hx, hJs, hnx⟩ := hrel
    have hi0 : 0 ≤ i := by omega
    have hcell : wr.cell? ⟨Bn, 0, none⟩ = some (.string s) := (blk_cell hnx 0).trans rfl
    by_cases hlt : i < (s.size : Int)
    · have hd : s.size - i.toNat = (s.size - (i + 1).toNat) + 1 := by omega
      rw [hd] at hx
      simp only [items] at hx
      have hw1 : wrap64 (i + 1) = i + 1 := by unfold wrap64; omega
      have hw2 : wrap64 (k + 1) = k + 1 := by unfold wrap64; omega
      have hin : i.toNat < s.size := by omega
      by_cases hc : bt s i = 32
      · rw [if_pos hc] at hx
        have hcv : (((s[i.toNat]'hin).toNat : Int) == 32) = true := by rw [bt_at s i hin, hc]; rfl
        have hm : (k, s.extract st.toNat i.toNat) ∈ parts s := by rw [← hx]; simp
        have hlen : pre.length < (parts s).length := by rw [← hx]; simp
        obtain ⟨fn, tmps, assign, body, hy, hR⟩ := hY pre ⟨(k, s.extract st.toNat i.toNat), hm⟩ wr hJs hlen
        dsimp only at hy
        gi_wp2
        refine hR.mono ?_
        rintro e W3 (⟨rfl, hJ3, hk3⟩ | ⟨rfl, hJx3⟩)
        · gi_wp2
          go_roundw
          case rel => exact ⟨k + 1, i + 1, i + 1, pre ++ [⟨(k, s.extract st.toNat i.toNat), hm⟩], by first | rfl | rw [hw2], by first | rfl | rw [hw1], by first | rfl | rw [hw1], by omega, by omega, by omega, by omega, by omega, (by rw [List.map_append, List.append_assoc]; exact hx), hJ3, hk3.trans hnx⟩
          case measure => simp [intOf, hw1]; omega
        · gi_wp2
          refine bodyPost_ret (results_none rfl _ _ _) rfl ?_
          exact ⟨⟨_, rfl⟩, .inr ⟨_, trivial, hJx3⟩⟩
      · rw [if_neg hc] at hx
        have hcv : (((s[i.toNat]'hin).toNat : Int) == 32) = false := by rw [bt_at s i hin]; exact beq_eq_false_iff_ne.2 hc
        gi_wp2
        go_roundw
        case rel => exact ⟨k, st, i + 1, pre, rfl, rfl, by first | rfl | rw [hw1], by omega, by omega, by omega, by omega, by omega, hx, hJs, hnx⟩
        case measure => simp [intOf, hw1]; omega
    · have hd : s.size - i.toNat = 0 := by omega
      rw [hd] at hx
      simp only [items, List.append_nil] at hx
      gi_wp2
      go_end0
      exact ⟨⟨_, rfl⟩, .inl ⟨pre, hx, hJs⟩⟩
set_option maxHeartbeats 1000000 in
/-- fields(s): the text is boxed; the function value captures the box. -/
theorem fields_in (n : Nat) (s : ByteArray) (w : World) :
    CallsIn Fence.wide n Try.prog 75 #[.string s] w fun e w' => e = .returned (.func (.func 86) #[] #[.pointer (some ⟨w.heap.size, 0, none⟩)]) ∧ w' = w.alloc (.cells #[.string s] 9) := by
  refine callsIn_of_wp Try.func75 rfl trivial ?_ rfl
  simp only [Try.ntmps75, List.size_toArray, List.length_cons, List.length_nil, Nat.reduceAdd, Nat.reduceSub, Array.replicate_succ, Array.replicate_zero, List.push_toArray, List.append_toArray, List.nil_append, List.cons_append]
  gi_wp2
  go_ret
  exact ⟨rfl, rfl⟩
theorem seq_stops (n : Nat) (hn : 1 ≤ n) (Bn : Nat) (s : ByteArray) (hs : s.size ≤ 1000000) (w : World) (hc : w.heap[Bn]? = some (.cells #[.string s] 9 (0, 0))) :
    SeqStopsK Fence.wide n Try.prog 86 #[.pointer (some ⟨Bn, 0, none⟩)] (fun x : Part s => #[Value.int .i64 x.1.1, .string x.1.2]) (Stays Bn) (fun ys => ys.map Subtype.val = parts s) (fun _ => True) (parts s).length w := fun l J Jx W hW _ _ hY h0 =>
  seq_in n hn l Bn s hs J Jx hY W ((hW.block Bn (blk_lt hc)).trans hc) h0
theorem stays_t {Bn : Nat} {A B C : World} (h : Stays Bn A B) (k : Stays Bn B C) : Stays Bn A C := Eq.trans k h
theorem stays_b {Bn : Nat} {w : World} (hn : Bn < w.heap.size) (W : World) (l : Nat) (o o' : Obj) (hl : w.heap.size ≤ l) (h : W.heap[l]? = some o) (_ : o.isCells = false) (_ : o.isWalk = false) : Stays Bn W (W.putObj l o') :=
  (grownBy_putObj' W l o').block Bn (by have := (Array.getElem?_eq_some_iff.1 h).1; omega) (fun he => by cases he; omega)
end Go.Proofs.Ytipjpdiianopcaa.Cf
namespace Go.Proofs.Ytipjpdiianopcaa.Cd
open Go.RowKit Go.Shelf Go.Proofs.YtipjpdiianopcaaW.PrintWords Go.Proofs.YtipjpdiianopcaaW.PrintLast Go.Proofs.YtipjpdiianopcaaW.PrintMore Go.Proofs.Ytipjpdiianopcaa.A Go.Proofs.Ytipjpdiianopcaa.Cf Go.Proofs.Ytipjpdiianopcaa.Ch
attribute [local go_sem] Oper.semAt_some
set_option linter.unusedVariables false
set_option linter.unusedSimpArgs false

def namesStr : ByteArray := { data := #[104, 97, 108, 116, 32, 110, 111, 112, 32, 98, 114, 101, 97, 107, 32, 115, 121, 115, 32, 101, 114, 101, 116, 32, 102, 101, 110, 99, 101, 32, 109, 111, 118, 101, 32, 115, 101, 116, 32, 115, 101, 116, 98, 32, 97, 100, 100, 32, 97, 100, 100, 98, 32, 115, 117, 98, 32, 109, 117, 108, 32, 100, 105, 118, 32, 97, 110, 100, 32, 111, 114, 32, 120, 111, 114, 32, 115, 104, 108, 32, 115, 104, 114, 32, 99, 109, 112, 32, 99, 109, 112, 98, 32, 108, 111, 97, 100, 32, 115, 116, 111, 114, 101, 32, 108, 111, 97, 100, 98, 32, 115, 116, 111, 114, 101, 98, 32, 112, 117, 115, 104, 32, 112, 111, 112, 32, 106, 117, 109, 112, 32, 106, 117, 109, 112, 32, 106, 101, 113, 32, 106, 101, 113, 32, 106, 110, 101, 32, 106, 110, 101, 32, 106, 108, 116, 32, 106, 108, 116, 32, 106, 108, 111, 32, 106, 108, 111, 32, 106, 117, 109, 112, 114, 32, 106, 117, 109, 112, 109, 32, 106, 117, 109, 112, 97, 32, 99, 97, 108, 108, 32, 99, 97, 108, 108, 114, 32, 114, 101, 116, 32, 108, 101, 97, 32, 118, 108, 111, 97, 100, 32, 118, 115, 116, 111, 114, 101, 32, 118, 97, 100, 100, 32, 118, 109, 117, 108, 32, 118, 115, 117, 109, 32, 118, 115, 101, 116, 32, 115, 119, 97, 112, 32, 102, 101, 116, 99, 104, 32, 99, 97, 115, 32, 116, 112, 32, 116, 114, 97, 112, 118, 32, 99, 97, 117, 115, 101, 32, 119, 104, 101, 114, 101, 32, 115, 107, 105, 112, 32, 99, 111, 117, 110, 116, 32] }
def kindsStr : ByteArray := { data := #[45, 32, 45, 32, 45, 32, 98, 32, 45, 32, 45, 32, 114, 114, 32, 114, 119, 32, 114, 98, 32, 114, 114, 32, 114, 98, 32, 114, 114, 32, 114, 114, 32, 114, 114, 32, 114, 114, 32, 114, 114, 32, 114, 114, 32, 114, 114, 32, 114, 114, 32, 114, 114, 32, 114, 98, 32, 114, 114, 98, 32, 114, 114, 98, 32, 114, 114, 98, 32, 114, 114, 98, 32, 114, 32, 114, 32, 115, 32, 110, 32, 115, 32, 110, 32, 115, 32, 110, 32, 115, 32, 110, 32, 115, 32, 110, 32, 114, 32, 119, 32, 119, 32, 110, 32, 114, 32, 45, 32, 114, 110, 32, 118, 114, 32, 118, 114, 32, 118, 118, 32, 118, 118, 32, 114, 118, 32, 118, 114, 32, 114, 114, 32, 114, 114, 32, 114, 114, 114, 32, 114, 32, 114, 32, 114, 32, 114, 32, 114, 32, 119, 32] }

/-- What the first loop lays for a part. -/
def form1 (x : Int × ByteArray) : S54 := ⟨x.2, Int.tmod (wrap64 (wrap64 (37 * x.1) + 11)) 256, []⟩
def tab1 (pre : List (Int × ByteArray)) : List S54 := pre.map form1
theorem S_others {A B : World} {base : Nat} {ok : Nat → Prop} {v : Value} {xs : List S54} {row : Option Nat} (h : Kd.S k54 54 A base ok v xs) (hg : A.grownBy B row) (hr : ∀ r, row = some r → ∃ o : Obj, A.heap[r]? = some o ∧ o.isCells = false) : Kd.S k54 54 B base ok v xs :=
  Kd.S_mono (Kd.S_grown (Kd.S_bound h) hg (fun k hk he => by
    obtain ⟨o, ho, hc⟩ := hr k he.symm
    obtain ⟨_, _, _, q, _, cells, hcc⟩ := hk
    rw [hcc] at ho
    cases ho
    cases hc)) (fun _ hk => hk.1)
theorem box_others {A B : World} {g : Nat} {v : Value} {t : Nat} {row : Option Nat} (h : A.heap[g]? = some (.cells #[v] t (0, 0))) (hg : A.grownBy B row) (hr : ∀ r, row = some r → ∃ o : Obj, A.heap[r]? = some o ∧ o.isCells = false) : B.heap[g]? = some (.cells #[v] t (0, 0)) :=
  (hg.block g (blk_lt h) (fun he => by
    obtain ⟨o, ho, hc⟩ := hr g he.symm
    rw [h] at ho
    cases ho
    cases hc)).trans h
/-- A region that does not draw, in a round, as a list of operations. -/
theorem list_in {P : Program} {ops : Array Oper} {Q : Exit → Act → World → Prop} {l n : Nat} (hq : ¬ LetsOut Q) : ∀ (os : List Oper) (a : Act) (w : World), (∀ o ∈ os, ∀ c, o.op ≠ .defer c) → wpList P ops Q os a w → wpListIn (Fence.wide.inRound l) n P ops Q os a w
  | [], _, _, _, h => h
  | o :: os, a, w, hd, h => by
    unfold wpList at h
    unfold wpListIn
    split
    · rename_i hw
      rw [if_pos hw] at h
      rcases h with h | h
      · exact op_in (hd o (List.mem_cons_self ..)) (Oper.wp_mono (fun a' w' h' => list_in hq os a' w' (fun o' ho' => hd o' (List.mem_cons_of_mem _ ho')) h') h)
      · exact absurd h.2 hq
    · rename_i hw
      rw [if_neg hw] at h
      exact ⟨fun _ _ => trivial, list_in hq os _ w (fun o' ho' => hd o' (List.mem_cons_of_mem _ ho')) h⟩
theorem region_in {P : Program} {Q : Exit → Act → World → Prop} {l n id : Nat} {os : List Oper} {a : Act} {w : World} (hnd : noDefer os.toArray = true) (hq : ¬ LetsOut Q) (h : wpList P os.toArray Q os a w) : (Code.region id os.toArray false).wpIn (Fence.wide.inRound l) n P Q a w :=
  wpIn_region_lit (list_in hq os a w (fun o ho c hc => by
    obtain ⟨j, hj⟩ := List.getElem?_of_mem ho
    exact noDefer_spec hnd j o (by simpa using hj) c hc) h)
end Go.Proofs.Ytipjpdiianopcaa.Cd
namespace Go.Proofs.Ytipjpdiianopcaa.Cd
open Go.RowKit Go.Shelf Go.Proofs.YtipjpdiianopcaaW.PrintWords Go.Proofs.YtipjpdiianopcaaW.PrintLast Go.Proofs.YtipjpdiianopcaaW.PrintMore Go.Proofs.Ytipjpdiianopcaa.A Go.Proofs.Ytipjpdiianopcaa.Cf Go.Proofs.Ytipjpdiianopcaa.Ch
attribute [local go_sem] Oper.semAt_some
set_option linter.unusedVariables false
set_option linter.unusedSimpArgs false
theorem names_small : namesStr.size ≤ 1000000 := by decide +kernel
theorem parts_len : (parts namesStr).length = 59 := by decide +kernel
theorem slice3 {α : Type} {d : Kd α} {e : Nat} {w : World} {base : Nat} {ok : Nat → Prop} {v : Value} {xs : List α} (h : Kd.S d e w base ok v xs) : ∃ A n c, v = .slice A n c := by
  obtain ⟨A, c, h⟩ := Kd.S_slice h
  exact ⟨A, _, c, h⟩
theorem sliceR {α : Type} {d : Kd α} {e : Nat} {w : World} {base : Nat} {ok : Nat → Prop} {v : Value} {xs : List α} (h : d.R e w base ok v xs) : ∃ A n c, v = .slice A n c := by
  obtain ⟨A, c, h⟩ := Kd.R_slice h
  exact ⟨A, _, c, h⟩
theorem cell_of_blk {A B : World} {g : Nat} (h : A.heap[g]? = B.heap[g]?) (j : Nat) : A.cell? ⟨g, j, none⟩ = B.cell? ⟨g, j, none⟩ := by simp [World.cell?, h]
/-- What holds between two rounds of the first loop. -/
def I1 (w : World) (pre : List (Part namesStr)) (W : World) : Prop :=
  (∃ v, W.heap[w.heap.size]? = some (.cells #[v] 47 (0, 0)) ∧ W.heap[w.heap.size + 1]? = some (.cells #[.string namesStr] 9 (0, 0)) ∧ Kd.S k54 54 W w.heap.size (fun _ => True) v (tab1 (pre.map Subtype.val))) ∧ Below w.heap.size w W
theorem I1_own (w : World) (B : Nat) (hB : w.heap.size ≤ B) : OwnFrom B (I1 w) := by
  intro s A W row hs hg hr
  obtain ⟨⟨v, h1, h4, h2⟩, h3⟩ := hs
  exact ⟨⟨v, box_others h1 hg (fun r e => (hr r e).2), box_others h4 hg (fun r e => (hr r e).2), S_others h2 hg (fun r e => (hr r e).2)⟩, ownFrom_below (β := Unit) (Nat.le_refl _) hB () A W row h3 hg hr⟩
theorem kinds_small : kindsStr.size ≤ 1000000 := by decide +kernel
theorem kparts_ok : ∀ x ∈ parts kindsStr, 0 ≤ x.1 ∧ x.1 < 59 ∧ x.2.size ≤ 10 := by decide +kernel
/-- The kind that a letter stands for; 0 or less: none. -/
def kindOf (c : Int) : Int := if c = 45 then 0 else if c = 114 then 1 else if c = 118 then 2 else if c = 98 then 3 else if c = 119 then 4 else if c = 115 then 5 else if c = 110 then 6 else -1
/-- One letter of part x laid. -/
def step2 (k : Int) (t : List S54) (c : Int) : List S54 := if kindOf c > 0 then t.set k.toNat { (t.getD k.toNat z54) with f2 := (t.getD k.toNat z54).f2 ++ [kindOf c] } else t
/-- The first m letters of part x laid. -/
def some2 (x : Int × ByteArray) (t : List S54) : Nat → List S54
  | 0 => t
  | m + 1 => step2 x.1 (some2 x t m) (bt x.2 m)
def all2 (t : List S54) (x : Int × ByteArray) : List S54 := some2 x t x.2.size
def tab2 (pre : List (Int × ByteArray)) : List S54 := pre.foldl all2 (tab1 (parts namesStr))
theorem step2_len (k : Int) (t : List S54) (c : Int) : (step2 k t c).length = t.length := by unfold step2; split <;> simp
theorem some2_len (x : Int × ByteArray) (t : List S54) : ∀ m, (some2 x t m).length = t.length
  | 0 => rfl
  | m + 1 => by rw [some2, step2_len, some2_len x t m]
theorem fold2_len : ∀ (pre : List (Int × ByteArray)) (t : List S54), (pre.foldl all2 t).length = t.length
  | [], _ => rfl
  | x :: pre, t => by rw [List.foldl_cons, fold2_len pre, all2, some2_len]
theorem tab2_len (pre : List (Int × ByteArray)) : (tab2 pre).length = 59 := by rw [tab2, fold2_len, tab1, List.length_map, parts_len]
theorem keep_drewN (W : World) (m : Nat) : KeepsOthers W (W.drewN m) := ⟨Nat.le_refl _, fun _ _ h _ => h⟩
theorem some2_next (x : Int × ByteArray) (t : List S54) (i : Int) (h : 0 ≤ i) : some2 x t (i + 1).toNat = step2 x.1 (some2 x t i.toNat) (bt x.2 i) := by
  obtain ⟨m, rfl⟩ : ∃ m : Nat, i = m := ⟨i.toNat, by omega⟩
  rfl
theorem step2_off (k : Int) (t : List S54) (c : Int) (h : ¬ 0 < kindOf c) : step2 k t c = t := by unfold step2; rw [if_neg h]
theorem kind_f (c : Int) : slices_Index_byte_byte.f 20 [45, 114, 118, 98, 119, 115, 110] c = some (kindOf c) := by
  by_cases h0 : c = 45
  · subst h0; decide +kernel
  by_cases h1 : c = 114
  · subst h1; decide +kernel
  by_cases h2 : c = 118
  · subst h2; decide +kernel
  by_cases h3 : c = 98
  · subst h3; decide +kernel
  by_cases h4 : c = 119
  · subst h4; decide +kernel
  by_cases h5 : c = 115
  · subst h5; decide +kernel
  by_cases h6 : c = 110
  · subst h6; decide +kernel
  simp [slices_Index_byte_byte.f, slices_Index_byte_byte.l0, kindOf, rd, wrap64, h0, h1, h2, h3, h4, h5, h6]
theorem letters_row {w : World} {g : Nat} {m : Nat × Nat} (h : w.heap[g]? = some (.cells #[.int .u8 45, .int .u8 114, .int .u8 118, .int .u8 98, .int .u8 119, .int .u8 115, .int .u8 110] 5 m)) : Kd.C (Kd.int .u8) w (some ⟨g, 0, none⟩) 7 [45, 114, 118, 98, 119, 115, 110] := by
  refine Kd.C_of_reads (d := (0 : Int)) (h1 := fun _ => rfl) ⟨rfl, by decide, fun _ => ⟨_, rfl, fun j hj => ?_⟩⟩
  rcases (by omega : j = 0 ∨ j = 1 ∨ j = 2 ∨ j = 3 ∨ j = 4 ∨ j = 5 ∨ j = 6) with rfl | rfl | rfl | rfl | rfl | rfl | rfl <;> simp [World.cell?, h, Addr.add]
/-- No form of t has more than m kinds. -/
def KL (m : Nat) (t : List S54) : Prop := ∀ k : Nat, (t.getD k z54).f2.length ≤ m
theorem KL_step {m : Nat} {t : List S54} (h : KL m t) (k c : Int) : KL (m + 1) (step2 k t c) := by
  intro j
  unfold step2
  split
  · rw [List.getD_eq_getElem?_getD, List.getElem?_set]
    split
    · split
      · have := h k.toNat
        simp only [Option.getD_some, List.length_append, List.length_cons, List.length_nil]; omega
      · simp [z54]
    · have := h j
      rw [List.getD_eq_getElem?_getD] at this
      omega
  · have := h j
    omega
theorem KL_some {m : Nat} {t : List S54} (h : KL m t) (x : Int × ByteArray) : ∀ n, KL (m + n) (some2 x t n)
  | 0 => h
  | n + 1 => KL_step (KL_some h x n) _ _
theorem KL_mono {m n : Nat} {t : List S54} (h : KL m t) (hn : m ≤ n) : KL n t := fun k => Nat.le_trans (h k) hn
theorem KL_fold : ∀ (pre : List (Int × ByteArray)) (m : Nat) (t : List S54), (∀ x ∈ pre, x.2.size ≤ 10) → KL m t → KL (m + 10 * pre.length) (pre.foldl all2 t)
  | [], _, _, _, h => h
  | x :: pre, m, t, hp, h => by
    have h1 := KL_mono (KL_some h x x.2.size) (show m + x.2.size ≤ m + 10 by have := hp x (List.mem_cons_self ..); omega)
    have h2 := KL_fold pre (m + 10) (all2 t x) (fun y hy => hp y (List.mem_cons_of_mem _ hy)) h1
    rw [List.foldl_cons]
    exact KL_mono h2 (by simp only [List.length_cons]; omega)
theorem KL_tab1 (l : List (Int × ByteArray)) : KL 0 (tab1 l) := by
  intro k
  unfold tab1
  rw [List.getD_eq_getElem?_getD, List.getElem?_map]
  cases l[k]? with
  | none => simp [z54]
  | some x => simp [form1]
theorem parts_len2 : (parts kindsStr).length = 59 := by decide +kernel
theorem small2 (x : Part kindsStr) (pre : List (Part kindsStr)) (i : Nat) (hi : i ≤ 1000) (hp : pre.length < 59) (k : Nat) : ((some2 x.1 (tab2 (pre.map Subtype.val)) i).getD k z54).f2.length ≤ 2000 := by
  have h := KL_fold (pre.map Subtype.val) 0 _ (fun y hy => by
    obtain ⟨z, _, rfl⟩ := List.mem_map.1 hy
    exact (kparts_ok z.1 z.2).2.2) (KL_tab1 (parts namesStr))
  have h2 := KL_some h x.1 i k
  rw [List.length_map] at h2
  exact Nat.le_trans h2 (by omega)
theorem step2_on (k : Int) (t : List S54) (c : Int) (h : 0 < kindOf c) : step2 k t c = t.set k.toNat ⟨(t.getD k.toNat z54).f0, (t.getD k.toNat z54).f1, (t.getD k.toNat z54).f2 ++ [kindOf c]⟩ := by unfold step2; rw [if_pos h]
/-- What holds between two rounds of the second loop. -/
def I2 (w : World) (D Bk : Nat) (pre : List (Part kindsStr)) (W : World) : Prop :=
  (∃ v, W.heap[w.heap.size]? = some (.cells #[v] 47 (0, 0)) ∧ W.heap[Bk]? = some (.cells #[.string kindsStr] 9 (0, 0)) ∧ Kd.S k54 54 W w.heap.size (fun _ => True) v (tab2 (pre.map Subtype.val))) ∧ W.heap[D]? = some (.deferred (some [])) ∧ Below w.heap.size w W
theorem I2_own (w : World) (D Bk : Nat) (B : Nat) (hB : w.heap.size ≤ B) (hD : D < B) : OwnFrom B (I2 w D Bk) := by
  intro s A W row hs hg hr
  obtain ⟨⟨v, h1, h4, h2⟩, h5, h3⟩ := hs
  exact ⟨⟨v, box_others h1 hg (fun r e => (hr r e).2), box_others h4 hg (fun r e => (hr r e).2), S_others h2 hg (fun r e => (hr r e).2)⟩, (hg.block D (blk_lt h5) (fun he => by have := (hr D he.symm).1; omega)).trans h5, ownFrom_below (β := Unit) (Nat.le_refl _) hB () A W row h3 hg hr⟩
set_option maxHeartbeats 2000000 in
set_option maxRecDepth 100000 in
theorem default_in (w : World) : CallsIn Fence.wide 5 Try.prog 41 #[] w fun e W' => ∃ v, e = .returned v ∧ Kd.S k54 54 W' w.heap.size (fun _ => True) v (tab2 (parts kindsStr)) ∧ Below w.heap.size w W' := by
  have hu54 := Try.underlying54
  have hF : ∀ f, Fence.wide.fn f := fun _ => trivial
  refine callsIn_of_wp_marks Try.func41 rfl trivial ?_ rfl
  simp only [Try.ntmps41, List.size_toArray, List.length_cons, List.length_nil, Nat.reduceAdd, Nat.reduceSub, Array.replicate_succ, Array.replicate_zero, List.push_toArray, List.append_toArray, List.nil_append, List.cons_append]
  gi_wp2_with (gi_at_call 75; refine (fields_in _ namesStr _).mono ?_; rintro e w' ⟨rfl, rfl⟩)
  have bT := blk_new w (.cells #[.slice none 0 0] 47)
  have hB0 : Below w.heap.size w ((w.alloc (.cells #[.slice none 0 0] 47)).alloc (.cells #[.string namesStr] 9)) := ((Below.refl _ w).alloc (Nat.le_refl _) _).alloc (by simp) _
  have bN := blk_new (w.alloc (.cells #[.slice none 0 0] 47)) (.cells #[.string namesStr] 9)
  rw [World.size_alloc] at bN
  have bT1 := blk_alloc bT (.cells #[.string namesStr] 9)
  refine wpIn_rangeFunc_ownG rfl (by decide) (gf := 86) (lb := #[.pointer (some ⟨w.heap.size + 1, 0, none⟩)]) rfl trivial (enters_of Try.func86 (by kernel_rfl) rfl)
    (seq_stops _ (by decide) (w.heap.size + 1) namesStr names_small _ bN) stays_t (stays_b (by simp)) (Below.refl _ _) (fun _ => rfl)
    (I1 w) (fun _ _ _ => False) (I1_own w _ (by simp; omega)) (fun _ _ _ _ _ hs _ _ => hs) ⟨⟨_, bT1, bN, Kd.S_nil _ _ _ _ _⟩, hB0⟩
    (fun x => { tmps := #[.slice none 0 0, .pointer (some ⟨w.heap.size, 0, none⟩), .int .i64 x.1.1, .string x.1.2, undef, undef, undef, undef, .func (.func 86) #[] #[.pointer (some ⟨w.heap.size + 1, 0, none⟩)], .int .i64 x.1.1, .string x.1.2, undef, undef, undef, undef, undef, undef, undef, undef, undef, undef, undef, undef, undef, undef, undef, undef, undef, undef, undef, undef, undef, undef, undef, undef, undef, undef, undef, undef, undef, undef, undef, undef, undef, undef, undef, undef, undef, undef, undef], defers := [] }) ?assign ?body ?done ?stop
  case assign =>
    intro l x W K hK
    gi_wp2
    exact hK
  case stop =>
    rintro D c pre W _ _ h _
    exact h.elim
  case body =>
    rintro l pre x W ⟨⟨v, hv, hN, hS⟩, hB⟩ hlt
    have hpl : pre.length < 59 := by rw [parts_len] at hlt; exact hlt
    have hcv : W.cell? ⟨w.heap.size, 0, none⟩ = some v := (blk_cell hv 0).trans rfl
    have hfv := blk_frozen hv 0
    have HV := Aside0.mk hv
    have HS := Aside0.mk hS
    have HB := Aside0.mk hB
    have HN := Aside0.mk hN
    have HL := Aside0.mk hpl
    obtain ⟨A0, n0, c0, rfl⟩ := slice3 hS
    clear hv hS hB hN hlt hpl
    refine wpIn_block ?_
    refine region_in (by kernel_rfl) (by rintro ⟨a, w', h⟩; exact h) ?_
    go_wp2_with (first | ((with_reducible refine gate_builtin (b := .append) (xs := #[.tmp 11, .tmp 18]) rfl ?_); at_builtin; go_loud (refine Kd.S_append k54 (w0 := w) w.heap.size rfl (.tmp 11) (.tmp 18) 47 54 (.agg #[.string ⟨#[]⟩, .int .i64 0, .slice none 0 0]) 48 rfl Try.underlying47 info54 rfl (by decide) (by decide) (.slice A0 n0 c0) (tab1 (pre.map Subtype.val)) (form1 x.1) [.string x.1.2, .int .i64 (form1 x.1).f1, .slice none 0 0] (fun _ => True) (fun _ => False) rfl rfl ?aP (fun _ hk => hk.elim) ?aF ?aO ?aB ?aS ?aL ?_); (case aP => exact k54_mkM _ _ _ (form1 x.1) (Kd.R_nil _ _ _ _ _)); (case aB => exact HB.out); (case aF => exact (fun _ _ => trivial)); (case aO => exact Kd.S_mono HS.out (fun _ _ => ⟨trivial, fun h => h⟩)); (case aS => exact HB.out.size); (case aL => have h := HL.out; simp only [tab1, List.length_map]; omega); intro v1 w6 ho hb hgr hat; obtain ⟨A1, n1, c1, rfl⟩ := slice3 ho; have hg6 := blk_grown HV.out hgr (Kd.S_ne HS.out HV.out (by decide)); have hn6 := blk_grown HN.out hgr (Kd.S_ne HS.out HN.out (by decide)); have HO := Aside0.mk ho; have HB6 := Aside0.mk hb; have HG6 := Aside0.mk hg6; have HN6 := Aside0.mk hn6; have HR6 := Aside0.mk hgr; have hc6 := (blk_cell hg6 0).trans rfl; have hf6 := blk_frozen hg6 0; clear ho hb hgr hat hg6 hn6))
    refine ⟨((KeepsOthers.of_grownBy HR6.out (fun j o ej hj => by
      obtain ⟨cells, hc⟩ := Kd.S_typed HS.out j ej
      rw [hc] at hj
      cases hj
      rfl)).trans (KeepsOthers.setCell _ _ _)).from _, ?_, ⟨_, blk_put (cs := #[.slice A0 n0 c0]) HG6.out 0 _ rfl, (Below.heap_setCell _ _ _ _ (by simp)).trans HN6.out, ?_⟩, HB6.out.setCell (Nat.le_refl _) _⟩
    · exact ((Below.heap_setCell _ _ _ _ (by simp)).trans HN6.out).trans HN.out.symm
    · have h := Kd.S_set HO.out HG6.out (by decide +kernel) 0 (.slice A1 n1 c1)
      have e : tab1 ((pre ++ [x]).map Subtype.val) = tab1 (pre.map Subtype.val) ++ [form1 x.1] := by simp [tab1]
      rw [e]
      exact h
  case done =>
    rintro D ys W hD hys ⟨⟨v, hv, hN, hS⟩, hB⟩ hK
    rw [hys] at hS
    gi_wp2_with (gi_at_call 75; refine (fields_in _ kindsStr _).mono ?_; rintro e w' ⟨rfl, rfl⟩)
    have bK := blk_new W (.cells #[.string kindsStr] 9)
    have bT := blk_alloc hv (.cells #[.string kindsStr] 9)
    have bD := blk_alloc hK (.cells #[.string kindsStr] 9)
    have hDW := blk_lt hK
    have hwW := blk_lt hv
    refine wpIn_rangeFunc_ownG rfl (by decide) (gf := 86) (lb := #[.pointer (some ⟨W.heap.size, 0, none⟩)]) rfl trivial (enters_of Try.func86 (by kernel_rfl) rfl)
      (seq_stops _ (by decide) W.heap.size kindsStr kinds_small _ bK) stays_t (stays_b (by simp)) (Below.refl _ _) (fun _ => rfl)
      (I2 w D W.heap.size) (fun _ _ _ => False) (I2_own w D _ _ (by simp; omega) (by simp; omega)) (fun _ _ _ _ _ hs _ _ => hs) ⟨⟨_, bT, bK, Kd.S_alloc hS _⟩, bD, hB.alloc hB.size _⟩
      (fun x => { tmps := #[.slice none 0 0, .pointer (some ⟨w.heap.size, 0, none⟩), undef, undef, .int .i64 x.1.1, .string x.1.2, undef, undef, .func (.func 86) #[] #[.pointer (some ⟨w.heap.size + 1, 0, none⟩)], undef, undef, undef, undef, undef, undef, undef, undef, undef, undef, undef, .func (.func 86) #[] #[.pointer (some ⟨W.heap.size, 0, none⟩)], .int .i64 x.1.1, .string x.1.2, undef, undef, undef, undef, undef, undef, undef, undef, undef, undef, undef, undef, undef, undef, undef, undef, undef, undef, undef, undef, undef, undef, undef, undef, undef, undef, undef], defers := [] }) ?assign2 ?body2 ?done2 ?stop2
    case assign2 =>
      intro l x V K hK
      gi_wp2
      exact hK
    case stop2 =>
      rintro D2 c pre V _ _ h _
      exact h.elim
    case done2 =>
      rintro D2 zs V hD2 hzs ⟨⟨v, hv, hN, hS⟩, hD1, hB⟩ hK2
      have hcv : V.cell? ⟨w.heap.size, 0, none⟩ = some v := (blk_cell hv 0).trans rfl
      rw [hzs] at hS
      gi_wp2
      have hDD : D ≠ D2 := by simp at hD2; omega
      have g2 := grownBy_putObj' V D2 (.deferred none)
      have hD1' : (V.putObj D2 (.deferred none)).heap[D]? = some (.deferred (some [])) := (g2.block D (blk_lt hD1) (fun he => hDD (by cases he; rfl))).trans hD1
      refine ⟨by simp, .inl ⟨_, _, rfl, run_takeDeferred hK2, ?_⟩⟩
      refine ⟨by simp, .inl ⟨_, _, rfl, run_takeDeferred hD1', ?_⟩⟩
      have g1 := grownBy_putObj' (V.putObj D2 (.deferred none)) D (.deferred none)
      have hS2 := S_others hS g2 (fun r e => by cases e; exact ⟨_, hK2, rfl⟩)
      have hB2 : Below w.heap.size w (V.putObj D2 (.deferred none)) := hB.trans (belowK_b (w := w) (Nat.le_refl _) V D2 _ _ (by simp at hD2; omega) hK2 rfl rfl)
      have hS3 := S_others hS2 g1 (fun r e => by cases e; exact ⟨_, hD1', rfl⟩)
      exact ⟨_, results_tmp rfl _ _ _, v, rfl, hS3, hB2.trans (belowK_b (w := w) (Nat.le_refl _) _ D _ _ (by simp at hD; omega) hD1' rfl rfl)⟩
    case body2 =>
      rintro l pre x V ⟨⟨v, hv, hN, hS⟩, hD1, hB⟩ hlt
      obtain ⟨hx0, hx1, hxs⟩ := kparts_ok x.1 x.2
      rw [parts_len2] at hlt
      have HPL := Aside0.mk hlt
      have HX0 := Aside0.mk hx0
      have HX1 := Aside0.mk hx1
      have HXS := Aside0.mk hxs
      have HV := Aside0.mk hv
      have HN := Aside0.mk hN
      have HS := Aside0.mk hS
      have HD := Aside0.mk hD1
      have HB := Aside0.mk hB
      clear hx0 hx1 hxs hv hN hS hD1 hB hlt hD hys hB0 bN bT1 bK bD hK bT
      refine wpIn_block ?_
      gi_wp2
      gi_loopw [25] (fun p wr => ∃ (i : Int) (v : Value), p = .int .i64 i ∧ Aside0 (0 ≤ i ∧ i ≤ (x.1.2.size : Int)) ∧ Aside0 (wr.heap[w.heap.size]? = some (.cells #[v] 47 (0, 0))) ∧ Aside0 (wr.heap[W.heap.size]? = some (.cells #[.string kindsStr] 9 (0, 0))) ∧ Aside0 (Kd.S k54 54 wr w.heap.size (fun _ => True) v (some2 x.1 (tab2 (pre.map Subtype.val)) i.toNat)) ∧ Aside0 (wr.heap[D]? = some (.deferred (some []))) ∧ Aside0 (Below w.heap.size w wr) ∧ Aside0 (KeepsFrom (W.heap.size + 1) V wr))
        (fun p _ => x.1.2.size - (intOf p).toNat)
      case atStart => exact ⟨0, v, rfl, ⟨⟨by omega, by omega⟩⟩, HV, HN, HS, HD, HB, ⟨KeepsFrom.refl _ _⟩⟩
      case round =>
        have HN0 := HN
        clear HV HN HS HD HB
        obtain ⟨i, v, rfl, HI, HV, HN, HS, HD, HB, HK⟩ := hrel
        by_cases hlt : i < (x.1.2.size : Int)
        · have hi0 : 0 ≤ i := HI.out.1
          have hin : i.toNat < x.1.2.size := by omega
          have HL := Aside0.mk hlt
          have ht0 : decide (i < (x.1.2.size : Int)) = true := decide_eq_true hlt
          have hconv : (convert 25 25 (.slice (some ⟨wr.heap.size, 0, none⟩) 7 7)).run Try.prog (wr.alloc (.cells #[.int .u8 45, .int .u8 114, .int .u8 118, .int .u8 98, .int .u8 119, .int .u8 115, .int .u8 110] 5)) = .ok (.slice (some ⟨wr.heap.size, 0, none⟩) 7 7) (wr.alloc (.cells #[.int .u8 45, .int .u8 114, .int .u8 118, .int .u8 98, .int .u8 119, .int .u8 115, .int .u8 110] 5 (7, 8))) := Go.Lib.run_convert_bytes_const wr 25 5 _ 7 7 Try.underlying25 Try.underlying5
          have bL : (wr.alloc (.cells #[.int .u8 45, .int .u8 114, .int .u8 118, .int .u8 98, .int .u8 119, .int .u8 115, .int .u8 110] 5 (7, 8))).heap[wr.heap.size]? = some (.cells #[.int .u8 45, .int .u8 114, .int .u8 118, .int .u8 98, .int .u8 119, .int .u8 115, .int .u8 110] 5 (7, 8)) := blk_new wr _
          have hcall := slices_Index_byte_byte.calls 20 _ 7 [45, 114, 118, 98, 119, 115, 110] ((x.1.2[i.toNat]'hin).toNat : Int) _ _ (letters_row bL) (by decide) (kind_f _)
          have HC := Aside0.mk hcall
          clear hcall bL
          have hcc := bt_at x.1.2 i hin
          have hw1 : wrap64 (i + 1) = i + 1 := by have := HXS.out; unfold wrap64; omega
          have HW := Aside0.mk hw1
          clear hw1
          generalize hce : ((x.1.2[i.toNat]'hin).toNat : Int) = c at HC hcc
          have CC := Aside0.mk hcc
          clear hcc
          by_cases hk : 0 < kindOf c
          · have hk0 : decide (0 < kindOf c) = true := decide_eq_true hk
            have HKD := Aside0.mk hk
            clear hk
            gi_wp2_with (gi_at_call 76; refine (CallsIn.inRound l (callsIn_wide.2 HC.out)).mono ?_; rintro e w' ⟨rfl, ⟨nd, rfl⟩⟩)
            have HV1 := Aside0.mk (blk_drew (blk_drewN (blk_alloc HV.out (.cells #[.int .u8 45, .int .u8 114, .int .u8 118, .int .u8 98, .int .u8 119, .int .u8 115, .int .u8 110] 5 (7, 8))) nd))
            have HN1 := Aside0.mk (blk_drew (blk_drewN (blk_alloc HN.out (.cells #[.int .u8 45, .int .u8 114, .int .u8 118, .int .u8 98, .int .u8 119, .int .u8 115, .int .u8 110] 5 (7, 8))) nd))
            have HS1 := Aside0.mk (Kd.S_drew (Kd.S_drewN (Kd.S_alloc HS.out (.cells #[.int .u8 45, .int .u8 114, .int .u8 118, .int .u8 98, .int .u8 119, .int .u8 115, .int .u8 110] 5 (7, 8))) nd))
            have HD1 := Aside0.mk (blk_drew (blk_drewN (blk_alloc HD.out (.cells #[.int .u8 45, .int .u8 114, .int .u8 118, .int .u8 98, .int .u8 119, .int .u8 115, .int .u8 110] 5 (7, 8))) nd))
            have HB1 := Aside0.mk (below_drew1 (pw_below_drewN (below_alloc HB.out (.cells #[.int .u8 45, .int .u8 114, .int .u8 118, .int .u8 98, .int .u8 119, .int .u8 115, .int .u8 110] 5 (7, 8))) nd))
            have HK1 := Aside0.mk (HK.out.trans ((((KeepsOthers.alloc wr (.cells #[.int .u8 45, .int .u8 114, .int .u8 118, .int .u8 98, .int .u8 119, .int .u8 115, .int .u8 110] 5 (7, 8))).trans (keep_drewN _ nd)).trans (KeepsOthers.drew _)).from (W.heap.size + 1)))
            clear HV HN HS HD HB HK
            have hn59 : 0 < (some2 x.1 (tab2 (pre.map Subtype.val)) i.toNat).length := by rw [some2_len, tab2_len]; decide
            obtain ⟨g, cap, rfl, hge, hglt, gcells, hgc⟩ := Kd.S_form HS1.out hn59
            have hkn : x.1.1 < ((some2 x.1 (tab2 (pre.map Subtype.val)) i.toNat).length : Int) := by rw [some2_len, tab2_len]; exact HX1.out
            have hkn0 : 0 ≤ x.1.1 := HX0.out
            obtain ⟨oki, cs, hcl, hM, hcc, hfr, hoki, hH⟩ := Kd.S_elem HS1.out z54 x.1.1 hkn0 hkn
            obtain ⟨v2, rfl, hr2⟩ := k54_openM hM
            have hcell2 := hcc 2 v2 rfl
            have hcellB : (((wr.alloc (.cells #[.int .u8 45, .int .u8 114, .int .u8 118, .int .u8 98, .int .u8 119, .int .u8 115, .int .u8 110] 5 (7, 8))).drewN nd).drew).cell? ⟨w.heap.size, 0, none⟩ = some (.slice (some ⟨g, 0, none⟩) (some2 x.1 (tab2 (pre.map Subtype.val)) i.toNat).length cap) := (blk_cell HV1.out 0).trans rfl
            have pk0 : (0 ≤ x.1.1) = True := eq_true hkn0
            have pk1 : (x.1.1 < ((some2 x.1 (tab2 (pre.map Subtype.val)) i.toNat).length : Int)) = True := eq_true hkn
            have h54 : k54.sz = 3 := rfl
            rw [h54] at hcell2
            generalize hV2 : (((wr.alloc (.cells #[.int .u8 45, .int .u8 114, .int .u8 118, .int .u8 98, .int .u8 119, .int .u8 115, .int .u8 110] 5 (7, 8))).drewN nd).drew) = V2 at HV1 HN1 HS1 HD1 HB1 HK1 hr2 hcc hfr hH hcell2 hcellB hglt hgc
            refine start_in (m := 13) (S := fun w' => w'.cell? ⟨w.heap.size, 0, none⟩ = some (.slice (some ⟨g, 0, none⟩) (some2 x.1 (tab2 (pre.map Subtype.val)) i.toNat).length cap) ∧ w'.cell? ⟨g, x.1.1.toNat * 3 + 2, none⟩ = some v2) (ds := [12]) (by kernel_rfl) (by rintro ⟨a, w', h⟩; exact h) #[false, false, false, false, false, false, false, false, false, false, false, false, false] (by kernel_rfl) rfl rfl (by rw [hV2]; exact ⟨hcellB, hcell2⟩) (fun hHeld => ?_)
            rw [hV2] at hHeld ⊢
            refine pure_ (i := 1) (N := some 37) (v := ?_) (a' := ?_) #[false, true, false, false, false, false, false, false, false, false, false, false, false] rfl rfl (by kernel_rfl) (fun _ _ _ h => h) (Or.inl ⟨by rfl, ?_⟩) ?_ ?_
            rotate_left
            · intro w'
              go_simp
              with_reducible rfl
            rotate_left
            · simp only [Act.put, List.setIfInBounds_toArray, List.set_cons_zero, List.set_cons_succ, i64_w, i32_w]
              rfl
            refine pure_ (i := 3) (N := some 39) (v := ?_) (a' := ?_) #[false, true, false, true, false, false, false, false, false, false, false, false, false] rfl rfl (by kernel_rfl) (fun _ _ _ h => h) (Or.inl ⟨by rfl, ?_⟩) ?_ ?_
            rotate_left
            · intro w'
              go_simp
              with_reducible rfl
            rotate_left
            · simp only [Act.put, List.setIfInBounds_toArray, List.set_cons_zero, List.set_cons_succ, i64_w, i32_w]
              rfl
            refine pure_ (i := 7) (N := some 43) (v := ?_) (a' := ?_) #[false, true, false, true, false, false, false, true, false, false, false, false, false] rfl rfl (by kernel_rfl) (fun _ _ _ h => h) (Or.inl ⟨by rfl, ?_⟩) ?_ ?_
            rotate_left
            · intro w'
              go_simp
              with_reducible rfl
            rotate_left
            · simp only [Act.put, List.setIfInBounds_toArray, List.set_cons_zero, List.set_cons_succ, i64_w, i32_w]
              rfl
            refine take_ (i := 0) (N := some 36) (v := ?_) (a' := ?_) #[true, true, false, true, false, false, false, true, false, false, false, false, false] rfl rfl (by kernel_rfl) (fun _ _ _ h => h) (Or.inl ⟨by rfl, ?_⟩) hHeld ?_ ?_
            rotate_left
            · rintro w' ⟨s0, s1⟩
              go_simp
              with_reducible rfl
            rotate_left
            · simp only [Act.put, List.setIfInBounds_toArray, List.set_cons_zero, List.set_cons_succ, i64_w, i32_w]
              rfl
            refine take_ (i := 2) (N := some 38) (v := ?_) (a' := ?_) #[true, true, true, true, false, false, false, true, false, false, false, false, false] rfl rfl (by kernel_rfl) (fun _ _ _ h => h) (Or.inl ⟨by rfl, ?_⟩) hHeld ?_ ?_
            rotate_left
            · rintro w' ⟨s0, s1⟩
              go_simp
              with_reducible rfl
            rotate_left
            · simp only [Act.put, List.setIfInBounds_toArray, List.set_cons_zero, List.set_cons_succ, i64_w, i32_w]
              rfl
            refine pure_ (i := 4) (N := some 40) (v := ?_) (a' := ?_) #[true, true, true, true, true, false, false, true, false, false, false, false, false] rfl rfl (by kernel_rfl) (fun _ _ _ h => h) (Or.inl ⟨by rfl, ?_⟩) ?_ ?_
            rotate_left
            · intro w'
              go_simp
              with_reducible rfl
            rotate_left
            · simp only [Act.put, List.setIfInBounds_toArray, List.set_cons_zero, List.set_cons_succ, i64_w, i32_w]
              rfl
            refine pure_ (i := 5) (N := some 41) (v := ?_) (a' := ?_) #[true, true, true, true, true, true, false, true, false, false, false, false, false] rfl rfl (by kernel_rfl) (fun _ _ _ h => h) (Or.inl ⟨by rfl, ?_⟩) ?_ ?_
            rotate_left
            · intro w'
              go_simp
              with_reducible rfl
            rotate_left
            · simp only [Act.put, List.setIfInBounds_toArray, List.set_cons_zero, List.set_cons_succ, i64_w, i32_w]
              rfl
            refine take_ (i := 6) (N := some 42) (v := ?_) (a' := ?_) #[true, true, true, true, true, true, true, true, false, false, false, false, false] rfl rfl (by kernel_rfl) (fun _ _ _ h => h) (Or.inl ⟨by rfl, ?_⟩) hHeld ?_ ?_
            rotate_left
            · rintro w' ⟨s0, s1⟩
              go_simp
              with_reducible rfl
            rotate_left
            · simp only [Act.put, List.setIfInBounds_toArray, List.set_cons_zero, List.set_cons_succ, i64_w, i32_w]
              rfl
            refine one_ (i := 8) (N := some 44) #[true, true, true, true, true, true, true, true, true, false, false, false, false] rfl rfl (by kernel_rfl) (by decide) (fun K hK => ?_)
            refine value_ (w1 := ?_) (v := ?_) (by rfl) rfl ?_ ?_
            rotate_left 2
            · go_simp
              constructor
              · rfl
              · rfl
            have hA := below_alloc (Below.refl V2.heap.size V2) (.cells #[.int .i64 (kindOf c)] 3)
            refine hK.out _ _ ⟨(hA.cell (p := ⟨w.heap.size, 0, none⟩) (blk_lt HV1.out)).trans hHeld.1, (hA.cell (p := ⟨g, _, none⟩) hglt).trans hHeld.2⟩ (fun hHeld => ?_)
            clear hK K
            refine norm_ (a' := ?_) ?_ ?_
            rotate_left
            · show Act.put _ (some 44) _ = _
              simp only [Act.put, List.setIfInBounds_toArray, List.set_cons_zero, List.set_cons_succ, i64_w, i32_w]
              rfl
            refine one_ (i := 9) (N := some 45) #[true, true, true, true, true, true, true, true, true, true, false, false, false] rfl rfl (by kernel_rfl) (by decide) (fun K hK => ?_)
            refine Kd.R_append_step (Kd.int .i64) (w0 := w) w.heap.size (by rfl) (.tmp 42) (.tmp 44) 22 3 (.int .i64 0) 8 rfl Try.underlying22 info3 rfl (by decide) (by omega) v2 _ (kindOf c) [.int .i64 (kindOf c)] (fun k_ => oki k_ ∨ True ∧ V2.heap.size ≤ k_) (fun _ => False) rfl rfl rfl (fun _ hk => hk.elim) (fun k_ hk => .inr ⟨trivial, hk⟩) (Kd.R_mono hr2 (fun _ hk => .inl hk)) HB1.out HB1.out.size ?aL ?_
            case aL => have := small2 x pre i.toNat (by have := HI.out; have := HXS.out; omega) HPL.out x.1.1.toNat; omega
            intro v9 w9 ho hb hg hat
            have HV9 := Aside0.mk (blk_grown HV1.out hg (Kd.R_ne hr2 HV1.out (by decide)))
            have HN9 := Aside0.mk (blk_grown HN1.out hg (Kd.R_ne hr2 HN1.out (by decide)))
            have HG9 := Aside0.mk (blk_grown hgc hg (Kd.R_ne hr2 hgc (by decide)))
            have HD9 := Aside0.mk ((hg.block D (blk_lt HD1.out) (fun he => by
              obtain ⟨cells, hcc9⟩ := Kd.R_typed hr2 D he.symm
              rw [HD1.out] at hcc9
              cases hcc9)).trans HD1.out)
            have HH9 := Aside0.mk (Kd.H_grown (Kd.H_widen hH) hg (fun k hk => .inl (hr2.1 k hk)))
            have HK9 := Aside0.mk (HK1.out.trans ((KeepsOthers.of_grownBy hg (fun j o9 ej hj => by
              obtain ⟨cells, hcc9⟩ := Kd.R_typed hr2 j ej
              rw [hcc9] at hj
              cases hj
              rfl)).from (W.heap.size + 1)))
            have HB9 := Aside0.mk hb
            have HO9 := Aside0.mk ho
            obtain ⟨A9, n9, c9, rfl⟩ := sliceR ho
            have hgne : w.heap.size ≠ g := by intro he; have h1 := HV1.out; rw [he, hgc] at h1; cases h1
            have hkne : W.heap.size ≠ g := by intro he; have h1 := HN1.out; rw [he, hgc] at h1; cases h1
            have hdne : D ≠ g := by intro he; have h1 := HD1.out; rw [he, hgc] at h1; cases h1
            have hcg : w9.cell? ⟨g, x.1.1.toNat * 3 + 2, none⟩ = some v2 := by
              have h1 := (cell_of_blk (HG9.out.trans hgc.symm) (x.1.1.toNat * 3 + 2))
              rw [h1]; exact hcell2
            refine hK.out _ _ ⟨(blk_cell HV9.out 0).trans rfl, hcg⟩ (fun hHeld => ?_)
            clear hK K
            refine norm_ (a' := ?_) ?_ ?_
            rotate_left
            · show Act.put _ (some 45) _ = _
              simp only [Act.put, List.setIfInBounds_toArray, List.set_cons_zero, List.set_cons_succ, i64_w, i32_w]
              rfl
            refine pure_ (i := 10) (N := some 46) (v := ?_) (a' := ?_) #[true, true, true, true, true, true, true, true, true, true, true, false, false] rfl rfl (by kernel_rfl) (fun _ _ _ h => h) (Or.inl ⟨by rfl, ?_⟩) ?_ ?_
            rotate_left
            · intro w'
              go_simp
              with_reducible rfl
            rotate_left
            · simp only [Act.put, List.setIfInBounds_toArray, List.set_cons_zero, List.set_cons_succ, i64_w, i32_w]
              rfl
            refine pure_ (i := 11) (N := some 47) (v := ?_) (a' := ?_) #[true, true, true, true, true, true, true, true, true, true, true, true, false] rfl rfl (by kernel_rfl) (fun _ _ _ h => h) (Or.inl ⟨by rfl, ?_⟩) ?_ ?_
            rotate_left
            · intro w'
              go_simp
              with_reducible rfl
            rotate_left
            · simp only [Act.put, List.setIfInBounds_toArray, List.set_cons_zero, List.set_cons_succ, i64_w, i32_w]
              rfl
            have hfg := blk_frozen HG9.out (x.1.1.toNat * 3 + 2)
            refine last_ (i := 12) (N := none) #[true, true, true, true, true, true, true, true, true, true, true, true, true] rfl rfl (by kernel_rfl) (by decide) (fun K hK => ?_)
            refine skip_ (w1 := ?_) (by rfl) rfl ?_ ?_
            rotate_left
            · go_simp
              rfl
            refine hK.out _ _ ?_
            clear hK K
            refine done_ (by kernel_rfl) ?_
            gi_wp2
            go_roundw
            case rel =>
              refine ⟨i + 1, _, by first | rfl | rw [HW.out], ⟨⟨by omega, by have := HL.out; omega⟩⟩, ⟨(Below.heap_setCell _ _ _ _ hgne).trans HV9.out⟩, ⟨(Below.heap_setCell _ _ _ _ hkne).trans HN9.out⟩, ⟨?_⟩, ⟨(Below.heap_setCell _ _ _ _ hdne).trans HD9.out⟩, ⟨HB9.out.setCell hge _⟩, ⟨HK9.out.trans ((KeepsOthers.setCell _ _ _).from _)⟩⟩
              rw [some2_next x.1 _ i hi0, ← CC.out, step2_on _ _ _ (by have := HKD.out; omega)]
              have h1 := (Kd.S_seg0 HH9.out hkn0 hkn (seg := [.slice A9 n9 c9]) (j := 2) (x' := (⟨((some2 x.1 (tab2 (pre.map Subtype.val)) i.toNat).getD x.1.1.toNat z54).f0, ((some2 x.1 (tab2 (pre.map Subtype.val)) i.toNat).getD x.1.1.toNat z54).f1, ((some2 x.1 (tab2 (pre.map Subtype.val)) i.toNat).getD x.1.1.toNat z54).f2 ++ [kindOf c]⟩ : S54)) (by show 2 + 1 ≤ 3; decide) (k54_mkM _ _ _ (⟨((some2 x.1 (tab2 (pre.map Subtype.val)) i.toNat).getD x.1.1.toNat z54).f0, ((some2 x.1 (tab2 (pre.map Subtype.val)) i.toNat).getD x.1.1.toNat z54).f1, ((some2 x.1 (tab2 (pre.map Subtype.val)) i.toNat).getD x.1.1.toNat z54).f2 ++ [kindOf c]⟩ : S54) HO9.out) (fun _ hk => hk)).1
              exact h1
            case measure => have := HL.out; have := HW.out; simp [intOf, this]; omega
          · have hk0 : decide (0 < kindOf c) = false := decide_eq_false hk
            have HKD := Aside0.mk hk
            clear hk
            gi_wp2_with (gi_at_call 76; refine (CallsIn.inRound l (callsIn_wide.2 HC.out)).mono ?_; rintro e w' ⟨rfl, ⟨nd, rfl⟩⟩)
            go_roundw
            case rel =>
              refine ⟨i + 1, v, by first | rfl | rw [HW.out], ⟨⟨by omega, by have := HL.out; omega⟩⟩, ⟨blk_drewN (blk_alloc HV.out _) _⟩, ⟨blk_drewN (blk_alloc HN.out _) _⟩, ⟨?_⟩, ⟨blk_drewN (blk_alloc HD.out _) _⟩, ⟨pw_below_drewN (below_alloc HB.out _) _⟩, ⟨HK.out.trans (((KeepsOthers.alloc _ _).trans (keep_drewN _ _)).from _)⟩⟩
              rw [some2_next x.1 _ i hi0, ← CC.out, step2_off _ _ _ (by have := HKD.out; omega)]
              exact Kd.S_drewN (Kd.S_alloc HS.out _) _
            case measure => have := HL.out; have := HW.out; simp [intOf, this]; omega
        · have ht0 : decide (i < (x.1.2.size : Int)) = false := decide_eq_false hlt
          have hie : i.toNat = x.1.2.size := by have := HI.out; omega
          gi_wp2
          refine ⟨HK.out, HN.out.trans HN0.out.symm, ⟨v, HV.out, HN.out, ?_⟩, HD.out, HB.out⟩
          have e : tab2 ((pre ++ [x]).map Subtype.val) = some2 x.1 (tab2 (pre.map Subtype.val)) i.toNat := by rw [hie, tab2, List.map_append, List.foldl_append]; rfl
          rw [e]
          exact HS.out
end Go.Proofs.Ytipjpdiianopcaa.Cd
namespace Go.Proofs.Ytipjpdiianopcaa.Cd
open Go.RowKit Go.Proofs.YtipjpdiianopcaaW.PrintWords Go.Proofs.Ytipjpdiianopcaa.A Go.Proofs.Ytipjpdiianopcaa.Cf
/-- The default table. -/
def isa_Default.f : Option (List S54) := some (tab2 (parts kindsStr))
theorem isa_Default.calls (r : List S54) (w : World) (h : isa_Default.f = some r) :
    Calls Try.prog 41 #[] w fun e w' => ∃ v0_ : Value, e = .returned (v0_) ∧ Kd.N k54 54 w' w.heap.size (fun k_ => (w.heap.size ≤ k_)) v0_ r ∧ Below w.heap.size w w' := by
  obtain rfl := Option.some.inj h
  refine (callsIn_wide.1 (default_in w)).mono ?_
  rintro e w' ⟨v, rfl, hS, hB⟩
  exact ⟨v, rfl, Kd.S_N (Kd.S_mono (Kd.S_bound hS) (fun _ hk => hk.2.1)), hB⟩
end Go.Proofs.Ytipjpdiianopcaa.Cd
