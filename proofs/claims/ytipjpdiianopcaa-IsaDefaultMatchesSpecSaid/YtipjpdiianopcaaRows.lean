/-
  No cell of these rows narrows 'for every input' (looked for: loops, veiled, ifaces, maps, wideKeys, modest, calm, conditions, laid).
  DERIVED. THE GIVEN ROWS OF THIS SEAT. 17 by the template 'for every input the law returns true; each argument reads behind the call as it read before'; 0 by the template 'total and deterministic' (their statements: YtipjpdiianopcaaTotals.lean).
  GIVEN WITH THE SEED: the statements are not yours to turn. If you find one false, say at which input.
  Laid BY PROGRAM, IN A SANDBOX (cutbox-rows.mjs): the forced cells as the released guide's own fill.sh prints them over the translation 6bad11b8e5b91379… (all of the seat's roots in one cut). By AI agents, Wed Nov 11 2026. No macro, syntax, notation, axiom, sorry.
-/
import Derived.Test.YtipjpdiianopcaaChecked
import GoSem.Claim
import GoSem.ClaimJoined
import GoSem.ClaimMapViews
import Derived.JoinedTies
import Derived.KernelRfl
namespace Go.Proofs.Ytipjpdiianopcaa
/- THE CELL 'sum', in the pinned program and in every row, IS THE sha256 OF THE DUMP (.gsa) THAT YtipjpdiianopcaaProg.lean LOADS. Nothing in Lean hashes anything: it is a label: what it is worth is what the hold of that sum in a sandbox is worth. -/
noncomputable def Try.pinned : Pinned := { name := "ytipjpdiianopcaa", sum := "6bad11b8e5b913797f9f5ba62822346bc342187440d2ba30d131bdbe0d06157d", checked := Try.checked }
namespace Rows
def none {H : Type} : Left H := { results := [], args := [] }

/-- 'linkhouselaw1.CodecPutMatchesSpec': WHATEVER THE INPUT: true; the input reads as it did. -/
def codecPutMatchesSpecSpec : ChangeSpec := { name := "codecPutMatchesSpec", fn := fun _ => fun
  | [d1, d2] => { results := [.lit (.bool true)], args := [d1, d2] }
  | _ => none }
def codecPutMatchesSpecRow : OpenClaim := { program := "ytipjpdiianopcaa", sum := "6bad11b8e5b913797f9f5ba62822346bc342187440d2ba30d131bdbe0d06157d", func := "linkhouse/linkhouselaw1.CodecPutMatchesSpec", spec := "codecPutMatchesSpec", unfollowed := true, recurses := true, apart := false }
def CodecPutMatchesSpecSaid : Prop := codecPutMatchesSpecRow.holds Try.pinned (OpenSpec.ofChange codecPutMatchesSpecSpec)

/-- ITS FALSE NEIGHBOUR: 'it returns false'. Refute it at one input. -/
def codecPutMatchesSpecWrong : ChangeSpec := { name := "codecPutMatchesSpec", fn := fun _ => fun
  | [d1, d2] => { results := [.lit (.bool false)], args := [d1, d2] }
  | _ => none }
def CodecPutMatchesSpecWrongFalsely : Prop := codecPutMatchesSpecRow.holds Try.pinned (OpenSpec.ofChange codecPutMatchesSpecWrong)

/-- 'linkhouselaw1.CodecGetMatchesSpec': WHATEVER THE INPUT: true; the input reads as it did. -/
def codecGetMatchesSpecSpec : ChangeSpec := { name := "codecGetMatchesSpec", fn := fun _ => fun
  | [d] => { results := [.lit (.bool true)], args := [d] }
  | _ => none }
def codecGetMatchesSpecRow : OpenClaim := { program := "ytipjpdiianopcaa", sum := "6bad11b8e5b913797f9f5ba62822346bc342187440d2ba30d131bdbe0d06157d", func := "linkhouse/linkhouselaw1.CodecGetMatchesSpec", spec := "codecGetMatchesSpec", unfollowed := true, recurses := true, apart := false }
def CodecGetMatchesSpecSaid : Prop := codecGetMatchesSpecRow.holds Try.pinned (OpenSpec.ofChange codecGetMatchesSpecSpec)

/-- ITS FALSE NEIGHBOUR: 'it returns false'. Refute it at one input. -/
def codecGetMatchesSpecWrong : ChangeSpec := { name := "codecGetMatchesSpec", fn := fun _ => fun
  | [d] => { results := [.lit (.bool false)], args := [d] }
  | _ => none }
def CodecGetMatchesSpecWrongFalsely : Prop := codecGetMatchesSpecRow.holds Try.pinned (OpenSpec.ofChange codecGetMatchesSpecWrong)

/-- 'linkhouselaw1.CodecRoundTrip': WHATEVER THE INPUT: true; the input reads as it did. -/
def codecRoundTripSpec : ChangeSpec := { name := "codecRoundTrip", fn := fun _ => fun
  | [d1, d2] => { results := [.lit (.bool true)], args := [d1, d2] }
  | _ => none }
def codecRoundTripRow : OpenClaim := { program := "ytipjpdiianopcaa", sum := "6bad11b8e5b913797f9f5ba62822346bc342187440d2ba30d131bdbe0d06157d", func := "linkhouse/linkhouselaw1.CodecRoundTrip", spec := "codecRoundTrip", unfollowed := true, recurses := true, apart := false }
def CodecRoundTripSaid : Prop := codecRoundTripRow.holds Try.pinned (OpenSpec.ofChange codecRoundTripSpec)

/-- ITS FALSE NEIGHBOUR: 'it returns false'. Refute it at one input. -/
def codecRoundTripWrong : ChangeSpec := { name := "codecRoundTrip", fn := fun _ => fun
  | [d1, d2] => { results := [.lit (.bool false)], args := [d1, d2] }
  | _ => none }
def CodecRoundTripWrongFalsely : Prop := codecRoundTripRow.holds Try.pinned (OpenSpec.ofChange codecRoundTripWrong)

/-- 'linkhouselaw1.CodecTextUnique': WHATEVER THE INPUT: true; the input reads as it did. -/
def codecTextUniqueSpec : ChangeSpec := { name := "codecTextUnique", fn := fun _ => fun
  | [d] => { results := [.lit (.bool true)], args := [d] }
  | _ => none }
def codecTextUniqueRow : OpenClaim := { program := "ytipjpdiianopcaa", sum := "6bad11b8e5b913797f9f5ba62822346bc342187440d2ba30d131bdbe0d06157d", func := "linkhouse/linkhouselaw1.CodecTextUnique", spec := "codecTextUnique", unfollowed := true, recurses := true, apart := false }
def CodecTextUniqueSaid : Prop := codecTextUniqueRow.holds Try.pinned (OpenSpec.ofChange codecTextUniqueSpec)

/-- ITS FALSE NEIGHBOUR: 'it returns false'. Refute it at one input. -/
def codecTextUniqueWrong : ChangeSpec := { name := "codecTextUnique", fn := fun _ => fun
  | [d] => { results := [.lit (.bool false)], args := [d] }
  | _ => none }
def CodecTextUniqueWrongFalsely : Prop := codecTextUniqueRow.holds Try.pinned (OpenSpec.ofChange codecTextUniqueWrong)

/-- 'linkhouselaw1.CodecPrefixFree': WHATEVER THE INPUT: true; the input reads as it did. -/
def codecPrefixFreeSpec : ChangeSpec := { name := "codecPrefixFree", fn := fun _ => fun
  | [d1, d2] => { results := [.lit (.bool true)], args := [d1, d2] }
  | _ => none }
def codecPrefixFreeRow : OpenClaim := { program := "ytipjpdiianopcaa", sum := "6bad11b8e5b913797f9f5ba62822346bc342187440d2ba30d131bdbe0d06157d", func := "linkhouse/linkhouselaw1.CodecPrefixFree", spec := "codecPrefixFree", unfollowed := true, recurses := true, apart := false }
def CodecPrefixFreeSaid : Prop := codecPrefixFreeRow.holds Try.pinned (OpenSpec.ofChange codecPrefixFreeSpec)

/-- ITS FALSE NEIGHBOUR: 'it returns false'. Refute it at one input. -/
def codecPrefixFreeWrong : ChangeSpec := { name := "codecPrefixFree", fn := fun _ => fun
  | [d1, d2] => { results := [.lit (.bool false)], args := [d1, d2] }
  | _ => none }
def CodecPrefixFreeWrongFalsely : Prop := codecPrefixFreeRow.holds Try.pinned (OpenSpec.ofChange codecPrefixFreeWrong)

/-- 'linkhouselaw1.IsaValidateMatchesSpec': WHATEVER THE INPUT: true; the input reads as it did. -/
def isaValidateMatchesSpecSpec : ChangeSpec := { name := "isaValidateMatchesSpec", fn := fun _ => fun
  | [d1, d2] => { results := [.lit (.bool true)], args := [d1, d2] }
  | _ => none }
def isaValidateMatchesSpecRow : OpenClaim := { program := "ytipjpdiianopcaa", sum := "6bad11b8e5b913797f9f5ba62822346bc342187440d2ba30d131bdbe0d06157d", func := "linkhouse/linkhouselaw1.IsaValidateMatchesSpec", spec := "isaValidateMatchesSpec", unfollowed := true, recurses := true, apart := false }
def IsaValidateMatchesSpecSaid : Prop := isaValidateMatchesSpecRow.holds Try.pinned (OpenSpec.ofChange isaValidateMatchesSpecSpec)

/-- ITS FALSE NEIGHBOUR: 'it returns false'. Refute it at one input. -/
def isaValidateMatchesSpecWrong : ChangeSpec := { name := "isaValidateMatchesSpec", fn := fun _ => fun
  | [d1, d2] => { results := [.lit (.bool false)], args := [d1, d2] }
  | _ => none }
def IsaValidateMatchesSpecWrongFalsely : Prop := isaValidateMatchesSpecRow.holds Try.pinned (OpenSpec.ofChange isaValidateMatchesSpecWrong)

/-- 'linkhouselaw1.IsaFindMatchesSpec': WHATEVER THE INPUT: true; the input reads as it did. -/
def isaFindMatchesSpecSpec : ChangeSpec := { name := "isaFindMatchesSpec", fn := fun _ => fun
  | [d1, d2, d3] => { results := [.lit (.bool true)], args := [d1, d2, d3] }
  | _ => none }
def isaFindMatchesSpecRow : OpenClaim := { program := "ytipjpdiianopcaa", sum := "6bad11b8e5b913797f9f5ba62822346bc342187440d2ba30d131bdbe0d06157d", func := "linkhouse/linkhouselaw1.IsaFindMatchesSpec", spec := "isaFindMatchesSpec", unfollowed := true, recurses := true, apart := false }
def IsaFindMatchesSpecSaid : Prop := isaFindMatchesSpecRow.holds Try.pinned (OpenSpec.ofChange isaFindMatchesSpecSpec)

/-- ITS FALSE NEIGHBOUR: 'it returns false'. Refute it at one input. -/
def isaFindMatchesSpecWrong : ChangeSpec := { name := "isaFindMatchesSpec", fn := fun _ => fun
  | [d1, d2, d3] => { results := [.lit (.bool false)], args := [d1, d2, d3] }
  | _ => none }
def IsaFindMatchesSpecWrongFalsely : Prop := isaFindMatchesSpecRow.holds Try.pinned (OpenSpec.ofChange isaFindMatchesSpecWrong)

/-- 'linkhouselaw1.IsaFindsAll': WHATEVER THE INPUT: true; the input reads as it did. -/
def isaFindsAllSpec : ChangeSpec := { name := "isaFindsAll", fn := fun _ => fun
  | [d] => { results := [.lit (.bool true)], args := [d] }
  | _ => none }
def isaFindsAllRow : OpenClaim := { program := "ytipjpdiianopcaa", sum := "6bad11b8e5b913797f9f5ba62822346bc342187440d2ba30d131bdbe0d06157d", func := "linkhouse/linkhouselaw1.IsaFindsAll", spec := "isaFindsAll", unfollowed := true, recurses := true, apart := false }
def IsaFindsAllSaid : Prop := isaFindsAllRow.holds Try.pinned (OpenSpec.ofChange isaFindsAllSpec)

/-- ITS FALSE NEIGHBOUR: 'it returns false'. Refute it at one input. -/
def isaFindsAllWrong : ChangeSpec := { name := "isaFindsAll", fn := fun _ => fun
  | [d] => { results := [.lit (.bool false)], args := [d] }
  | _ => none }
def IsaFindsAllWrongFalsely : Prop := isaFindsAllRow.holds Try.pinned (OpenSpec.ofChange isaFindsAllWrong)

/-- 'linkhouselaw1.IsaOrderIrrelevant': WHATEVER THE INPUT: true; the input reads as it did. -/
def isaOrderIrrelevantSpec : ChangeSpec := { name := "isaOrderIrrelevant", fn := fun _ => fun
  | [d] => { results := [.lit (.bool true)], args := [d] }
  | _ => none }
def isaOrderIrrelevantRow : OpenClaim := { program := "ytipjpdiianopcaa", sum := "6bad11b8e5b913797f9f5ba62822346bc342187440d2ba30d131bdbe0d06157d", func := "linkhouse/linkhouselaw1.IsaOrderIrrelevant", spec := "isaOrderIrrelevant", unfollowed := true, recurses := true, apart := false }
def IsaOrderIrrelevantSaid : Prop := isaOrderIrrelevantRow.holds Try.pinned (OpenSpec.ofChange isaOrderIrrelevantSpec)

/-- ITS FALSE NEIGHBOUR: 'it returns false'. Refute it at one input. -/
def isaOrderIrrelevantWrong : ChangeSpec := { name := "isaOrderIrrelevant", fn := fun _ => fun
  | [d] => { results := [.lit (.bool false)], args := [d] }
  | _ => none }
def IsaOrderIrrelevantWrongFalsely : Prop := isaOrderIrrelevantRow.holds Try.pinned (OpenSpec.ofChange isaOrderIrrelevantWrong)

/-- 'linkhouselaw1.IsaDefaultMatchesSpec': WHATEVER THE INPUT: true; the input reads as it did. -/
def isaDefaultMatchesSpecSpec : ChangeSpec := { name := "isaDefaultMatchesSpec", fn := fun _ => fun
  | [d] => { results := [.lit (.bool true)], args := [d] }
  | _ => none }
def isaDefaultMatchesSpecRow : OpenClaim := { program := "ytipjpdiianopcaa", sum := "6bad11b8e5b913797f9f5ba62822346bc342187440d2ba30d131bdbe0d06157d", func := "linkhouse/linkhouselaw1.IsaDefaultMatchesSpec", spec := "isaDefaultMatchesSpec", unfollowed := true, recurses := true, apart := false }
def IsaDefaultMatchesSpecSaid : Prop := isaDefaultMatchesSpecRow.holds Try.pinned (OpenSpec.ofChange isaDefaultMatchesSpecSpec)

/-- ITS FALSE NEIGHBOUR: 'it returns false'. Refute it at one input. -/
def isaDefaultMatchesSpecWrong : ChangeSpec := { name := "isaDefaultMatchesSpec", fn := fun _ => fun
  | [d] => { results := [.lit (.bool false)], args := [d] }
  | _ => none }
def IsaDefaultMatchesSpecWrongFalsely : Prop := isaDefaultMatchesSpecRow.holds Try.pinned (OpenSpec.ofChange isaDefaultMatchesSpecWrong)

/-- 'linkhouselaw1.EncodeMatchesSpec': WHATEVER THE INPUT: true; the input reads as it did. -/
def encodeMatchesSpecSpec : ChangeSpec := { name := "encodeMatchesSpec", fn := fun _ => fun
  | [d1, d2] => { results := [.lit (.bool true)], args := [d1, d2] }
  | _ => none }
def encodeMatchesSpecRow : OpenClaim := { program := "ytipjpdiianopcaa", sum := "6bad11b8e5b913797f9f5ba62822346bc342187440d2ba30d131bdbe0d06157d", func := "linkhouse/linkhouselaw1.EncodeMatchesSpec", spec := "encodeMatchesSpec", unfollowed := true, recurses := true, apart := false }
def EncodeMatchesSpecSaid : Prop := encodeMatchesSpecRow.holds Try.pinned (OpenSpec.ofChange encodeMatchesSpecSpec)

/-- ITS FALSE NEIGHBOUR: 'it returns false'. Refute it at one input. -/
def encodeMatchesSpecWrong : ChangeSpec := { name := "encodeMatchesSpec", fn := fun _ => fun
  | [d1, d2] => { results := [.lit (.bool false)], args := [d1, d2] }
  | _ => none }
def EncodeMatchesSpecWrongFalsely : Prop := encodeMatchesSpecRow.holds Try.pinned (OpenSpec.ofChange encodeMatchesSpecWrong)

/-- 'linkhouselaw1.DecodeMatchesSpec': WHATEVER THE INPUT: true; the input reads as it did. -/
def decodeMatchesSpecSpec : ChangeSpec := { name := "decodeMatchesSpec", fn := fun _ => fun
  | [d1, d2, d3] => { results := [.lit (.bool true)], args := [d1, d2, d3] }
  | _ => none }
def decodeMatchesSpecRow : OpenClaim := { program := "ytipjpdiianopcaa", sum := "6bad11b8e5b913797f9f5ba62822346bc342187440d2ba30d131bdbe0d06157d", func := "linkhouse/linkhouselaw1.DecodeMatchesSpec", spec := "decodeMatchesSpec", unfollowed := true, recurses := true, apart := false }
def DecodeMatchesSpecSaid : Prop := decodeMatchesSpecRow.holds Try.pinned (OpenSpec.ofChange decodeMatchesSpecSpec)

/-- ITS FALSE NEIGHBOUR: 'it returns false'. Refute it at one input. -/
def decodeMatchesSpecWrong : ChangeSpec := { name := "decodeMatchesSpec", fn := fun _ => fun
  | [d1, d2, d3] => { results := [.lit (.bool false)], args := [d1, d2, d3] }
  | _ => none }
def DecodeMatchesSpecWrongFalsely : Prop := decodeMatchesSpecRow.holds Try.pinned (OpenSpec.ofChange decodeMatchesSpecWrong)

/-- 'linkhouselaw1.PatchMatchesSpec': WHATEVER THE INPUT: true; the input reads as it did. -/
def patchMatchesSpecSpec : ChangeSpec := { name := "patchMatchesSpec", fn := fun _ => fun
  | [d1, d2, d3, d4, d5] => { results := [.lit (.bool true)], args := [d1, d2, d3, d4, d5] }
  | _ => none }
def patchMatchesSpecRow : OpenClaim := { program := "ytipjpdiianopcaa", sum := "6bad11b8e5b913797f9f5ba62822346bc342187440d2ba30d131bdbe0d06157d", func := "linkhouse/linkhouselaw1.PatchMatchesSpec", spec := "patchMatchesSpec", unfollowed := true, recurses := true, apart := false }
def PatchMatchesSpecSaid : Prop := patchMatchesSpecRow.holds Try.pinned (OpenSpec.ofChange patchMatchesSpecSpec)

/-- ITS FALSE NEIGHBOUR: 'it returns false'. Refute it at one input. -/
def patchMatchesSpecWrong : ChangeSpec := { name := "patchMatchesSpec", fn := fun _ => fun
  | [d1, d2, d3, d4, d5] => { results := [.lit (.bool false)], args := [d1, d2, d3, d4, d5] }
  | _ => none }
def PatchMatchesSpecWrongFalsely : Prop := patchMatchesSpecRow.holds Try.pinned (OpenSpec.ofChange patchMatchesSpecWrong)

/-- 'linkhouselaw1.EncodeRoundTrip': WHATEVER THE INPUT: true; the input reads as it did. -/
def encodeRoundTripSpec : ChangeSpec := { name := "encodeRoundTrip", fn := fun _ => fun
  | [d1, d2, d3, d4] => { results := [.lit (.bool true)], args := [d1, d2, d3, d4] }
  | _ => none }
def encodeRoundTripRow : OpenClaim := { program := "ytipjpdiianopcaa", sum := "6bad11b8e5b913797f9f5ba62822346bc342187440d2ba30d131bdbe0d06157d", func := "linkhouse/linkhouselaw1.EncodeRoundTrip", spec := "encodeRoundTrip", unfollowed := true, recurses := true, apart := false }
def EncodeRoundTripSaid : Prop := encodeRoundTripRow.holds Try.pinned (OpenSpec.ofChange encodeRoundTripSpec)

/-- ITS FALSE NEIGHBOUR: 'it returns false'. Refute it at one input. -/
def encodeRoundTripWrong : ChangeSpec := { name := "encodeRoundTrip", fn := fun _ => fun
  | [d1, d2, d3, d4] => { results := [.lit (.bool false)], args := [d1, d2, d3, d4] }
  | _ => none }
def EncodeRoundTripWrongFalsely : Prop := encodeRoundTripRow.holds Try.pinned (OpenSpec.ofChange encodeRoundTripWrong)

/-- 'linkhouselaw1.PatchRestores': WHATEVER THE INPUT: true; the input reads as it did. -/
def patchRestoresSpec : ChangeSpec := { name := "patchRestores", fn := fun _ => fun
  | [d1, d2, d3, d4, d5, d6] => { results := [.lit (.bool true)], args := [d1, d2, d3, d4, d5, d6] }
  | _ => none }
def patchRestoresRow : OpenClaim := { program := "ytipjpdiianopcaa", sum := "6bad11b8e5b913797f9f5ba62822346bc342187440d2ba30d131bdbe0d06157d", func := "linkhouse/linkhouselaw1.PatchRestores", spec := "patchRestores", unfollowed := true, recurses := true, apart := false }
def PatchRestoresSaid : Prop := patchRestoresRow.holds Try.pinned (OpenSpec.ofChange patchRestoresSpec)

/-- ITS FALSE NEIGHBOUR: 'it returns false'. Refute it at one input. -/
def patchRestoresWrong : ChangeSpec := { name := "patchRestores", fn := fun _ => fun
  | [d1, d2, d3, d4, d5, d6] => { results := [.lit (.bool false)], args := [d1, d2, d3, d4, d5, d6] }
  | _ => none }
def PatchRestoresWrongFalsely : Prop := patchRestoresRow.holds Try.pinned (OpenSpec.ofChange patchRestoresWrong)

/-- 'linkhouselaw1.EncodeInjective': WHATEVER THE INPUT: true; the input reads as it did. -/
def encodeInjectiveSpec : ChangeSpec := { name := "encodeInjective", fn := fun _ => fun
  | [d1, d2, d3] => { results := [.lit (.bool true)], args := [d1, d2, d3] }
  | _ => none }
def encodeInjectiveRow : OpenClaim := { program := "ytipjpdiianopcaa", sum := "6bad11b8e5b913797f9f5ba62822346bc342187440d2ba30d131bdbe0d06157d", func := "linkhouse/linkhouselaw1.EncodeInjective", spec := "encodeInjective", unfollowed := true, recurses := true, apart := false }
def EncodeInjectiveSaid : Prop := encodeInjectiveRow.holds Try.pinned (OpenSpec.ofChange encodeInjectiveSpec)

/-- ITS FALSE NEIGHBOUR: 'it returns false'. Refute it at one input. -/
def encodeInjectiveWrong : ChangeSpec := { name := "encodeInjective", fn := fun _ => fun
  | [d1, d2, d3] => { results := [.lit (.bool false)], args := [d1, d2, d3] }
  | _ => none }
def EncodeInjectiveWrongFalsely : Prop := encodeInjectiveRow.holds Try.pinned (OpenSpec.ofChange encodeInjectiveWrong)

/-- 'linkhouselaw1.DecodeUnique': WHATEVER THE INPUT: true; the input reads as it did. -/
def decodeUniqueSpec : ChangeSpec := { name := "decodeUnique", fn := fun _ => fun
  | [d1, d2, d3] => { results := [.lit (.bool true)], args := [d1, d2, d3] }
  | _ => none }
def decodeUniqueRow : OpenClaim := { program := "ytipjpdiianopcaa", sum := "6bad11b8e5b913797f9f5ba62822346bc342187440d2ba30d131bdbe0d06157d", func := "linkhouse/linkhouselaw1.DecodeUnique", spec := "decodeUnique", unfollowed := true, recurses := true, apart := false }
def DecodeUniqueSaid : Prop := decodeUniqueRow.holds Try.pinned (OpenSpec.ofChange decodeUniqueSpec)

/-- ITS FALSE NEIGHBOUR: 'it returns false'. Refute it at one input. -/
def decodeUniqueWrong : ChangeSpec := { name := "decodeUnique", fn := fun _ => fun
  | [d1, d2, d3] => { results := [.lit (.bool false)], args := [d1, d2, d3] }
  | _ => none }
def DecodeUniqueWrongFalsely : Prop := decodeUniqueRow.holds Try.pinned (OpenSpec.ofChange decodeUniqueWrong)

/- THE SECOND FORM. 'bulk': how many values and letters a reading holds, each counted each time it is reached (what is shared counts as often as it is met; a slice's spare places count too). A statement '..UptoSaid' is the law's where the arguments, and the package variables that the reading takes, are together of bulk at most 1048576: NARROWER than '..Said'. Prove '..Said' where nothing that the law and all that it calls make is longer than what came in: it says more and counts as full. Else prove '..UptoSaid'. A law counts once. -/
mutual
def uptoBulk {H : Type} : DataW H → Nat
  | .lit (.string bytes) => bytes.length + 1
  | .lit _ => 1
  | .nil => 1
  | .ptr d => uptoBulk d + 1
  | .slice elems spare => uptoBulkAll elems + uptoBulkAll spare + 1
  | .agg parts => uptoBulkAll parts + 1
  | .iface _ d => uptoBulk d + 1
  | .map entries => uptoBulkEntries entries + 1
  | .held _ => 1
def uptoBulkAll {H : Type} : List (DataW H) → Nat
  | [] => 0
  | d :: r => uptoBulk d + uptoBulkAll r
def uptoBulkEntries {H : Type} : List (Lit × DataW H) → Nat
  | [] => 0
  | x :: r => uptoBulkEntry x + uptoBulkEntries r
def uptoBulkEntry {H : Type} : Lit × DataW H → Nat
  | (.string bytes, d) => bytes.length + uptoBulk d + 1
  | (_, d) => uptoBulk d + 1
 end
def uptoSmall : (H : Type) → List (DataW H) → Bool := fun _ ds => decide (uptoBulkAll ds ≤ 1048576)
def OpenSpec.upto (s : _root_.Go.ChangeSpec) : _root_.Go.OpenSpec := { _root_.Go.OpenSpec.ofChange s with cond := some uptoSmall }

/-- 'linkhouselaw1.CodecPutMatchesSpec', WHERE WHAT IT READS IS OF BULK AT MOST 1048576: true; the input reads as it did. -/
def codecPutMatchesSpecUptoRow : OpenClaim := { program := "ytipjpdiianopcaa", sum := "6bad11b8e5b913797f9f5ba62822346bc342187440d2ba30d131bdbe0d06157d", func := "linkhouse/linkhouselaw1.CodecPutMatchesSpec", spec := "codecPutMatchesSpec", unfollowed := true, recurses := true, apart := false, narrowed := true }
def CodecPutMatchesSpecUptoSaid : Prop := codecPutMatchesSpecUptoRow.holds Try.pinned (OpenSpec.upto codecPutMatchesSpecSpec)

/-- 'linkhouselaw1.CodecGetMatchesSpec', WHERE WHAT IT READS IS OF BULK AT MOST 1048576: true; the input reads as it did. -/
def codecGetMatchesSpecUptoRow : OpenClaim := { program := "ytipjpdiianopcaa", sum := "6bad11b8e5b913797f9f5ba62822346bc342187440d2ba30d131bdbe0d06157d", func := "linkhouse/linkhouselaw1.CodecGetMatchesSpec", spec := "codecGetMatchesSpec", unfollowed := true, recurses := true, apart := false, narrowed := true }
def CodecGetMatchesSpecUptoSaid : Prop := codecGetMatchesSpecUptoRow.holds Try.pinned (OpenSpec.upto codecGetMatchesSpecSpec)

/-- 'linkhouselaw1.CodecRoundTrip', WHERE WHAT IT READS IS OF BULK AT MOST 1048576: true; the input reads as it did. -/
def codecRoundTripUptoRow : OpenClaim := { program := "ytipjpdiianopcaa", sum := "6bad11b8e5b913797f9f5ba62822346bc342187440d2ba30d131bdbe0d06157d", func := "linkhouse/linkhouselaw1.CodecRoundTrip", spec := "codecRoundTrip", unfollowed := true, recurses := true, apart := false, narrowed := true }
def CodecRoundTripUptoSaid : Prop := codecRoundTripUptoRow.holds Try.pinned (OpenSpec.upto codecRoundTripSpec)

/-- 'linkhouselaw1.CodecTextUnique', WHERE WHAT IT READS IS OF BULK AT MOST 1048576: true; the input reads as it did. -/
def codecTextUniqueUptoRow : OpenClaim := { program := "ytipjpdiianopcaa", sum := "6bad11b8e5b913797f9f5ba62822346bc342187440d2ba30d131bdbe0d06157d", func := "linkhouse/linkhouselaw1.CodecTextUnique", spec := "codecTextUnique", unfollowed := true, recurses := true, apart := false, narrowed := true }
def CodecTextUniqueUptoSaid : Prop := codecTextUniqueUptoRow.holds Try.pinned (OpenSpec.upto codecTextUniqueSpec)

/-- 'linkhouselaw1.CodecPrefixFree', WHERE WHAT IT READS IS OF BULK AT MOST 1048576: true; the input reads as it did. -/
def codecPrefixFreeUptoRow : OpenClaim := { program := "ytipjpdiianopcaa", sum := "6bad11b8e5b913797f9f5ba62822346bc342187440d2ba30d131bdbe0d06157d", func := "linkhouse/linkhouselaw1.CodecPrefixFree", spec := "codecPrefixFree", unfollowed := true, recurses := true, apart := false, narrowed := true }
def CodecPrefixFreeUptoSaid : Prop := codecPrefixFreeUptoRow.holds Try.pinned (OpenSpec.upto codecPrefixFreeSpec)

/-- 'linkhouselaw1.IsaValidateMatchesSpec', WHERE WHAT IT READS IS OF BULK AT MOST 1048576: true; the input reads as it did. -/
def isaValidateMatchesSpecUptoRow : OpenClaim := { program := "ytipjpdiianopcaa", sum := "6bad11b8e5b913797f9f5ba62822346bc342187440d2ba30d131bdbe0d06157d", func := "linkhouse/linkhouselaw1.IsaValidateMatchesSpec", spec := "isaValidateMatchesSpec", unfollowed := true, recurses := true, apart := false, narrowed := true }
def IsaValidateMatchesSpecUptoSaid : Prop := isaValidateMatchesSpecUptoRow.holds Try.pinned (OpenSpec.upto isaValidateMatchesSpecSpec)

/-- 'linkhouselaw1.IsaFindMatchesSpec', WHERE WHAT IT READS IS OF BULK AT MOST 1048576: true; the input reads as it did. -/
def isaFindMatchesSpecUptoRow : OpenClaim := { program := "ytipjpdiianopcaa", sum := "6bad11b8e5b913797f9f5ba62822346bc342187440d2ba30d131bdbe0d06157d", func := "linkhouse/linkhouselaw1.IsaFindMatchesSpec", spec := "isaFindMatchesSpec", unfollowed := true, recurses := true, apart := false, narrowed := true }
def IsaFindMatchesSpecUptoSaid : Prop := isaFindMatchesSpecUptoRow.holds Try.pinned (OpenSpec.upto isaFindMatchesSpecSpec)

/-- 'linkhouselaw1.IsaFindsAll', WHERE WHAT IT READS IS OF BULK AT MOST 1048576: true; the input reads as it did. -/
def isaFindsAllUptoRow : OpenClaim := { program := "ytipjpdiianopcaa", sum := "6bad11b8e5b913797f9f5ba62822346bc342187440d2ba30d131bdbe0d06157d", func := "linkhouse/linkhouselaw1.IsaFindsAll", spec := "isaFindsAll", unfollowed := true, recurses := true, apart := false, narrowed := true }
def IsaFindsAllUptoSaid : Prop := isaFindsAllUptoRow.holds Try.pinned (OpenSpec.upto isaFindsAllSpec)

/-- 'linkhouselaw1.IsaOrderIrrelevant', WHERE WHAT IT READS IS OF BULK AT MOST 1048576: true; the input reads as it did. -/
def isaOrderIrrelevantUptoRow : OpenClaim := { program := "ytipjpdiianopcaa", sum := "6bad11b8e5b913797f9f5ba62822346bc342187440d2ba30d131bdbe0d06157d", func := "linkhouse/linkhouselaw1.IsaOrderIrrelevant", spec := "isaOrderIrrelevant", unfollowed := true, recurses := true, apart := false, narrowed := true }
def IsaOrderIrrelevantUptoSaid : Prop := isaOrderIrrelevantUptoRow.holds Try.pinned (OpenSpec.upto isaOrderIrrelevantSpec)

/-- 'linkhouselaw1.IsaDefaultMatchesSpec', WHERE WHAT IT READS IS OF BULK AT MOST 1048576: true; the input reads as it did. -/
def isaDefaultMatchesSpecUptoRow : OpenClaim := { program := "ytipjpdiianopcaa", sum := "6bad11b8e5b913797f9f5ba62822346bc342187440d2ba30d131bdbe0d06157d", func := "linkhouse/linkhouselaw1.IsaDefaultMatchesSpec", spec := "isaDefaultMatchesSpec", unfollowed := true, recurses := true, apart := false, narrowed := true }
def IsaDefaultMatchesSpecUptoSaid : Prop := isaDefaultMatchesSpecUptoRow.holds Try.pinned (OpenSpec.upto isaDefaultMatchesSpecSpec)

/-- 'linkhouselaw1.EncodeMatchesSpec', WHERE WHAT IT READS IS OF BULK AT MOST 1048576: true; the input reads as it did. -/
def encodeMatchesSpecUptoRow : OpenClaim := { program := "ytipjpdiianopcaa", sum := "6bad11b8e5b913797f9f5ba62822346bc342187440d2ba30d131bdbe0d06157d", func := "linkhouse/linkhouselaw1.EncodeMatchesSpec", spec := "encodeMatchesSpec", unfollowed := true, recurses := true, apart := false, narrowed := true }
def EncodeMatchesSpecUptoSaid : Prop := encodeMatchesSpecUptoRow.holds Try.pinned (OpenSpec.upto encodeMatchesSpecSpec)

/-- 'linkhouselaw1.DecodeMatchesSpec', WHERE WHAT IT READS IS OF BULK AT MOST 1048576: true; the input reads as it did. -/
def decodeMatchesSpecUptoRow : OpenClaim := { program := "ytipjpdiianopcaa", sum := "6bad11b8e5b913797f9f5ba62822346bc342187440d2ba30d131bdbe0d06157d", func := "linkhouse/linkhouselaw1.DecodeMatchesSpec", spec := "decodeMatchesSpec", unfollowed := true, recurses := true, apart := false, narrowed := true }
def DecodeMatchesSpecUptoSaid : Prop := decodeMatchesSpecUptoRow.holds Try.pinned (OpenSpec.upto decodeMatchesSpecSpec)

/-- 'linkhouselaw1.PatchMatchesSpec', WHERE WHAT IT READS IS OF BULK AT MOST 1048576: true; the input reads as it did. -/
def patchMatchesSpecUptoRow : OpenClaim := { program := "ytipjpdiianopcaa", sum := "6bad11b8e5b913797f9f5ba62822346bc342187440d2ba30d131bdbe0d06157d", func := "linkhouse/linkhouselaw1.PatchMatchesSpec", spec := "patchMatchesSpec", unfollowed := true, recurses := true, apart := false, narrowed := true }
def PatchMatchesSpecUptoSaid : Prop := patchMatchesSpecUptoRow.holds Try.pinned (OpenSpec.upto patchMatchesSpecSpec)

/-- 'linkhouselaw1.EncodeRoundTrip', WHERE WHAT IT READS IS OF BULK AT MOST 1048576: true; the input reads as it did. -/
def encodeRoundTripUptoRow : OpenClaim := { program := "ytipjpdiianopcaa", sum := "6bad11b8e5b913797f9f5ba62822346bc342187440d2ba30d131bdbe0d06157d", func := "linkhouse/linkhouselaw1.EncodeRoundTrip", spec := "encodeRoundTrip", unfollowed := true, recurses := true, apart := false, narrowed := true }
def EncodeRoundTripUptoSaid : Prop := encodeRoundTripUptoRow.holds Try.pinned (OpenSpec.upto encodeRoundTripSpec)

/-- 'linkhouselaw1.PatchRestores', WHERE WHAT IT READS IS OF BULK AT MOST 1048576: true; the input reads as it did. -/
def patchRestoresUptoRow : OpenClaim := { program := "ytipjpdiianopcaa", sum := "6bad11b8e5b913797f9f5ba62822346bc342187440d2ba30d131bdbe0d06157d", func := "linkhouse/linkhouselaw1.PatchRestores", spec := "patchRestores", unfollowed := true, recurses := true, apart := false, narrowed := true }
def PatchRestoresUptoSaid : Prop := patchRestoresUptoRow.holds Try.pinned (OpenSpec.upto patchRestoresSpec)

/-- 'linkhouselaw1.EncodeInjective', WHERE WHAT IT READS IS OF BULK AT MOST 1048576: true; the input reads as it did. -/
def encodeInjectiveUptoRow : OpenClaim := { program := "ytipjpdiianopcaa", sum := "6bad11b8e5b913797f9f5ba62822346bc342187440d2ba30d131bdbe0d06157d", func := "linkhouse/linkhouselaw1.EncodeInjective", spec := "encodeInjective", unfollowed := true, recurses := true, apart := false, narrowed := true }
def EncodeInjectiveUptoSaid : Prop := encodeInjectiveUptoRow.holds Try.pinned (OpenSpec.upto encodeInjectiveSpec)

/-- 'linkhouselaw1.DecodeUnique', WHERE WHAT IT READS IS OF BULK AT MOST 1048576: true; the input reads as it did. -/
def decodeUniqueUptoRow : OpenClaim := { program := "ytipjpdiianopcaa", sum := "6bad11b8e5b913797f9f5ba62822346bc342187440d2ba30d131bdbe0d06157d", func := "linkhouse/linkhouselaw1.DecodeUnique", spec := "decodeUnique", unfollowed := true, recurses := true, apart := false, narrowed := true }
def DecodeUniqueUptoSaid : Prop := decodeUniqueUptoRow.holds Try.pinned (OpenSpec.upto decodeUniqueSpec)

end Rows
end Go.Proofs.Ytipjpdiianopcaa
