/-
  DERIVED. GIVEN WITH THE SEED: THE CARDS: each row of YtipjpdiianopcaaDoorRows.lean that lists a variable, with what it lists TIED to the program's text (the seventh form; the later family's looks); each row that meets fmt, with fmt's text TOLD by the authors' own Lean function (tested against real Go, not proved from fmt's source: count such statements apart). THE CARD IS WHAT COUNTS. Prove the row's statement (the work); the ties are given (YtipjpdiianopcaaDoorTie.lean); close each card by the builder's one call (the guide's Derived/Test/ToyasCard.lean, 'card_holds'). Laid BY PROGRAM, IN A SANDBOX (cutbox-door.mjs). By AI agents, Wed Nov 11 2026. No macro, syntax, notation, axiom, sorry.
-/
import Derived.Test.YtipjpdiianopcaaDoorRows
import GoSem.ClaimSeven
namespace Go.Proofs.YtipjpdiianopcaaDoor
namespace Rows

/-- THE TIED CARD OF 'linkhouselaw1.TokenSplitMatchesSpec'. -/
def tokenSplitMatchesSpecCard : Claim7 := { stood := { row := tokenSplitMatchesSpecRow, standIns := [], harness := (true, "5092405677f6b79ea35aa8790607c72123ec056dde40a25c048a2410fc4bd5bc"), looks := true }, kinds := [], alts := [], laidByText := true, laidKinds := [.data, .data, .data, .sentinel, .sentinel], laidTests := true, laidLooks := .later }
def TokenSplitMatchesSpecCardSaid : Prop := Claim7.holds Tryd.pinned (.plain (OpenSpec.ofChange tokenSplitMatchesSpecSpec)) tokenSplitMatchesSpecCard

/-- THE TIED CARD OF 'linkhouselaw1.DisasmParts'. -/
def disasmPartsCard : Claim7 := { stood := { row := disasmPartsRow, standIns := [], harness := (true, "5092405677f6b79ea35aa8790607c72123ec056dde40a25c048a2410fc4bd5bc"), looks := true }, kinds := [], alts := [], laidByText := true, laidKinds := [.data, .data, .data, .data, .sentinel, .sentinel, .pinned], laidTests := true, laidLooks := .later }
def DisasmPartsCardSaid : Prop := Claim7.holds Tryd.pinned (.plain (OpenSpec.ofChange disasmPartsSpec)) disasmPartsCard

/-- THE TIED CARD OF 'linkhouselaw1.DisasmListsEncoded'. -/
def disasmListsEncodedCard : Claim7 := { stood := { row := disasmListsEncodedRow, standIns := [], harness := (true, "5092405677f6b79ea35aa8790607c72123ec056dde40a25c048a2410fc4bd5bc"), looks := true }, kinds := [], alts := [], laidByText := true, laidKinds := [.data, .data, .data, .data, .sentinel, .sentinel, .pinned], laidTests := true, laidLooks := .later }
def DisasmListsEncodedCardSaid : Prop := Claim7.holds Tryd.pinned (.plain (OpenSpec.ofChange disasmListsEncodedSpec)) disasmListsEncodedCard

/-- THE SECOND FORM's CARD OF 'linkhouselaw1.TokenSplitMatchesSpec'. -/
def tokenSplitMatchesSpecUptoCard : Claim7 := { stood := { row := tokenSplitMatchesSpecUptoRow, standIns := [], harness := (true, "5092405677f6b79ea35aa8790607c72123ec056dde40a25c048a2410fc4bd5bc"), looks := true }, kinds := [], alts := [], laidByText := true, laidKinds := [.data, .data, .data, .sentinel, .sentinel], laidTests := true, laidLooks := .later }
def TokenSplitMatchesSpecUptoCardSaid : Prop := Claim7.holds Tryd.pinned (.plain (OpenSpec.upto tokenSplitMatchesSpecSpec)) tokenSplitMatchesSpecUptoCard

/-- THE SECOND FORM's CARD OF 'linkhouselaw1.DisasmParts'. -/
def disasmPartsUptoCard : Claim7 := { stood := { row := disasmPartsUptoRow, standIns := [], harness := (true, "5092405677f6b79ea35aa8790607c72123ec056dde40a25c048a2410fc4bd5bc"), looks := true }, kinds := [], alts := [], laidByText := true, laidKinds := [.data, .data, .data, .data, .sentinel, .sentinel, .pinned], laidTests := true, laidLooks := .later }
def DisasmPartsUptoCardSaid : Prop := Claim7.holds Tryd.pinned (.plain (OpenSpec.upto disasmPartsSpec)) disasmPartsUptoCard

/-- THE SECOND FORM's CARD OF 'linkhouselaw1.DisasmListsEncoded'. -/
def disasmListsEncodedUptoCard : Claim7 := { stood := { row := disasmListsEncodedUptoRow, standIns := [], harness := (true, "5092405677f6b79ea35aa8790607c72123ec056dde40a25c048a2410fc4bd5bc"), looks := true }, kinds := [], alts := [], laidByText := true, laidKinds := [.data, .data, .data, .data, .sentinel, .sentinel, .pinned], laidTests := true, laidLooks := .later }
def DisasmListsEncodedUptoCardSaid : Prop := Claim7.holds Tryd.pinned (.plain (OpenSpec.upto disasmListsEncodedSpec)) disasmListsEncodedUptoCard
end Rows
end Go.Proofs.YtipjpdiianopcaaDoor
