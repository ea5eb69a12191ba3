/-
  DERIVED. GIVEN WITH THE SEED: THE CARDS: each row of YtniknpjeknmpjaaGreatDoorRows.lean that lists a variable, with what it lists TIED to the program's text (the seventh form; the later family's looks); each row that meets fmt, with fmt's text TOLD by the authors' own Lean function (tested against real Go, not proved from fmt's source: count such statements apart). THE CARD IS WHAT COUNTS. Prove the row's statement (the work); the ties are given (YtniknpjeknmpjaaGreatDoorTie.lean); close each card by the builder's one call (the guide's Derived/Test/ToyasCard.lean, 'card_holds'). Laid BY PROGRAM, IN A SANDBOX (cutbox-door.mjs). By AI agents, Wed Nov 11 2026. No macro, syntax, notation, axiom, sorry.
-/
import Derived.Test.YtniknpjeknmpjaaGreatDoorRows
import GoSem.ClaimSeven
namespace Go.Proofs.YtniknpjeknmpjaaGreatDoor
namespace Rows

/-- THE TIED CARD OF 'cubbylaw08.TextPrints'. -/
def textPrintsCard : Claim7 := { stood := { row := textPrintsRow, standIns := [], harness := (true, "28e4f1c8989f8f4d08a0e5dcb87c6a5c8c7849d6e3bc898c2b42379bb70cfe4a"), looks := true }, kinds := [], alts := [], laidByText := true, laidKinds := [.data, .data, .data, .data, .sentinel, .sentinel, .pinned], laidTests := true, laidLooks := .later }
def TextPrintsCardSaid : Prop := Claim7.holds Tryz.pinned (.plain (OpenSpec.ofChange textPrintsSpec)) textPrintsCard

/-- THE TIED CARD OF 'cubbylaw08.TextCodes'. -/
def textCodesCard : Claim7 := { stood := { row := textCodesRow, standIns := [], harness := (true, "28e4f1c8989f8f4d08a0e5dcb87c6a5c8c7849d6e3bc898c2b42379bb70cfe4a"), looks := true }, kinds := [], alts := [], laidByText := true, laidKinds := [.data, .data, .data, .data, .sentinel, .sentinel, .pinned], laidTests := true, laidLooks := .later }
def TextCodesCardSaid : Prop := Claim7.holds Tryz.pinned (.plain (OpenSpec.ofChange textCodesSpec)) textCodesCard

/-- THE TIED CARD OF 'cubbylaw08.TextOne'. -/
def textOneCard : Claim7 := { stood := { row := textOneRow, standIns := [], harness := (true, "28e4f1c8989f8f4d08a0e5dcb87c6a5c8c7849d6e3bc898c2b42379bb70cfe4a"), looks := true }, kinds := [], alts := [], laidByText := true, laidKinds := [.data, .data, .data, .data, .sentinel, .sentinel, .pinned], laidTests := true, laidLooks := .later }
def TextOneCardSaid : Prop := Claim7.holds Tryz.pinned (.plain (OpenSpec.ofChange textOneSpec)) textOneCard

/-- THE SECOND FORM's CARD OF 'cubbylaw08.TextPrints'. -/
def textPrintsUptoCard : Claim7 := { stood := { row := textPrintsUptoRow, standIns := [], harness := (true, "28e4f1c8989f8f4d08a0e5dcb87c6a5c8c7849d6e3bc898c2b42379bb70cfe4a"), looks := true }, kinds := [], alts := [], laidByText := true, laidKinds := [.data, .data, .data, .data, .sentinel, .sentinel, .pinned], laidTests := true, laidLooks := .later }
def TextPrintsUptoCardSaid : Prop := Claim7.holds Tryz.pinned (.plain (OpenSpec.upto textPrintsSpec)) textPrintsUptoCard

/-- THE SECOND FORM's CARD OF 'cubbylaw08.TextCodes'. -/
def textCodesUptoCard : Claim7 := { stood := { row := textCodesUptoRow, standIns := [], harness := (true, "28e4f1c8989f8f4d08a0e5dcb87c6a5c8c7849d6e3bc898c2b42379bb70cfe4a"), looks := true }, kinds := [], alts := [], laidByText := true, laidKinds := [.data, .data, .data, .data, .sentinel, .sentinel, .pinned], laidTests := true, laidLooks := .later }
def TextCodesUptoCardSaid : Prop := Claim7.holds Tryz.pinned (.plain (OpenSpec.upto textCodesSpec)) textCodesUptoCard

/-- THE SECOND FORM's CARD OF 'cubbylaw08.TextOne'. -/
def textOneUptoCard : Claim7 := { stood := { row := textOneUptoRow, standIns := [], harness := (true, "28e4f1c8989f8f4d08a0e5dcb87c6a5c8c7849d6e3bc898c2b42379bb70cfe4a"), looks := true }, kinds := [], alts := [], laidByText := true, laidKinds := [.data, .data, .data, .data, .sentinel, .sentinel, .pinned], laidTests := true, laidLooks := .later }
def TextOneUptoCardSaid : Prop := Claim7.holds Tryz.pinned (.plain (OpenSpec.upto textOneSpec)) textOneUptoCard
end Rows
end Go.Proofs.YtniknpjeknmpjaaGreatDoor
