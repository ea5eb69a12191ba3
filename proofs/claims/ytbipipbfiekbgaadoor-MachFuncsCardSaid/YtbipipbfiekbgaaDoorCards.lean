/-
  DERIVED. GIVEN WITH THE SEED: THE CARDS: each row of YtbipipbfiekbgaaDoorRows.lean that lists a variable, with what it lists TIED to the program's text (the seventh form; the later family's looks); each row that meets fmt, with fmt's text TOLD by the authors' own Lean function (tested against real Go, not proved from fmt's source: count such statements apart). THE CARD IS WHAT COUNTS. Prove the row's statement (the work); the ties are given (YtbipipbfiekbgaaDoorTie.lean); close each card by the builder's one call (the guide's Derived/Test/ToyasCard.lean, 'card_holds'). Laid BY PROGRAM, IN A SANDBOX (cutbox-door.mjs). By AI agents, Wed Nov 11 2026. No macro, syntax, notation, axiom, sorry.
-/
import Derived.Test.YtbipipbfiekbgaaDoorRows
import GoSem.ClaimSeven
namespace Go.Proofs.YtbipipbfiekbgaaDoor
namespace Rows

/-- THE TIED CARD OF 'cubbylaw13.MachSpoilt'. -/
def machSpoiltCard : Claim7 := { stood := { row := machSpoiltRow, standIns := [], harness := (true, "7889617ded53a28f892f28d3e15667b0d3e13ee5e7faa765c2980480acbb3870"), looks := false }, kinds := [], alts := [], laidByText := true, laidKinds := [.data, .data, .pinned], laidTests := true, laidLooks := .later }
def MachSpoiltCardSaid : Prop := Claim7.holds Tryd.pinned (.plain (OpenSpec.ofChange machSpoiltSpec)) machSpoiltCard

/-- THE TIED CARD OF 'cubbylaw13.MachChecks'. -/
def machChecksCard : Claim7 := { stood := { row := machChecksRow, standIns := [], harness := (true, "7889617ded53a28f892f28d3e15667b0d3e13ee5e7faa765c2980480acbb3870"), looks := false }, kinds := [], alts := [], laidByText := true, laidKinds := [.data, .data, .pinned], laidTests := true, laidLooks := .later }
def MachChecksCardSaid : Prop := Claim7.holds Tryd.pinned (.plain (OpenSpec.ofChange machChecksSpec)) machChecksCard

/-- THE TIED CARD OF 'cubbylaw13.MachFuncs'. -/
def machFuncsCard : Claim7 := { stood := { row := machFuncsRow, standIns := [], harness := (true, "7889617ded53a28f892f28d3e15667b0d3e13ee5e7faa765c2980480acbb3870"), looks := false }, kinds := [], alts := [], laidByText := true, laidKinds := [.data, .data, .pinned], laidTests := true, laidLooks := .later }
def MachFuncsCardSaid : Prop := Claim7.holds Tryd.pinned (.plain (OpenSpec.ofChange machFuncsSpec)) machFuncsCard

/-- THE TIED CARD OF 'cubbylaw21.AskNames'. -/
def askNamesCard : Claim7 := { stood := { row := askNamesRow, standIns := [], harness := (true, "7889617ded53a28f892f28d3e15667b0d3e13ee5e7faa765c2980480acbb3870"), looks := false }, kinds := [], alts := [], laidByText := true, laidKinds := [.data, .pinned], laidTests := true, laidLooks := .later }
def AskNamesCardSaid : Prop := Claim7.holds Tryd.pinned (.plain (OpenSpec.ofChange askNamesSpec)) askNamesCard

/-- THE TIED CARD OF 'cubbylaw21.AskParses'. -/
def askParsesCard : Claim7 := { stood := { row := askParsesRow, standIns := [], harness := (true, "7889617ded53a28f892f28d3e15667b0d3e13ee5e7faa765c2980480acbb3870"), looks := false }, kinds := [], alts := [], laidByText := true, laidKinds := [.data, .pinned], laidTests := true, laidLooks := .later }
def AskParsesCardSaid : Prop := Claim7.holds Tryd.pinned (.plain (OpenSpec.ofChange askParsesSpec)) askParsesCard

/-- THE TIED CARD OF 'cubbylaw07.IrSpoilt'. -/
def irSpoiltCard : Claim7 := { stood := { row := irSpoiltRow, standIns := [], harness := (true, "7889617ded53a28f892f28d3e15667b0d3e13ee5e7faa765c2980480acbb3870"), looks := false }, kinds := [], alts := [], laidByText := true, laidKinds := [.data, .data, .pinned], laidTests := true, laidLooks := .later }
def IrSpoiltCardSaid : Prop := Claim7.holds Tryd.pinned (.plain (OpenSpec.ofChange irSpoiltSpec)) irSpoiltCard

/-- THE SECOND FORM's CARD OF 'cubbylaw13.MachSpoilt'. -/
def machSpoiltUptoCard : Claim7 := { stood := { row := machSpoiltUptoRow, standIns := [], harness := (true, "7889617ded53a28f892f28d3e15667b0d3e13ee5e7faa765c2980480acbb3870"), looks := false }, kinds := [], alts := [], laidByText := true, laidKinds := [.data, .data, .pinned], laidTests := true, laidLooks := .later }
def MachSpoiltUptoCardSaid : Prop := Claim7.holds Tryd.pinned (.plain (OpenSpec.upto machSpoiltSpec)) machSpoiltUptoCard

/-- THE SECOND FORM's CARD OF 'cubbylaw13.MachChecks'. -/
def machChecksUptoCard : Claim7 := { stood := { row := machChecksUptoRow, standIns := [], harness := (true, "7889617ded53a28f892f28d3e15667b0d3e13ee5e7faa765c2980480acbb3870"), looks := false }, kinds := [], alts := [], laidByText := true, laidKinds := [.data, .data, .pinned], laidTests := true, laidLooks := .later }
def MachChecksUptoCardSaid : Prop := Claim7.holds Tryd.pinned (.plain (OpenSpec.upto machChecksSpec)) machChecksUptoCard

/-- THE SECOND FORM's CARD OF 'cubbylaw13.MachFuncs'. -/
def machFuncsUptoCard : Claim7 := { stood := { row := machFuncsUptoRow, standIns := [], harness := (true, "7889617ded53a28f892f28d3e15667b0d3e13ee5e7faa765c2980480acbb3870"), looks := false }, kinds := [], alts := [], laidByText := true, laidKinds := [.data, .data, .pinned], laidTests := true, laidLooks := .later }
def MachFuncsUptoCardSaid : Prop := Claim7.holds Tryd.pinned (.plain (OpenSpec.upto machFuncsSpec)) machFuncsUptoCard

/-- THE SECOND FORM's CARD OF 'cubbylaw21.AskNames'. -/
def askNamesUptoCard : Claim7 := { stood := { row := askNamesUptoRow, standIns := [], harness := (true, "7889617ded53a28f892f28d3e15667b0d3e13ee5e7faa765c2980480acbb3870"), looks := false }, kinds := [], alts := [], laidByText := true, laidKinds := [.data, .pinned], laidTests := true, laidLooks := .later }
def AskNamesUptoCardSaid : Prop := Claim7.holds Tryd.pinned (.plain (OpenSpec.upto askNamesSpec)) askNamesUptoCard

/-- THE SECOND FORM's CARD OF 'cubbylaw21.AskParses'. -/
def askParsesUptoCard : Claim7 := { stood := { row := askParsesUptoRow, standIns := [], harness := (true, "7889617ded53a28f892f28d3e15667b0d3e13ee5e7faa765c2980480acbb3870"), looks := false }, kinds := [], alts := [], laidByText := true, laidKinds := [.data, .pinned], laidTests := true, laidLooks := .later }
def AskParsesUptoCardSaid : Prop := Claim7.holds Tryd.pinned (.plain (OpenSpec.upto askParsesSpec)) askParsesUptoCard

/-- THE SECOND FORM's CARD OF 'cubbylaw07.IrSpoilt'. -/
def irSpoiltUptoCard : Claim7 := { stood := { row := irSpoiltUptoRow, standIns := [], harness := (true, "7889617ded53a28f892f28d3e15667b0d3e13ee5e7faa765c2980480acbb3870"), looks := false }, kinds := [], alts := [], laidByText := true, laidKinds := [.data, .data, .pinned], laidTests := true, laidLooks := .later }
def IrSpoiltUptoCardSaid : Prop := Claim7.holds Tryd.pinned (.plain (OpenSpec.upto irSpoiltSpec)) irSpoiltUptoCard
end Rows
end Go.Proofs.YtbipipbfiekbgaaDoor
