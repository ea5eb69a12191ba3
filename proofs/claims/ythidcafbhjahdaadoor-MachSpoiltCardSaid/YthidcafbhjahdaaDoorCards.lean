/-
  DERIVED. GIVEN WITH THE SEED: THE CARDS: each row of YthidcafbhjahdaaDoorRows.lean that lists a variable, with what it lists TIED to the program's text (the seventh form; the later family's looks); each row that meets fmt, with fmt's text TOLD by the authors' own Lean function (tested against real Go, not proved from fmt's source: count such statements apart). THE CARD IS WHAT COUNTS. Prove the row's statement (the work); the ties are given (YthidcafbhjahdaaDoorTie.lean); close each card by the builder's one call (the guide's Derived/Test/ToyasCard.lean, 'card_holds'). Laid BY PROGRAM, IN A SANDBOX (cutbox-door.mjs). By AI agents, Wed Nov 11 2026. No macro, syntax, notation, axiom, sorry.
-/
import Derived.Test.YthidcafbhjahdaaDoorRows
import GoSem.ClaimSeven
namespace Go.Proofs.YthidcafbhjahdaaDoor
namespace Rows

/-- THE TIED CARD OF 'cubbylaw07.IrSpoilt'. -/
def irSpoiltCard : Claim7 := { stood := { row := irSpoiltRow, standIns := [], harness := (true, "560d754e30d9a737ddc439967d742667a30644c8454139c4a2c4252c2ccc7ccf"), looks := false }, kinds := [], alts := [], laidByText := true, laidKinds := [.data, .data, .pinned], laidTests := true, laidLooks := .later }
def IrSpoiltCardSaid : Prop := Claim7.holds Tryd.pinned (.plain (OpenSpec.ofChange irSpoiltSpec)) irSpoiltCard

/-- THE TIED CARD OF 'cubbylaw13.MachSpoilt'. -/
def machSpoiltCard : Claim7 := { stood := { row := machSpoiltRow, standIns := [], harness := (true, "560d754e30d9a737ddc439967d742667a30644c8454139c4a2c4252c2ccc7ccf"), looks := false }, kinds := [], alts := [], laidByText := true, laidKinds := [.data, .data, .pinned], laidTests := true, laidLooks := .later }
def MachSpoiltCardSaid : Prop := Claim7.holds Tryd.pinned (.plain (OpenSpec.ofChange machSpoiltSpec)) machSpoiltCard

/-- THE SECOND FORM's CARD OF 'cubbylaw07.IrSpoilt'. -/
def irSpoiltUptoCard : Claim7 := { stood := { row := irSpoiltUptoRow, standIns := [], harness := (true, "560d754e30d9a737ddc439967d742667a30644c8454139c4a2c4252c2ccc7ccf"), looks := false }, kinds := [], alts := [], laidByText := true, laidKinds := [.data, .data, .pinned], laidTests := true, laidLooks := .later }
def IrSpoiltUptoCardSaid : Prop := Claim7.holds Tryd.pinned (.plain (OpenSpec.upto irSpoiltSpec)) irSpoiltUptoCard

/-- THE SECOND FORM's CARD OF 'cubbylaw13.MachSpoilt'. -/
def machSpoiltUptoCard : Claim7 := { stood := { row := machSpoiltUptoRow, standIns := [], harness := (true, "560d754e30d9a737ddc439967d742667a30644c8454139c4a2c4252c2ccc7ccf"), looks := false }, kinds := [], alts := [], laidByText := true, laidKinds := [.data, .data, .pinned], laidTests := true, laidLooks := .later }
def MachSpoiltUptoCardSaid : Prop := Claim7.holds Tryd.pinned (.plain (OpenSpec.upto machSpoiltSpec)) machSpoiltUptoCard
end Rows
end Go.Proofs.YthidcafbhjahdaaDoor
