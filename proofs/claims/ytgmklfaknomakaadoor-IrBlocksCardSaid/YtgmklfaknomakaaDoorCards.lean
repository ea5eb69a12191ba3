/-
  DERIVED. GIVEN WITH THE SEED: THE CARDS: each row of YtgmklfaknomakaaDoorRows.lean that lists a variable, with what it lists TIED to the program's text (the seventh form; the later family's looks); each row that meets fmt, with fmt's text TOLD by the authors' own Lean function (tested against real Go, not proved from fmt's source: count such statements apart). THE CARD IS WHAT COUNTS. Prove the row's statement (the work); the ties are given (YtgmklfaknomakaaDoorTie.lean); close each card by the builder's one call (the guide's Derived/Test/ToyasCard.lean, 'card_holds'). Laid BY PROGRAM, IN A SANDBOX (cutbox-door.mjs). By AI agents, Wed Nov 11 2026. No macro, syntax, notation, axiom, sorry.
-/
import Derived.Test.YtgmklfaknomakaaDoorRows
import GoSem.ClaimSeven
namespace Go.Proofs.YtgmklfaknomakaaDoor
namespace Rows

/-- THE TIED CARD OF 'cubbylaw07.IrReads'. -/
def irReadsCard : Claim7 := { stood := { row := irReadsRow, standIns := [], harness := (true, "04d1ed078bfdea8638eebef14b6d55b32067a55941f8d99877aafcca80c64873"), looks := false }, kinds := [], alts := [], laidByText := true, laidKinds := [.data], laidTests := true, laidLooks := .later }
def IrReadsCardSaid : Prop := Claim7.holds Tryd.pinned (.plain (OpenSpec.ofChange irReadsSpec)) irReadsCard

/-- THE TIED CARD OF 'cubbylaw13.MachReads'. -/
def machReadsCard : Claim7 := { stood := { row := machReadsRow, standIns := [], harness := (true, "04d1ed078bfdea8638eebef14b6d55b32067a55941f8d99877aafcca80c64873"), looks := false }, kinds := [], alts := [], laidByText := true, laidKinds := [.data], laidTests := true, laidLooks := .later }
def MachReadsCardSaid : Prop := Claim7.holds Tryd.pinned (.plain (OpenSpec.ofChange machReadsSpec)) machReadsCard

/-- THE TIED CARD OF 'cubbylaw07.IrNames'. -/
def irNamesCard : Claim7 := { stood := { row := irNamesRow, standIns := [], harness := (true, "04d1ed078bfdea8638eebef14b6d55b32067a55941f8d99877aafcca80c64873"), looks := false }, kinds := [], alts := [], laidByText := true, laidKinds := [.data, .pinned], laidTests := true, laidLooks := .later }
def IrNamesCardSaid : Prop := Claim7.holds Tryd.pinned (.plain (OpenSpec.ofChange irNamesSpec)) irNamesCard

/-- THE TIED CARD OF 'cubbylaw07.IrChecks'. -/
def irChecksCard : Claim7 := { stood := { row := irChecksRow, standIns := [], harness := (true, "04d1ed078bfdea8638eebef14b6d55b32067a55941f8d99877aafcca80c64873"), looks := false }, kinds := [], alts := [], laidByText := true, laidKinds := [.data, .data, .pinned], laidTests := true, laidLooks := .later }
def IrChecksCardSaid : Prop := Claim7.holds Tryd.pinned (.plain (OpenSpec.ofChange irChecksSpec)) irChecksCard

/-- THE TIED CARD OF 'cubbylaw07.IrSpoilt'. -/
def irSpoiltCard : Claim7 := { stood := { row := irSpoiltRow, standIns := [], harness := (true, "04d1ed078bfdea8638eebef14b6d55b32067a55941f8d99877aafcca80c64873"), looks := false }, kinds := [], alts := [], laidByText := true, laidKinds := [.data, .data, .pinned], laidTests := true, laidLooks := .later }
def IrSpoiltCardSaid : Prop := Claim7.holds Tryd.pinned (.plain (OpenSpec.ofChange irSpoiltSpec)) irSpoiltCard

/-- THE TIED CARD OF 'cubbylaw07.IrBlocks'. -/
def irBlocksCard : Claim7 := { stood := { row := irBlocksRow, standIns := [], harness := (true, "04d1ed078bfdea8638eebef14b6d55b32067a55941f8d99877aafcca80c64873"), looks := false }, kinds := [], alts := [], laidByText := true, laidKinds := [.data, .data, .pinned], laidTests := true, laidLooks := .later }
def IrBlocksCardSaid : Prop := Claim7.holds Tryd.pinned (.plain (OpenSpec.ofChange irBlocksSpec)) irBlocksCard

/-- THE SECOND FORM's CARD OF 'cubbylaw07.IrReads'. -/
def irReadsUptoCard : Claim7 := { stood := { row := irReadsUptoRow, standIns := [], harness := (true, "04d1ed078bfdea8638eebef14b6d55b32067a55941f8d99877aafcca80c64873"), looks := false }, kinds := [], alts := [], laidByText := true, laidKinds := [.data], laidTests := true, laidLooks := .later }
def IrReadsUptoCardSaid : Prop := Claim7.holds Tryd.pinned (.plain (OpenSpec.upto irReadsSpec)) irReadsUptoCard

/-- THE SECOND FORM's CARD OF 'cubbylaw13.MachReads'. -/
def machReadsUptoCard : Claim7 := { stood := { row := machReadsUptoRow, standIns := [], harness := (true, "04d1ed078bfdea8638eebef14b6d55b32067a55941f8d99877aafcca80c64873"), looks := false }, kinds := [], alts := [], laidByText := true, laidKinds := [.data], laidTests := true, laidLooks := .later }
def MachReadsUptoCardSaid : Prop := Claim7.holds Tryd.pinned (.plain (OpenSpec.upto machReadsSpec)) machReadsUptoCard

/-- THE SECOND FORM's CARD OF 'cubbylaw07.IrNames'. -/
def irNamesUptoCard : Claim7 := { stood := { row := irNamesUptoRow, standIns := [], harness := (true, "04d1ed078bfdea8638eebef14b6d55b32067a55941f8d99877aafcca80c64873"), looks := false }, kinds := [], alts := [], laidByText := true, laidKinds := [.data, .pinned], laidTests := true, laidLooks := .later }
def IrNamesUptoCardSaid : Prop := Claim7.holds Tryd.pinned (.plain (OpenSpec.upto irNamesSpec)) irNamesUptoCard

/-- THE SECOND FORM's CARD OF 'cubbylaw07.IrChecks'. -/
def irChecksUptoCard : Claim7 := { stood := { row := irChecksUptoRow, standIns := [], harness := (true, "04d1ed078bfdea8638eebef14b6d55b32067a55941f8d99877aafcca80c64873"), looks := false }, kinds := [], alts := [], laidByText := true, laidKinds := [.data, .data, .pinned], laidTests := true, laidLooks := .later }
def IrChecksUptoCardSaid : Prop := Claim7.holds Tryd.pinned (.plain (OpenSpec.upto irChecksSpec)) irChecksUptoCard

/-- THE SECOND FORM's CARD OF 'cubbylaw07.IrSpoilt'. -/
def irSpoiltUptoCard : Claim7 := { stood := { row := irSpoiltUptoRow, standIns := [], harness := (true, "04d1ed078bfdea8638eebef14b6d55b32067a55941f8d99877aafcca80c64873"), looks := false }, kinds := [], alts := [], laidByText := true, laidKinds := [.data, .data, .pinned], laidTests := true, laidLooks := .later }
def IrSpoiltUptoCardSaid : Prop := Claim7.holds Tryd.pinned (.plain (OpenSpec.upto irSpoiltSpec)) irSpoiltUptoCard

/-- THE SECOND FORM's CARD OF 'cubbylaw07.IrBlocks'. -/
def irBlocksUptoCard : Claim7 := { stood := { row := irBlocksUptoRow, standIns := [], harness := (true, "04d1ed078bfdea8638eebef14b6d55b32067a55941f8d99877aafcca80c64873"), looks := false }, kinds := [], alts := [], laidByText := true, laidKinds := [.data, .data, .pinned], laidTests := true, laidLooks := .later }
def IrBlocksUptoCardSaid : Prop := Claim7.holds Tryd.pinned (.plain (OpenSpec.upto irBlocksSpec)) irBlocksUptoCard
end Rows
end Go.Proofs.YtgmklfaknomakaaDoor
