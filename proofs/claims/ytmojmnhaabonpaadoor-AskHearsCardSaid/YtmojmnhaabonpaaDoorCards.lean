/-
  DERIVED. GIVEN WITH THE SEED: THE CARDS: each row of YtmojmnhaabonpaaDoorRows.lean that lists a variable, with what it lists TIED to the program's text (the seventh form; the later family's looks); each row that meets fmt, with fmt's text TOLD by the authors' own Lean function (tested against real Go, not proved from fmt's source: count such statements apart). THE CARD IS WHAT COUNTS. Prove the row's statement (the work); the ties are given (YtmojmnhaabonpaaDoorTie.lean); close each card by the builder's one call (the guide's Derived/Test/ToyasCard.lean, 'card_holds'). Laid BY PROGRAM, IN A SANDBOX (cutbox-door.mjs). By AI agents, Wed Nov 11 2026. No macro, syntax, notation, axiom, sorry.
-/
import Derived.Test.YtmojmnhaabonpaaDoorRows
import GoSem.ClaimSeven
namespace Go.Proofs.YtmojmnhaabonpaaDoor
namespace Rows

/-- THE TIED CARD OF 'cubbylaw21.AskHears'. -/
def askHearsCard : Claim7 := { stood := { row := askHearsRow, standIns := [], harness := (true, "fd5c55a3e85524a783e020c83ca468e8894ce98b3bc4ba02a3da3b94c409b69a"), looks := true }, kinds := [], alts := [], laidByText := true, laidKinds := [.data, .data, .data, .data, .sentinel, .sentinel, .pinned], laidTests := true, laidLooks := .later }
def AskHearsCardSaid : Prop := Claim7.holds Tryd.pinned (.plain (OpenSpec.ofChange askHearsSpec)) askHearsCard

/-- THE TIED CARD OF 'cubbylaw21.AskNumbers'. -/
def askNumbersCard : Claim7 := { stood := { row := askNumbersRow, standIns := [], harness := (true, "fd5c55a3e85524a783e020c83ca468e8894ce98b3bc4ba02a3da3b94c409b69a"), looks := true }, kinds := [], alts := [], laidByText := true, laidKinds := [.data, .data, .data, .data, .sentinel, .sentinel, .pinned], laidTests := true, laidLooks := .later }
def AskNumbersCardSaid : Prop := Claim7.holds Tryd.pinned (.plain (OpenSpec.ofChange askNumbersSpec)) askNumbersCard

/-- THE TIED CARD OF 'cubbylaw21.AskBack'. -/
def askBackCard : Claim7 := { stood := { row := askBackRow, standIns := [], harness := (true, "fd5c55a3e85524a783e020c83ca468e8894ce98b3bc4ba02a3da3b94c409b69a"), looks := true }, kinds := [], alts := [], laidByText := true, laidKinds := [.data, .data, .data, .data, .sentinel, .sentinel, .pinned], laidTests := true, laidLooks := .later }
def AskBackCardSaid : Prop := Claim7.holds Tryd.pinned (.plain (OpenSpec.ofChange askBackSpec)) askBackCard

/-- THE SECOND FORM's CARD OF 'cubbylaw21.AskHears'. -/
def askHearsUptoCard : Claim7 := { stood := { row := askHearsUptoRow, standIns := [], harness := (true, "fd5c55a3e85524a783e020c83ca468e8894ce98b3bc4ba02a3da3b94c409b69a"), looks := true }, kinds := [], alts := [], laidByText := true, laidKinds := [.data, .data, .data, .data, .sentinel, .sentinel, .pinned], laidTests := true, laidLooks := .later }
def AskHearsUptoCardSaid : Prop := Claim7.holds Tryd.pinned (.plain (OpenSpec.upto askHearsSpec)) askHearsUptoCard

/-- THE SECOND FORM's CARD OF 'cubbylaw21.AskNumbers'. -/
def askNumbersUptoCard : Claim7 := { stood := { row := askNumbersUptoRow, standIns := [], harness := (true, "fd5c55a3e85524a783e020c83ca468e8894ce98b3bc4ba02a3da3b94c409b69a"), looks := true }, kinds := [], alts := [], laidByText := true, laidKinds := [.data, .data, .data, .data, .sentinel, .sentinel, .pinned], laidTests := true, laidLooks := .later }
def AskNumbersUptoCardSaid : Prop := Claim7.holds Tryd.pinned (.plain (OpenSpec.upto askNumbersSpec)) askNumbersUptoCard

/-- THE SECOND FORM's CARD OF 'cubbylaw21.AskBack'. -/
def askBackUptoCard : Claim7 := { stood := { row := askBackUptoRow, standIns := [], harness := (true, "fd5c55a3e85524a783e020c83ca468e8894ce98b3bc4ba02a3da3b94c409b69a"), looks := true }, kinds := [], alts := [], laidByText := true, laidKinds := [.data, .data, .data, .data, .sentinel, .sentinel, .pinned], laidTests := true, laidLooks := .later }
def AskBackUptoCardSaid : Prop := Claim7.holds Tryd.pinned (.plain (OpenSpec.upto askBackSpec)) askBackUptoCard
end Rows
end Go.Proofs.YtmojmnhaabonpaaDoor
