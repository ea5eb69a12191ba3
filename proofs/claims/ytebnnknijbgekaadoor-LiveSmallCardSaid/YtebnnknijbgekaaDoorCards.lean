/-
  DERIVED. GIVEN WITH THE SEED: THE CARDS: each row of YtebnnknijbgekaaDoorRows.lean that lists a variable, with what it lists TIED to the program's text (the seventh form; the later family's looks); each row that meets fmt, with fmt's text TOLD by the authors' own Lean function (tested against real Go, not proved from fmt's source: count such statements apart). THE CARD IS WHAT COUNTS. Prove the row's statement (the work); the ties are given (YtebnnknijbgekaaDoorTie.lean); close each card by the builder's one call (the guide's Derived/Test/ToyasCard.lean, 'card_holds'). Laid BY PROGRAM, IN A SANDBOX (cutbox-door.mjs). By AI agents, Wed Nov 11 2026. No macro, syntax, notation, axiom, sorry.
-/
import Derived.Test.YtebnnknijbgekaaDoorRows
import GoSem.ClaimSeven
namespace Go.Proofs.YtebnnknijbgekaaDoor
namespace Rows

/-- THE TIED CARD OF 'cubbylaw13.MachSpoilt'. -/
def machSpoiltCard : Claim7 := { stood := { row := machSpoiltRow, standIns := [], harness := (true, "f478bf7cf80a0a19cd0e3ed25470ae850c7921cd0ccad9bb821bd05bde23d4b3"), looks := false }, kinds := [], alts := [], laidByText := true, laidKinds := [.data, .data, .pinned], laidTests := true, laidLooks := .later }
def MachSpoiltCardSaid : Prop := Claim7.holds Tryd.pinned (.plain (OpenSpec.ofChange machSpoiltSpec)) machSpoiltCard

/-- THE TIED CARD OF 'cubbylaw13.MachChecks'. -/
def machChecksCard : Claim7 := { stood := { row := machChecksRow, standIns := [], harness := (true, "f478bf7cf80a0a19cd0e3ed25470ae850c7921cd0ccad9bb821bd05bde23d4b3"), looks := false }, kinds := [], alts := [], laidByText := true, laidKinds := [.data, .data, .pinned], laidTests := true, laidLooks := .later }
def MachChecksCardSaid : Prop := Claim7.holds Tryd.pinned (.plain (OpenSpec.ofChange machChecksSpec)) machChecksCard

/-- THE TIED CARD OF 'cubbylaw13.MachFuncs'. -/
def machFuncsCard : Claim7 := { stood := { row := machFuncsRow, standIns := [], harness := (true, "f478bf7cf80a0a19cd0e3ed25470ae850c7921cd0ccad9bb821bd05bde23d4b3"), looks := false }, kinds := [], alts := [], laidByText := true, laidKinds := [.data, .data, .pinned], laidTests := true, laidLooks := .later }
def MachFuncsCardSaid : Prop := Claim7.holds Tryd.pinned (.plain (OpenSpec.ofChange machFuncsSpec)) machFuncsCard

/-- THE TIED CARD OF 'cubbylaw11.LiveAhead'. -/
def liveAheadCard : Claim7 := { stood := { row := liveAheadRow, standIns := [], harness := (true, "f478bf7cf80a0a19cd0e3ed25470ae850c7921cd0ccad9bb821bd05bde23d4b3"), looks := false }, kinds := [], alts := [], laidByText := true, laidKinds := [.data, .data, .data, .pinned], laidTests := true, laidLooks := .later }
def LiveAheadCardSaid : Prop := Claim7.holds Tryd.pinned (.plain (OpenSpec.ofChange liveAheadSpec)) liveAheadCard

/-- THE TIED CARD OF 'cubbylaw11.LiveSteps'. -/
def liveStepsCard : Claim7 := { stood := { row := liveStepsRow, standIns := [], harness := (true, "f478bf7cf80a0a19cd0e3ed25470ae850c7921cd0ccad9bb821bd05bde23d4b3"), looks := false }, kinds := [], alts := [], laidByText := true, laidKinds := [.data, .data, .data, .pinned], laidTests := true, laidLooks := .later }
def LiveStepsCardSaid : Prop := Claim7.holds Tryd.pinned (.plain (OpenSpec.ofChange liveStepsSpec)) liveStepsCard

/-- THE TIED CARD OF 'cubbylaw11.LiveIn'. -/
def liveInCard : Claim7 := { stood := { row := liveInRow, standIns := [], harness := (true, "f478bf7cf80a0a19cd0e3ed25470ae850c7921cd0ccad9bb821bd05bde23d4b3"), looks := false }, kinds := [], alts := [], laidByText := true, laidKinds := [.data, .data, .data, .pinned], laidTests := true, laidLooks := .later }
def LiveInCardSaid : Prop := Claim7.holds Tryd.pinned (.plain (OpenSpec.ofChange liveInSpec)) liveInCard

/-- THE TIED CARD OF 'cubbylaw11.LiveSmall'. -/
def liveSmallCard : Claim7 := { stood := { row := liveSmallRow, standIns := [], harness := (true, "f478bf7cf80a0a19cd0e3ed25470ae850c7921cd0ccad9bb821bd05bde23d4b3"), looks := false }, kinds := [], alts := [], laidByText := true, laidKinds := [.data, .data, .data, .pinned], laidTests := true, laidLooks := .later }
def LiveSmallCardSaid : Prop := Claim7.holds Tryd.pinned (.plain (OpenSpec.ofChange liveSmallSpec)) liveSmallCard

/-- THE TIED CARD OF 'cubbylaw12.SpanNumbers'. -/
def spanNumbersCard : Claim7 := { stood := { row := spanNumbersRow, standIns := [], harness := (true, "f478bf7cf80a0a19cd0e3ed25470ae850c7921cd0ccad9bb821bd05bde23d4b3"), looks := false }, kinds := [], alts := [], laidByText := true, laidKinds := [.data, .data, .pinned], laidTests := true, laidLooks := .later }
def SpanNumbersCardSaid : Prop := Claim7.holds Tryd.pinned (.plain (OpenSpec.ofChange spanNumbersSpec)) spanNumbersCard

/-- THE TIED CARD OF 'cubbylaw12.SpanInside'. -/
def spanInsideCard : Claim7 := { stood := { row := spanInsideRow, standIns := [], harness := (true, "f478bf7cf80a0a19cd0e3ed25470ae850c7921cd0ccad9bb821bd05bde23d4b3"), looks := false }, kinds := [], alts := [], laidByText := true, laidKinds := [.data, .data, .data, .pinned], laidTests := true, laidLooks := .later }
def SpanInsideCardSaid : Prop := Claim7.holds Tryd.pinned (.plain (OpenSpec.ofChange spanInsideSpec)) spanInsideCard

/-- THE TIED CARD OF 'cubbylaw12.SpanLive'. -/
def spanLiveCard : Claim7 := { stood := { row := spanLiveRow, standIns := [], harness := (true, "f478bf7cf80a0a19cd0e3ed25470ae850c7921cd0ccad9bb821bd05bde23d4b3"), looks := false }, kinds := [], alts := [], laidByText := true, laidKinds := [.data, .data, .data, .pinned], laidTests := true, laidLooks := .later }
def SpanLiveCardSaid : Prop := Claim7.holds Tryd.pinned (.plain (OpenSpec.ofChange spanLiveSpec)) spanLiveCard

/-- THE TIED CARD OF 'cubbylaw12.SpanSpans'. -/
def spanSpansCard : Claim7 := { stood := { row := spanSpansRow, standIns := [], harness := (true, "f478bf7cf80a0a19cd0e3ed25470ae850c7921cd0ccad9bb821bd05bde23d4b3"), looks := false }, kinds := [], alts := [], laidByText := true, laidKinds := [.data, .data, .data, .pinned], laidTests := true, laidLooks := .later }
def SpanSpansCardSaid : Prop := Claim7.holds Tryd.pinned (.plain (OpenSpec.ofChange spanSpansSpec)) spanSpansCard

/-- THE SECOND FORM's CARD OF 'cubbylaw13.MachSpoilt'. -/
def machSpoiltUptoCard : Claim7 := { stood := { row := machSpoiltUptoRow, standIns := [], harness := (true, "f478bf7cf80a0a19cd0e3ed25470ae850c7921cd0ccad9bb821bd05bde23d4b3"), looks := false }, kinds := [], alts := [], laidByText := true, laidKinds := [.data, .data, .pinned], laidTests := true, laidLooks := .later }
def MachSpoiltUptoCardSaid : Prop := Claim7.holds Tryd.pinned (.plain (OpenSpec.upto machSpoiltSpec)) machSpoiltUptoCard

/-- THE SECOND FORM's CARD OF 'cubbylaw13.MachChecks'. -/
def machChecksUptoCard : Claim7 := { stood := { row := machChecksUptoRow, standIns := [], harness := (true, "f478bf7cf80a0a19cd0e3ed25470ae850c7921cd0ccad9bb821bd05bde23d4b3"), looks := false }, kinds := [], alts := [], laidByText := true, laidKinds := [.data, .data, .pinned], laidTests := true, laidLooks := .later }
def MachChecksUptoCardSaid : Prop := Claim7.holds Tryd.pinned (.plain (OpenSpec.upto machChecksSpec)) machChecksUptoCard

/-- THE SECOND FORM's CARD OF 'cubbylaw13.MachFuncs'. -/
def machFuncsUptoCard : Claim7 := { stood := { row := machFuncsUptoRow, standIns := [], harness := (true, "f478bf7cf80a0a19cd0e3ed25470ae850c7921cd0ccad9bb821bd05bde23d4b3"), looks := false }, kinds := [], alts := [], laidByText := true, laidKinds := [.data, .data, .pinned], laidTests := true, laidLooks := .later }
def MachFuncsUptoCardSaid : Prop := Claim7.holds Tryd.pinned (.plain (OpenSpec.upto machFuncsSpec)) machFuncsUptoCard

/-- THE SECOND FORM's CARD OF 'cubbylaw11.LiveAhead'. -/
def liveAheadUptoCard : Claim7 := { stood := { row := liveAheadUptoRow, standIns := [], harness := (true, "f478bf7cf80a0a19cd0e3ed25470ae850c7921cd0ccad9bb821bd05bde23d4b3"), looks := false }, kinds := [], alts := [], laidByText := true, laidKinds := [.data, .data, .data, .pinned], laidTests := true, laidLooks := .later }
def LiveAheadUptoCardSaid : Prop := Claim7.holds Tryd.pinned (.plain (OpenSpec.upto liveAheadSpec)) liveAheadUptoCard

/-- THE SECOND FORM's CARD OF 'cubbylaw11.LiveSteps'. -/
def liveStepsUptoCard : Claim7 := { stood := { row := liveStepsUptoRow, standIns := [], harness := (true, "f478bf7cf80a0a19cd0e3ed25470ae850c7921cd0ccad9bb821bd05bde23d4b3"), looks := false }, kinds := [], alts := [], laidByText := true, laidKinds := [.data, .data, .data, .pinned], laidTests := true, laidLooks := .later }
def LiveStepsUptoCardSaid : Prop := Claim7.holds Tryd.pinned (.plain (OpenSpec.upto liveStepsSpec)) liveStepsUptoCard

/-- THE SECOND FORM's CARD OF 'cubbylaw11.LiveIn'. -/
def liveInUptoCard : Claim7 := { stood := { row := liveInUptoRow, standIns := [], harness := (true, "f478bf7cf80a0a19cd0e3ed25470ae850c7921cd0ccad9bb821bd05bde23d4b3"), looks := false }, kinds := [], alts := [], laidByText := true, laidKinds := [.data, .data, .data, .pinned], laidTests := true, laidLooks := .later }
def LiveInUptoCardSaid : Prop := Claim7.holds Tryd.pinned (.plain (OpenSpec.upto liveInSpec)) liveInUptoCard

/-- THE SECOND FORM's CARD OF 'cubbylaw11.LiveSmall'. -/
def liveSmallUptoCard : Claim7 := { stood := { row := liveSmallUptoRow, standIns := [], harness := (true, "f478bf7cf80a0a19cd0e3ed25470ae850c7921cd0ccad9bb821bd05bde23d4b3"), looks := false }, kinds := [], alts := [], laidByText := true, laidKinds := [.data, .data, .data, .pinned], laidTests := true, laidLooks := .later }
def LiveSmallUptoCardSaid : Prop := Claim7.holds Tryd.pinned (.plain (OpenSpec.upto liveSmallSpec)) liveSmallUptoCard

/-- THE SECOND FORM's CARD OF 'cubbylaw12.SpanNumbers'. -/
def spanNumbersUptoCard : Claim7 := { stood := { row := spanNumbersUptoRow, standIns := [], harness := (true, "f478bf7cf80a0a19cd0e3ed25470ae850c7921cd0ccad9bb821bd05bde23d4b3"), looks := false }, kinds := [], alts := [], laidByText := true, laidKinds := [.data, .data, .pinned], laidTests := true, laidLooks := .later }
def SpanNumbersUptoCardSaid : Prop := Claim7.holds Tryd.pinned (.plain (OpenSpec.upto spanNumbersSpec)) spanNumbersUptoCard

/-- THE SECOND FORM's CARD OF 'cubbylaw12.SpanInside'. -/
def spanInsideUptoCard : Claim7 := { stood := { row := spanInsideUptoRow, standIns := [], harness := (true, "f478bf7cf80a0a19cd0e3ed25470ae850c7921cd0ccad9bb821bd05bde23d4b3"), looks := false }, kinds := [], alts := [], laidByText := true, laidKinds := [.data, .data, .data, .pinned], laidTests := true, laidLooks := .later }
def SpanInsideUptoCardSaid : Prop := Claim7.holds Tryd.pinned (.plain (OpenSpec.upto spanInsideSpec)) spanInsideUptoCard

/-- THE SECOND FORM's CARD OF 'cubbylaw12.SpanLive'. -/
def spanLiveUptoCard : Claim7 := { stood := { row := spanLiveUptoRow, standIns := [], harness := (true, "f478bf7cf80a0a19cd0e3ed25470ae850c7921cd0ccad9bb821bd05bde23d4b3"), looks := false }, kinds := [], alts := [], laidByText := true, laidKinds := [.data, .data, .data, .pinned], laidTests := true, laidLooks := .later }
def SpanLiveUptoCardSaid : Prop := Claim7.holds Tryd.pinned (.plain (OpenSpec.upto spanLiveSpec)) spanLiveUptoCard

/-- THE SECOND FORM's CARD OF 'cubbylaw12.SpanSpans'. -/
def spanSpansUptoCard : Claim7 := { stood := { row := spanSpansUptoRow, standIns := [], harness := (true, "f478bf7cf80a0a19cd0e3ed25470ae850c7921cd0ccad9bb821bd05bde23d4b3"), looks := false }, kinds := [], alts := [], laidByText := true, laidKinds := [.data, .data, .data, .pinned], laidTests := true, laidLooks := .later }
def SpanSpansUptoCardSaid : Prop := Claim7.holds Tryd.pinned (.plain (OpenSpec.upto spanSpansSpec)) spanSpansUptoCard
end Rows
end Go.Proofs.YtebnnknijbgekaaDoor
