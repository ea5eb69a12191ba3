/-
  DERIVED. GIVEN WITH THE SEED: THE CARDS: each row of YtpkimbkjjmbmcaaDoorRows.lean that lists a variable, with what it lists TIED to the program's text (the seventh form; the later family's looks); each row that meets fmt, with fmt's text TOLD by the authors' own Lean function (tested against real Go, not proved from fmt's source: count such statements apart). THE CARD IS WHAT COUNTS. Prove the row's statement (the work); the ties are given (YtpkimbkjjmbmcaaDoorTie.lean); close each card by the builder's one call (the guide's Derived/Test/ToyasCard.lean, 'card_holds'). Laid BY PROGRAM, IN A SANDBOX (cutbox-door.mjs). By AI agents, Wed Nov 11 2026. No macro, syntax, notation, axiom, sorry.
-/
import Derived.Test.YtpkimbkjjmbmcaaDoorRows
import GoSem.ClaimSeven
namespace Go.Proofs.YtpkimbkjjmbmcaaDoor
namespace Rows

/-- THE TIED CARD OF 'cubbylaw12.SpanInside'. -/
def spanInsideCard : Claim7 := { stood := { row := spanInsideRow, standIns := [], harness := (true, "86b6e9ea8fc3c67843df3ee2922f7abef32778c09a3551e54e3f97281a58097c"), looks := true }, kinds := [], alts := [], laidByText := true, laidKinds := [.data, .data, .data, .pinned], laidTests := true, laidLooks := .later }
def SpanInsideCardSaid : Prop := Claim7.holds Tryd.pinned (.plain (OpenSpec.ofChange spanInsideSpec)) spanInsideCard

/-- THE TIED CARD OF 'cubbylaw12.SpanLive'. -/
def spanLiveCard : Claim7 := { stood := { row := spanLiveRow, standIns := [], harness := (true, "86b6e9ea8fc3c67843df3ee2922f7abef32778c09a3551e54e3f97281a58097c"), looks := true }, kinds := [], alts := [], laidByText := true, laidKinds := [.data, .data, .data, .pinned], laidTests := true, laidLooks := .later }
def SpanLiveCardSaid : Prop := Claim7.holds Tryd.pinned (.plain (OpenSpec.ofChange spanLiveSpec)) spanLiveCard

/-- THE TIED CARD OF 'cubbylaw12.SpanSpans'. -/
def spanSpansCard : Claim7 := { stood := { row := spanSpansRow, standIns := [], harness := (true, "86b6e9ea8fc3c67843df3ee2922f7abef32778c09a3551e54e3f97281a58097c"), looks := true }, kinds := [], alts := [], laidByText := true, laidKinds := [.data, .data, .data, .pinned], laidTests := true, laidLooks := .later }
def SpanSpansCardSaid : Prop := Claim7.holds Tryd.pinned (.plain (OpenSpec.ofChange spanSpansSpec)) spanSpansCard

/-- THE TIED CARD OF 'cubbylaw08.TextLines'. -/
def textLinesCard : Claim7 := { stood := { row := textLinesRow, standIns := [], harness := (true, "86b6e9ea8fc3c67843df3ee2922f7abef32778c09a3551e54e3f97281a58097c"), looks := true }, kinds := [], alts := [], laidByText := true, laidKinds := [.data, .data, .data, .data, .pinned], laidTests := true, laidLooks := .later }
def TextLinesCardSaid : Prop := Claim7.holds Tryd.pinned (.plain (OpenSpec.ofChange textLinesSpec)) textLinesCard

/-- THE TIED CARD OF 'cubbylaw18.ProofSteps'. -/
def proofStepsCard : Claim7 := { stood := { row := proofStepsRow, standIns := [], harness := (true, "86b6e9ea8fc3c67843df3ee2922f7abef32778c09a3551e54e3f97281a58097c"), looks := true }, kinds := [], alts := [], laidByText := true, laidKinds := [.data, .data, .pinned], laidTests := true, laidLooks := .later }
def ProofStepsCardSaid : Prop := Claim7.holds Tryd.pinned (.plain (OpenSpec.ofChange proofStepsSpec)) proofStepsCard

/-- THE TIED CARD OF 'cubbylaw21.AskHears'. -/
def askHearsCard : Claim7 := { stood := { row := askHearsRow, standIns := [], harness := (true, "86b6e9ea8fc3c67843df3ee2922f7abef32778c09a3551e54e3f97281a58097c"), looks := true }, kinds := [], alts := [], laidByText := true, laidKinds := [.data, .data, .data, .data, .sentinel, .sentinel, .pinned], laidTests := true, laidLooks := .later }
def AskHearsCardSaid : Prop := Claim7.holds Tryd.pinned (.plain (OpenSpec.ofChange askHearsSpec)) askHearsCard

/-- THE TIED CARD OF 'cubbylaw21.AskNumbers'. -/
def askNumbersCard : Claim7 := { stood := { row := askNumbersRow, standIns := [], harness := (true, "86b6e9ea8fc3c67843df3ee2922f7abef32778c09a3551e54e3f97281a58097c"), looks := true }, kinds := [], alts := [], laidByText := true, laidKinds := [.data, .data, .data, .data, .sentinel, .sentinel, .pinned], laidTests := true, laidLooks := .later }
def AskNumbersCardSaid : Prop := Claim7.holds Tryd.pinned (.plain (OpenSpec.ofChange askNumbersSpec)) askNumbersCard

/-- THE TIED CARD OF 'cubbylaw08.TextParses'. -/
def textParsesCard : Claim7 := { stood := { row := textParsesRow, standIns := [], harness := (true, "86b6e9ea8fc3c67843df3ee2922f7abef32778c09a3551e54e3f97281a58097c"), looks := true }, kinds := [], alts := [], laidByText := true, laidKinds := [.data, .data, .data, .data, .sentinel, .sentinel, .pinned], laidTests := true, laidLooks := .later }
def TextParsesCardSaid : Prop := Claim7.holds Tryd.pinned (.plain (OpenSpec.ofChange textParsesSpec)) textParsesCard

/-- THE SECOND FORM's CARD OF 'cubbylaw12.SpanInside'. -/
def spanInsideUptoCard : Claim7 := { stood := { row := spanInsideUptoRow, standIns := [], harness := (true, "86b6e9ea8fc3c67843df3ee2922f7abef32778c09a3551e54e3f97281a58097c"), looks := true }, kinds := [], alts := [], laidByText := true, laidKinds := [.data, .data, .data, .pinned], laidTests := true, laidLooks := .later }
def SpanInsideUptoCardSaid : Prop := Claim7.holds Tryd.pinned (.plain (OpenSpec.upto spanInsideSpec)) spanInsideUptoCard

/-- THE SECOND FORM's CARD OF 'cubbylaw12.SpanLive'. -/
def spanLiveUptoCard : Claim7 := { stood := { row := spanLiveUptoRow, standIns := [], harness := (true, "86b6e9ea8fc3c67843df3ee2922f7abef32778c09a3551e54e3f97281a58097c"), looks := true }, kinds := [], alts := [], laidByText := true, laidKinds := [.data, .data, .data, .pinned], laidTests := true, laidLooks := .later }
def SpanLiveUptoCardSaid : Prop := Claim7.holds Tryd.pinned (.plain (OpenSpec.upto spanLiveSpec)) spanLiveUptoCard

/-- THE SECOND FORM's CARD OF 'cubbylaw12.SpanSpans'. -/
def spanSpansUptoCard : Claim7 := { stood := { row := spanSpansUptoRow, standIns := [], harness := (true, "86b6e9ea8fc3c67843df3ee2922f7abef32778c09a3551e54e3f97281a58097c"), looks := true }, kinds := [], alts := [], laidByText := true, laidKinds := [.data, .data, .data, .pinned], laidTests := true, laidLooks := .later }
def SpanSpansUptoCardSaid : Prop := Claim7.holds Tryd.pinned (.plain (OpenSpec.upto spanSpansSpec)) spanSpansUptoCard

/-- THE SECOND FORM's CARD OF 'cubbylaw08.TextLines'. -/
def textLinesUptoCard : Claim7 := { stood := { row := textLinesUptoRow, standIns := [], harness := (true, "86b6e9ea8fc3c67843df3ee2922f7abef32778c09a3551e54e3f97281a58097c"), looks := true }, kinds := [], alts := [], laidByText := true, laidKinds := [.data, .data, .data, .data, .pinned], laidTests := true, laidLooks := .later }
def TextLinesUptoCardSaid : Prop := Claim7.holds Tryd.pinned (.plain (OpenSpec.upto textLinesSpec)) textLinesUptoCard

/-- THE SECOND FORM's CARD OF 'cubbylaw18.ProofSteps'. -/
def proofStepsUptoCard : Claim7 := { stood := { row := proofStepsUptoRow, standIns := [], harness := (true, "86b6e9ea8fc3c67843df3ee2922f7abef32778c09a3551e54e3f97281a58097c"), looks := true }, kinds := [], alts := [], laidByText := true, laidKinds := [.data, .data, .pinned], laidTests := true, laidLooks := .later }
def ProofStepsUptoCardSaid : Prop := Claim7.holds Tryd.pinned (.plain (OpenSpec.upto proofStepsSpec)) proofStepsUptoCard

/-- THE SECOND FORM's CARD OF 'cubbylaw21.AskHears'. -/
def askHearsUptoCard : Claim7 := { stood := { row := askHearsUptoRow, standIns := [], harness := (true, "86b6e9ea8fc3c67843df3ee2922f7abef32778c09a3551e54e3f97281a58097c"), looks := true }, kinds := [], alts := [], laidByText := true, laidKinds := [.data, .data, .data, .data, .sentinel, .sentinel, .pinned], laidTests := true, laidLooks := .later }
def AskHearsUptoCardSaid : Prop := Claim7.holds Tryd.pinned (.plain (OpenSpec.upto askHearsSpec)) askHearsUptoCard

/-- THE SECOND FORM's CARD OF 'cubbylaw21.AskNumbers'. -/
def askNumbersUptoCard : Claim7 := { stood := { row := askNumbersUptoRow, standIns := [], harness := (true, "86b6e9ea8fc3c67843df3ee2922f7abef32778c09a3551e54e3f97281a58097c"), looks := true }, kinds := [], alts := [], laidByText := true, laidKinds := [.data, .data, .data, .data, .sentinel, .sentinel, .pinned], laidTests := true, laidLooks := .later }
def AskNumbersUptoCardSaid : Prop := Claim7.holds Tryd.pinned (.plain (OpenSpec.upto askNumbersSpec)) askNumbersUptoCard

/-- THE SECOND FORM's CARD OF 'cubbylaw08.TextParses'. -/
def textParsesUptoCard : Claim7 := { stood := { row := textParsesUptoRow, standIns := [], harness := (true, "86b6e9ea8fc3c67843df3ee2922f7abef32778c09a3551e54e3f97281a58097c"), looks := true }, kinds := [], alts := [], laidByText := true, laidKinds := [.data, .data, .data, .data, .sentinel, .sentinel, .pinned], laidTests := true, laidLooks := .later }
def TextParsesUptoCardSaid : Prop := Claim7.holds Tryd.pinned (.plain (OpenSpec.upto textParsesSpec)) textParsesUptoCard
end Rows
end Go.Proofs.YtpkimbkjjmbmcaaDoor
