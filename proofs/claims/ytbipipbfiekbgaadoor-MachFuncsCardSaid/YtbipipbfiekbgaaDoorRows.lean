/-
  NARROWER THAN 'FOR EVERY INPUT', by the rows' own cells (each row's printed sentence says how): MachSpoilt: laid · MachChecks: laid · MachFuncs: laid · AskNames: laid · AskParses: laid · IrSpoilt: laid.
  DERIVED. THE GIVEN ROWS OF THIS SEAT. 6 by the template 'for every input the law returns true; each argument reads behind the call as it read before'; 0 by the template 'total and deterministic' (their statements: YtbipipbfiekbgaaDoorTotals.lean).
  GIVEN WITH THE SEED: the statements are not yours to turn. If you find one false, say at which input.
  Laid BY PROGRAM, IN A SANDBOX (cutbox-rows.mjs): the forced cells as the released guide's own fill.sh prints them over the translation ec7ad1033f9a0332… (all of the seat's roots in one cut). By AI agents, Wed Nov 11 2026. No macro, syntax, notation, axiom, sorry.
-/
import Derived.Test.YtbipipbfiekbgaaDoorChecked
import GoSem.PinnedTables
import GoSem.Claim
import GoSem.ClaimJoined
import GoSem.ClaimMapViews
import Derived.JoinedTies
import Derived.KernelRfl
namespace Go.Proofs.YtbipipbfiekbgaaDoor
/- THE CELL 'sum', in the pinned program and in every row, IS THE sha256 OF THE DUMP (.gsa) THAT YtbipipbfiekbgaaDoorProg.lean LOADS. Nothing in Lean hashes anything: it is a label: what it is worth is what the hold of that sum in a sandbox is worth. -/
noncomputable def Tryd.pinned : Pinned := { name := "ytbipipbfiekbgaadoor", sum := "ec7ad1033f9a033279a38af94b3020e1ddc8f4fc6cb0d19d69a8b611cf0c2beb", checked := Tryd.checked }
namespace Rows
def none {H : Type} : Left H := { results := [], args := [] }

/- WHAT THE LISTED PACKAGE-LEVEL VARIABLES READ AS WHEN THE CALL BEGINS. Each datum BY PROGRAM (the guide's laid-datum.mjs) off the statement by which the dump's own 'gosem.cut.vars' lays the variable. In a bare row this is a premise. The card (YtbipipbfiekbgaaDoorCards.lean) ties it to the program's text. -/
def laid_unicode_utf8_acceptRanges {H : Type} : DataW H := .agg [.agg [.lit (.int .u8 128), .lit (.int .u8 191)], .agg [.lit (.int .u8 160), .lit (.int .u8 191)], .agg [.lit (.int .u8 128), .lit (.int .u8 159)], .agg [.lit (.int .u8 144), .lit (.int .u8 191)], .agg [.lit (.int .u8 128), .lit (.int .u8 143)], .agg [.lit (.int .u8 0), .lit (.int .u8 0)], .agg [.lit (.int .u8 0), .lit (.int .u8 0)], .agg [.lit (.int .u8 0), .lit (.int .u8 0)], .agg [.lit (.int .u8 0), .lit (.int .u8 0)], .agg [.lit (.int .u8 0), .lit (.int .u8 0)], .agg [.lit (.int .u8 0), .lit (.int .u8 0)], .agg [.lit (.int .u8 0), .lit (.int .u8 0)], .agg [.lit (.int .u8 0), .lit (.int .u8 0)], .agg [.lit (.int .u8 0), .lit (.int .u8 0)], .agg [.lit (.int .u8 0), .lit (.int .u8 0)], .agg [.lit (.int .u8 0), .lit (.int .u8 0)]]
def laid_cubby_ir_shapes {H : Type} : DataW H := .agg [.lit (.string []), .lit (.string [114, 110, 32]), .lit (.string [114, 114, 32]), .lit (.string [114, 114, 114]), .lit (.string [114, 114, 114]), .lit (.string [114, 114, 114]), .lit (.string [114, 114, 114]), .lit (.string [114, 114, 114]), .lit (.string [114, 114, 32]), .lit (.string [32, 114, 114]), .lit (.string [32, 114, 32]), .lit (.string [114, 32, 32]), .lit (.string [32, 116, 32]), .lit (.string [116, 114, 116]), .lit (.string [32, 114, 32])]
/-- One of Go's own tables, pinned by name: the form's constant. -/
def laid_unicode_utf8_first : DataW Unit := Go.Pinned.utf8First

/-- 'cubbylaw13.MachSpoilt': WHATEVER THE INPUT: true; the input reads as it did. -/
def machSpoiltSpec : ChangeSpec := { name := "machSpoilt", fn := fun _ => fun
  | [d1, d2, d3] => { results := [.lit (.bool true)], args := [d1, d2, d3] }
  | _ => none }
def machSpoiltRow : OpenClaim := { program := "ytbipipbfiekbgaadoor", sum := "ec7ad1033f9a033279a38af94b3020e1ddc8f4fc6cb0d19d69a8b611cf0c2beb", func := "cubby/cubbylaw13.MachSpoilt", spec := "machSpoilt", inPlace := ["internal/bytealg.IndexByteString", "internal/bytealg.IndexString"], unfollowed := true, recurses := true, named := ["unicode/utf8.first", "unicode/utf8.acceptRanges", "cubby/ir.shapes", "internal/bytealg.MaxLen"], apart := false, laid := [("unicode/utf8.acceptRanges", laid_unicode_utf8_acceptRanges), ("cubby/ir.shapes", laid_cubby_ir_shapes), ("unicode/utf8.first", laid_unicode_utf8_first)] }
def MachSpoiltSaid : Prop := machSpoiltRow.holds Tryd.pinned (OpenSpec.ofChange machSpoiltSpec)

/-- ITS FALSE NEIGHBOUR: 'it returns false'. Refute it at one input. -/
def machSpoiltWrong : ChangeSpec := { name := "machSpoilt", fn := fun _ => fun
  | [d1, d2, d3] => { results := [.lit (.bool false)], args := [d1, d2, d3] }
  | _ => none }
def MachSpoiltWrongFalsely : Prop := machSpoiltRow.holds Tryd.pinned (OpenSpec.ofChange machSpoiltWrong)

/-- 'cubbylaw13.MachChecks': WHATEVER THE INPUT: true; the input reads as it did. -/
def machChecksSpec : ChangeSpec := { name := "machChecks", fn := fun _ => fun
  | [d] => { results := [.lit (.bool true)], args := [d] }
  | _ => none }
def machChecksRow : OpenClaim := { program := "ytbipipbfiekbgaadoor", sum := "ec7ad1033f9a033279a38af94b3020e1ddc8f4fc6cb0d19d69a8b611cf0c2beb", func := "cubby/cubbylaw13.MachChecks", spec := "machChecks", inPlace := ["internal/bytealg.IndexByteString", "internal/bytealg.IndexString"], unfollowed := true, recurses := true, named := ["unicode/utf8.first", "unicode/utf8.acceptRanges", "cubby/ir.shapes", "internal/bytealg.MaxLen"], apart := false, laid := [("unicode/utf8.acceptRanges", laid_unicode_utf8_acceptRanges), ("cubby/ir.shapes", laid_cubby_ir_shapes), ("unicode/utf8.first", laid_unicode_utf8_first)] }
def MachChecksSaid : Prop := machChecksRow.holds Tryd.pinned (OpenSpec.ofChange machChecksSpec)

/-- ITS FALSE NEIGHBOUR: 'it returns false'. Refute it at one input. -/
def machChecksWrong : ChangeSpec := { name := "machChecks", fn := fun _ => fun
  | [d] => { results := [.lit (.bool false)], args := [d] }
  | _ => none }
def MachChecksWrongFalsely : Prop := machChecksRow.holds Tryd.pinned (OpenSpec.ofChange machChecksWrong)

/-- 'cubbylaw13.MachFuncs': WHATEVER THE INPUT: true; the input reads as it did. -/
def machFuncsSpec : ChangeSpec := { name := "machFuncs", fn := fun _ => fun
  | [d] => { results := [.lit (.bool true)], args := [d] }
  | _ => none }
def machFuncsRow : OpenClaim := { program := "ytbipipbfiekbgaadoor", sum := "ec7ad1033f9a033279a38af94b3020e1ddc8f4fc6cb0d19d69a8b611cf0c2beb", func := "cubby/cubbylaw13.MachFuncs", spec := "machFuncs", inPlace := ["internal/bytealg.IndexByteString", "internal/bytealg.IndexString"], unfollowed := true, recurses := true, named := ["cubby/ir.shapes", "unicode/utf8.first", "unicode/utf8.acceptRanges", "internal/bytealg.MaxLen"], apart := false, laid := [("unicode/utf8.acceptRanges", laid_unicode_utf8_acceptRanges), ("cubby/ir.shapes", laid_cubby_ir_shapes), ("unicode/utf8.first", laid_unicode_utf8_first)] }
def MachFuncsSaid : Prop := machFuncsRow.holds Tryd.pinned (OpenSpec.ofChange machFuncsSpec)

/-- ITS FALSE NEIGHBOUR: 'it returns false'. Refute it at one input. -/
def machFuncsWrong : ChangeSpec := { name := "machFuncs", fn := fun _ => fun
  | [d] => { results := [.lit (.bool false)], args := [d] }
  | _ => none }
def MachFuncsWrongFalsely : Prop := machFuncsRow.holds Tryd.pinned (OpenSpec.ofChange machFuncsWrong)

/-- 'cubbylaw21.AskNames': WHATEVER THE INPUT: true; the input reads as it did. -/
def askNamesSpec : ChangeSpec := { name := "askNames", fn := fun _ => fun
  | [d1, d2] => { results := [.lit (.bool true)], args := [d1, d2] }
  | _ => none }
def askNamesRow : OpenClaim := { program := "ytbipipbfiekbgaadoor", sum := "ec7ad1033f9a033279a38af94b3020e1ddc8f4fc6cb0d19d69a8b611cf0c2beb", func := "cubby/cubbylaw21.AskNames", spec := "askNames", inPlace := ["internal/bytealg.IndexByteString", "internal/bytealg.IndexString"], named := ["internal/bytealg.MaxLen", "unicode/utf8.first", "unicode/utf8.acceptRanges"], apart := false, laid := [("unicode/utf8.acceptRanges", laid_unicode_utf8_acceptRanges), ("unicode/utf8.first", laid_unicode_utf8_first)] }
def AskNamesSaid : Prop := askNamesRow.holds Tryd.pinned (OpenSpec.ofChange askNamesSpec)

/-- ITS FALSE NEIGHBOUR: 'it returns false'. Refute it at one input. -/
def askNamesWrong : ChangeSpec := { name := "askNames", fn := fun _ => fun
  | [d1, d2] => { results := [.lit (.bool false)], args := [d1, d2] }
  | _ => none }
def AskNamesWrongFalsely : Prop := askNamesRow.holds Tryd.pinned (OpenSpec.ofChange askNamesWrong)

/-- 'cubbylaw21.AskParses': WHATEVER THE INPUT: true; the input reads as it did. -/
def askParsesSpec : ChangeSpec := { name := "askParses", fn := fun _ => fun
  | [d1, d2] => { results := [.lit (.bool true)], args := [d1, d2] }
  | _ => none }
def askParsesRow : OpenClaim := { program := "ytbipipbfiekbgaadoor", sum := "ec7ad1033f9a033279a38af94b3020e1ddc8f4fc6cb0d19d69a8b611cf0c2beb", func := "cubby/cubbylaw21.AskParses", spec := "askParses", inPlace := ["internal/bytealg.IndexByteString", "internal/bytealg.IndexString"], named := ["internal/bytealg.MaxLen", "unicode/utf8.first", "unicode/utf8.acceptRanges"], apart := false, laid := [("unicode/utf8.acceptRanges", laid_unicode_utf8_acceptRanges), ("unicode/utf8.first", laid_unicode_utf8_first)] }
def AskParsesSaid : Prop := askParsesRow.holds Tryd.pinned (OpenSpec.ofChange askParsesSpec)

/-- ITS FALSE NEIGHBOUR: 'it returns false'. Refute it at one input. -/
def askParsesWrong : ChangeSpec := { name := "askParses", fn := fun _ => fun
  | [d1, d2] => { results := [.lit (.bool false)], args := [d1, d2] }
  | _ => none }
def AskParsesWrongFalsely : Prop := askParsesRow.holds Tryd.pinned (OpenSpec.ofChange askParsesWrong)

/-- 'cubbylaw07.IrSpoilt': WHATEVER THE INPUT: true; the input reads as it did. -/
def irSpoiltSpec : ChangeSpec := { name := "irSpoilt", fn := fun _ => fun
  | [d1, d2, d3] => { results := [.lit (.bool true)], args := [d1, d2, d3] }
  | _ => none }
def irSpoiltRow : OpenClaim := { program := "ytbipipbfiekbgaadoor", sum := "ec7ad1033f9a033279a38af94b3020e1ddc8f4fc6cb0d19d69a8b611cf0c2beb", func := "cubby/cubbylaw07.IrSpoilt", spec := "irSpoilt", inPlace := ["internal/bytealg.IndexByteString", "internal/bytealg.IndexString"], unfollowed := true, recurses := true, named := ["unicode/utf8.first", "unicode/utf8.acceptRanges", "cubby/ir.shapes", "internal/bytealg.MaxLen"], apart := false, laid := [("unicode/utf8.acceptRanges", laid_unicode_utf8_acceptRanges), ("cubby/ir.shapes", laid_cubby_ir_shapes), ("unicode/utf8.first", laid_unicode_utf8_first)] }
def IrSpoiltSaid : Prop := irSpoiltRow.holds Tryd.pinned (OpenSpec.ofChange irSpoiltSpec)

/-- ITS FALSE NEIGHBOUR: 'it returns false'. Refute it at one input. -/
def irSpoiltWrong : ChangeSpec := { name := "irSpoilt", fn := fun _ => fun
  | [d1, d2, d3] => { results := [.lit (.bool false)], args := [d1, d2, d3] }
  | _ => none }
def IrSpoiltWrongFalsely : Prop := irSpoiltRow.holds Tryd.pinned (OpenSpec.ofChange irSpoiltWrong)

/- THE SECOND FORM. 'bulk': how many values and letters a reading holds, each counted each time it is reached (what is shared counts as often as it is met; a slice's spare places count too). A statement '..UptoSaid' is the law's where the arguments, and the package variables that the reading takes, are together of bulk at most 1048576: NARROWER than '..Said'. Prove '..Said' where nothing that the law and all that it calls make is longer than what came in: it says more and counts as full. Else prove '..UptoSaid'. A law counts once. -/
mutual
def uptoBulk {H : Type} : DataW H → Nat
  | .lit (.string bytes) => bytes.length + 1
  | .lit _ => 1
  | .nil => 1
  | .ptr d => uptoBulk d + 1
  | .slice elems spare => uptoBulkAll elems + uptoBulkAll spare + 1
  | .agg parts => uptoBulkAll parts + 1
  | .iface _ d => uptoBulk d + 1
  | .map entries => uptoBulkEntries entries + 1
  | .held _ => 1
def uptoBulkAll {H : Type} : List (DataW H) → Nat
  | [] => 0
  | d :: r => uptoBulk d + uptoBulkAll r
def uptoBulkEntries {H : Type} : List (Lit × DataW H) → Nat
  | [] => 0
  | x :: r => uptoBulkEntry x + uptoBulkEntries r
def uptoBulkEntry {H : Type} : Lit × DataW H → Nat
  | (.string bytes, d) => bytes.length + uptoBulk d + 1
  | (_, d) => uptoBulk d + 1
 end
def uptoSmall : (H : Type) → List (DataW H) → Bool := fun _ ds => decide (uptoBulkAll ds ≤ 1048576)
def OpenSpec.upto (s : _root_.Go.ChangeSpec) : _root_.Go.OpenSpec := { _root_.Go.OpenSpec.ofChange s with cond := some uptoSmall }

/-- 'cubbylaw13.MachSpoilt', WHERE WHAT IT READS IS OF BULK AT MOST 1048576: true; the input reads as it did. -/
def machSpoiltUptoRow : OpenClaim := { program := "ytbipipbfiekbgaadoor", sum := "ec7ad1033f9a033279a38af94b3020e1ddc8f4fc6cb0d19d69a8b611cf0c2beb", func := "cubby/cubbylaw13.MachSpoilt", spec := "machSpoilt", inPlace := ["internal/bytealg.IndexByteString", "internal/bytealg.IndexString"], unfollowed := true, recurses := true, named := ["unicode/utf8.first", "unicode/utf8.acceptRanges", "cubby/ir.shapes", "internal/bytealg.MaxLen"], apart := false, laid := [("unicode/utf8.acceptRanges", laid_unicode_utf8_acceptRanges), ("cubby/ir.shapes", laid_cubby_ir_shapes), ("unicode/utf8.first", laid_unicode_utf8_first)], narrowed := true }
def MachSpoiltUptoSaid : Prop := machSpoiltUptoRow.holds Tryd.pinned (OpenSpec.upto machSpoiltSpec)

/-- 'cubbylaw13.MachChecks', WHERE WHAT IT READS IS OF BULK AT MOST 1048576: true; the input reads as it did. -/
def machChecksUptoRow : OpenClaim := { program := "ytbipipbfiekbgaadoor", sum := "ec7ad1033f9a033279a38af94b3020e1ddc8f4fc6cb0d19d69a8b611cf0c2beb", func := "cubby/cubbylaw13.MachChecks", spec := "machChecks", inPlace := ["internal/bytealg.IndexByteString", "internal/bytealg.IndexString"], unfollowed := true, recurses := true, named := ["unicode/utf8.first", "unicode/utf8.acceptRanges", "cubby/ir.shapes", "internal/bytealg.MaxLen"], apart := false, laid := [("unicode/utf8.acceptRanges", laid_unicode_utf8_acceptRanges), ("cubby/ir.shapes", laid_cubby_ir_shapes), ("unicode/utf8.first", laid_unicode_utf8_first)], narrowed := true }
def MachChecksUptoSaid : Prop := machChecksUptoRow.holds Tryd.pinned (OpenSpec.upto machChecksSpec)

/-- 'cubbylaw13.MachFuncs', WHERE WHAT IT READS IS OF BULK AT MOST 1048576: true; the input reads as it did. -/
def machFuncsUptoRow : OpenClaim := { program := "ytbipipbfiekbgaadoor", sum := "ec7ad1033f9a033279a38af94b3020e1ddc8f4fc6cb0d19d69a8b611cf0c2beb", func := "cubby/cubbylaw13.MachFuncs", spec := "machFuncs", inPlace := ["internal/bytealg.IndexByteString", "internal/bytealg.IndexString"], unfollowed := true, recurses := true, named := ["cubby/ir.shapes", "unicode/utf8.first", "unicode/utf8.acceptRanges", "internal/bytealg.MaxLen"], apart := false, laid := [("unicode/utf8.acceptRanges", laid_unicode_utf8_acceptRanges), ("cubby/ir.shapes", laid_cubby_ir_shapes), ("unicode/utf8.first", laid_unicode_utf8_first)], narrowed := true }
def MachFuncsUptoSaid : Prop := machFuncsUptoRow.holds Tryd.pinned (OpenSpec.upto machFuncsSpec)

/-- 'cubbylaw21.AskNames', WHERE WHAT IT READS IS OF BULK AT MOST 1048576: true; the input reads as it did. -/
def askNamesUptoRow : OpenClaim := { program := "ytbipipbfiekbgaadoor", sum := "ec7ad1033f9a033279a38af94b3020e1ddc8f4fc6cb0d19d69a8b611cf0c2beb", func := "cubby/cubbylaw21.AskNames", spec := "askNames", inPlace := ["internal/bytealg.IndexByteString", "internal/bytealg.IndexString"], named := ["internal/bytealg.MaxLen", "unicode/utf8.first", "unicode/utf8.acceptRanges"], apart := false, laid := [("unicode/utf8.acceptRanges", laid_unicode_utf8_acceptRanges), ("unicode/utf8.first", laid_unicode_utf8_first)], narrowed := true }
def AskNamesUptoSaid : Prop := askNamesUptoRow.holds Tryd.pinned (OpenSpec.upto askNamesSpec)

/-- 'cubbylaw21.AskParses', WHERE WHAT IT READS IS OF BULK AT MOST 1048576: true; the input reads as it did. -/
def askParsesUptoRow : OpenClaim := { program := "ytbipipbfiekbgaadoor", sum := "ec7ad1033f9a033279a38af94b3020e1ddc8f4fc6cb0d19d69a8b611cf0c2beb", func := "cubby/cubbylaw21.AskParses", spec := "askParses", inPlace := ["internal/bytealg.IndexByteString", "internal/bytealg.IndexString"], named := ["internal/bytealg.MaxLen", "unicode/utf8.first", "unicode/utf8.acceptRanges"], apart := false, laid := [("unicode/utf8.acceptRanges", laid_unicode_utf8_acceptRanges), ("unicode/utf8.first", laid_unicode_utf8_first)], narrowed := true }
def AskParsesUptoSaid : Prop := askParsesUptoRow.holds Tryd.pinned (OpenSpec.upto askParsesSpec)

/-- 'cubbylaw07.IrSpoilt', WHERE WHAT IT READS IS OF BULK AT MOST 1048576: true; the input reads as it did. -/
def irSpoiltUptoRow : OpenClaim := { program := "ytbipipbfiekbgaadoor", sum := "ec7ad1033f9a033279a38af94b3020e1ddc8f4fc6cb0d19d69a8b611cf0c2beb", func := "cubby/cubbylaw07.IrSpoilt", spec := "irSpoilt", inPlace := ["internal/bytealg.IndexByteString", "internal/bytealg.IndexString"], unfollowed := true, recurses := true, named := ["unicode/utf8.first", "unicode/utf8.acceptRanges", "cubby/ir.shapes", "internal/bytealg.MaxLen"], apart := false, laid := [("unicode/utf8.acceptRanges", laid_unicode_utf8_acceptRanges), ("cubby/ir.shapes", laid_cubby_ir_shapes), ("unicode/utf8.first", laid_unicode_utf8_first)], narrowed := true }
def IrSpoiltUptoSaid : Prop := irSpoiltUptoRow.holds Tryd.pinned (OpenSpec.upto irSpoiltSpec)

end Rows
end Go.Proofs.YtbipipbfiekbgaaDoor
