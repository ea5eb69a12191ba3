/-
  NARROWER THAN 'FOR EVERY INPUT', by the rows' own cells (each row's printed sentence says how): IrReads: laid · MachReads: laid · IrNames: laid · IrChecks: laid · IrSpoilt: laid · IrBlocks: laid.
  DERIVED. THE GIVEN ROWS OF THIS SEAT. 6 by the template 'for every input the law returns true; each argument reads behind the call as it read before'; 0 by the template 'total and deterministic' (their statements: YtgmklfaknomakaaDoorTotals.lean).
  GIVEN WITH THE SEED: the statements are not yours to turn. If you find one false, say at which input.
  Laid BY PROGRAM, IN A SANDBOX (cutbox-rows.mjs): the forced cells as the released guide's own fill.sh prints them over the translation 19b5a09ac5c3e631… (all of the seat's roots in one cut). By AI agents, Wed Nov 11 2026. No macro, syntax, notation, axiom, sorry.
-/
import Derived.Test.YtgmklfaknomakaaDoorChecked
import GoSem.PinnedTables
import GoSem.Claim
import GoSem.ClaimJoined
import GoSem.ClaimMapViews
import Derived.JoinedTies
import Derived.KernelRfl
namespace Go.Proofs.YtgmklfaknomakaaDoor
/- THE CELL 'sum', in the pinned program and in every row, IS THE sha256 OF THE DUMP (.gsa) THAT YtgmklfaknomakaaDoorProg.lean LOADS. Nothing in Lean hashes anything: it is a label: what it is worth is what the hold of that sum in a sandbox is worth. -/
noncomputable def Tryd.pinned : Pinned := { name := "ytgmklfaknomakaadoor", sum := "19b5a09ac5c3e6312a63153c0636c4658e3c33c64611e4c724f84ae5e23232f3", checked := Tryd.checked }
namespace Rows
def none {H : Type} : Left H := { results := [], args := [] }

/- WHAT THE LISTED PACKAGE-LEVEL VARIABLES READ AS WHEN THE CALL BEGINS. Each datum BY PROGRAM (the guide's laid-datum.mjs) off the statement by which the dump's own 'gosem.cut.vars' lays the variable. In a bare row this is a premise. The card (YtgmklfaknomakaaDoorCards.lean) ties it to the program's text. -/
def laid_cubby_ir_shapes {H : Type} : DataW H := .agg [.lit (.string []), .lit (.string [114, 110, 32]), .lit (.string [114, 114, 32]), .lit (.string [114, 114, 114]), .lit (.string [114, 114, 114]), .lit (.string [114, 114, 114]), .lit (.string [114, 114, 114]), .lit (.string [114, 114, 114]), .lit (.string [114, 114, 32]), .lit (.string [32, 114, 114]), .lit (.string [32, 114, 32]), .lit (.string [114, 32, 32]), .lit (.string [32, 116, 32]), .lit (.string [116, 114, 116]), .lit (.string [32, 114, 32])]
def laid_unicode_utf8_acceptRanges {H : Type} : DataW H := .agg [.agg [.lit (.int .u8 128), .lit (.int .u8 191)], .agg [.lit (.int .u8 160), .lit (.int .u8 191)], .agg [.lit (.int .u8 128), .lit (.int .u8 159)], .agg [.lit (.int .u8 144), .lit (.int .u8 191)], .agg [.lit (.int .u8 128), .lit (.int .u8 143)], .agg [.lit (.int .u8 0), .lit (.int .u8 0)], .agg [.lit (.int .u8 0), .lit (.int .u8 0)], .agg [.lit (.int .u8 0), .lit (.int .u8 0)], .agg [.lit (.int .u8 0), .lit (.int .u8 0)], .agg [.lit (.int .u8 0), .lit (.int .u8 0)], .agg [.lit (.int .u8 0), .lit (.int .u8 0)], .agg [.lit (.int .u8 0), .lit (.int .u8 0)], .agg [.lit (.int .u8 0), .lit (.int .u8 0)], .agg [.lit (.int .u8 0), .lit (.int .u8 0)], .agg [.lit (.int .u8 0), .lit (.int .u8 0)], .agg [.lit (.int .u8 0), .lit (.int .u8 0)]]
/-- One of Go's own tables, pinned by name: the form's constant. -/
def laid_unicode_utf8_first : DataW Unit := Go.Pinned.utf8First

/-- 'cubbylaw07.IrReads': WHATEVER THE INPUT: true; the input reads as it did. -/
def irReadsSpec : ChangeSpec := { name := "irReads", fn := fun _ => fun
  | [d1, d2] => { results := [.lit (.bool true)], args := [d1, d2] }
  | _ => none }
def irReadsRow : OpenClaim := { program := "ytgmklfaknomakaadoor", sum := "19b5a09ac5c3e6312a63153c0636c4658e3c33c64611e4c724f84ae5e23232f3", func := "cubby/cubbylaw07.IrReads", spec := "irReads", named := ["cubby/ir.shapes"], apart := false, laid := [("cubby/ir.shapes", laid_cubby_ir_shapes)] }
def IrReadsSaid : Prop := irReadsRow.holds Tryd.pinned (OpenSpec.ofChange irReadsSpec)

/-- ITS FALSE NEIGHBOUR: 'it returns false'. Refute it at one input. -/
def irReadsWrong : ChangeSpec := { name := "irReads", fn := fun _ => fun
  | [d1, d2] => { results := [.lit (.bool false)], args := [d1, d2] }
  | _ => none }
def IrReadsWrongFalsely : Prop := irReadsRow.holds Tryd.pinned (OpenSpec.ofChange irReadsWrong)

/-- 'cubbylaw13.MachReads': WHATEVER THE INPUT: true; the input reads as it did. -/
def machReadsSpec : ChangeSpec := { name := "machReads", fn := fun _ => fun
  | [d] => { results := [.lit (.bool true)], args := [d] }
  | _ => none }
def machReadsRow : OpenClaim := { program := "ytgmklfaknomakaadoor", sum := "19b5a09ac5c3e6312a63153c0636c4658e3c33c64611e4c724f84ae5e23232f3", func := "cubby/cubbylaw13.MachReads", spec := "machReads", named := ["cubby/ir.shapes"], apart := false, laid := [("cubby/ir.shapes", laid_cubby_ir_shapes)] }
def MachReadsSaid : Prop := machReadsRow.holds Tryd.pinned (OpenSpec.ofChange machReadsSpec)

/-- ITS FALSE NEIGHBOUR: 'it returns false'. Refute it at one input. -/
def machReadsWrong : ChangeSpec := { name := "machReads", fn := fun _ => fun
  | [d] => { results := [.lit (.bool false)], args := [d] }
  | _ => none }
def MachReadsWrongFalsely : Prop := machReadsRow.holds Tryd.pinned (OpenSpec.ofChange machReadsWrong)

/-- 'cubbylaw07.IrNames': WHATEVER THE INPUT: true; the input reads as it did. -/
def irNamesSpec : ChangeSpec := { name := "irNames", fn := fun _ => fun
  | [d] => { results := [.lit (.bool true)], args := [d] }
  | _ => none }
def irNamesRow : OpenClaim := { program := "ytgmklfaknomakaadoor", sum := "19b5a09ac5c3e6312a63153c0636c4658e3c33c64611e4c724f84ae5e23232f3", func := "cubby/cubbylaw07.IrNames", spec := "irNames", inPlace := ["internal/bytealg.IndexByteString", "internal/bytealg.IndexString"], named := ["unicode/utf8.first", "unicode/utf8.acceptRanges", "internal/bytealg.MaxLen"], apart := false, laid := [("unicode/utf8.acceptRanges", laid_unicode_utf8_acceptRanges), ("unicode/utf8.first", laid_unicode_utf8_first)] }
def IrNamesSaid : Prop := irNamesRow.holds Tryd.pinned (OpenSpec.ofChange irNamesSpec)

/-- ITS FALSE NEIGHBOUR: 'it returns false'. Refute it at one input. -/
def irNamesWrong : ChangeSpec := { name := "irNames", fn := fun _ => fun
  | [d] => { results := [.lit (.bool false)], args := [d] }
  | _ => none }
def IrNamesWrongFalsely : Prop := irNamesRow.holds Tryd.pinned (OpenSpec.ofChange irNamesWrong)

/-- 'cubbylaw07.IrChecks': WHATEVER THE INPUT: true; the input reads as it did. -/
def irChecksSpec : ChangeSpec := { name := "irChecks", fn := fun _ => fun
  | [d] => { results := [.lit (.bool true)], args := [d] }
  | _ => none }
def irChecksRow : OpenClaim := { program := "ytgmklfaknomakaadoor", sum := "19b5a09ac5c3e6312a63153c0636c4658e3c33c64611e4c724f84ae5e23232f3", func := "cubby/cubbylaw07.IrChecks", spec := "irChecks", inPlace := ["internal/bytealg.IndexByteString", "internal/bytealg.IndexString"], unfollowed := true, recurses := true, named := ["unicode/utf8.first", "unicode/utf8.acceptRanges", "cubby/ir.shapes", "internal/bytealg.MaxLen"], apart := false, laid := [("unicode/utf8.acceptRanges", laid_unicode_utf8_acceptRanges), ("cubby/ir.shapes", laid_cubby_ir_shapes), ("unicode/utf8.first", laid_unicode_utf8_first)] }
def IrChecksSaid : Prop := irChecksRow.holds Tryd.pinned (OpenSpec.ofChange irChecksSpec)

/-- ITS FALSE NEIGHBOUR: 'it returns false'. Refute it at one input. -/
def irChecksWrong : ChangeSpec := { name := "irChecks", fn := fun _ => fun
  | [d] => { results := [.lit (.bool false)], args := [d] }
  | _ => none }
def IrChecksWrongFalsely : Prop := irChecksRow.holds Tryd.pinned (OpenSpec.ofChange irChecksWrong)

/-- 'cubbylaw07.IrSpoilt': WHATEVER THE INPUT: true; the input reads as it did. -/
def irSpoiltSpec : ChangeSpec := { name := "irSpoilt", fn := fun _ => fun
  | [d1, d2, d3] => { results := [.lit (.bool true)], args := [d1, d2, d3] }
  | _ => none }
def irSpoiltRow : OpenClaim := { program := "ytgmklfaknomakaadoor", sum := "19b5a09ac5c3e6312a63153c0636c4658e3c33c64611e4c724f84ae5e23232f3", func := "cubby/cubbylaw07.IrSpoilt", spec := "irSpoilt", inPlace := ["internal/bytealg.IndexByteString", "internal/bytealg.IndexString"], unfollowed := true, recurses := true, named := ["unicode/utf8.first", "unicode/utf8.acceptRanges", "cubby/ir.shapes", "internal/bytealg.MaxLen"], apart := false, laid := [("unicode/utf8.acceptRanges", laid_unicode_utf8_acceptRanges), ("cubby/ir.shapes", laid_cubby_ir_shapes), ("unicode/utf8.first", laid_unicode_utf8_first)] }
def IrSpoiltSaid : Prop := irSpoiltRow.holds Tryd.pinned (OpenSpec.ofChange irSpoiltSpec)

/-- ITS FALSE NEIGHBOUR: 'it returns false'. Refute it at one input. -/
def irSpoiltWrong : ChangeSpec := { name := "irSpoilt", fn := fun _ => fun
  | [d1, d2, d3] => { results := [.lit (.bool false)], args := [d1, d2, d3] }
  | _ => none }
def IrSpoiltWrongFalsely : Prop := irSpoiltRow.holds Tryd.pinned (OpenSpec.ofChange irSpoiltWrong)

/-- 'cubbylaw07.IrBlocks': WHATEVER THE INPUT: true; the input reads as it did. -/
def irBlocksSpec : ChangeSpec := { name := "irBlocks", fn := fun _ => fun
  | [d1, d2, d3] => { results := [.lit (.bool true)], args := [d1, d2, d3] }
  | _ => none }
def irBlocksRow : OpenClaim := { program := "ytgmklfaknomakaadoor", sum := "19b5a09ac5c3e6312a63153c0636c4658e3c33c64611e4c724f84ae5e23232f3", func := "cubby/cubbylaw07.IrBlocks", spec := "irBlocks", inPlace := ["internal/bytealg.IndexByteString", "internal/bytealg.IndexString"], unfollowed := true, recurses := true, named := ["unicode/utf8.first", "unicode/utf8.acceptRanges", "cubby/ir.shapes", "internal/bytealg.MaxLen"], apart := false, laid := [("unicode/utf8.acceptRanges", laid_unicode_utf8_acceptRanges), ("cubby/ir.shapes", laid_cubby_ir_shapes), ("unicode/utf8.first", laid_unicode_utf8_first)] }
def IrBlocksSaid : Prop := irBlocksRow.holds Tryd.pinned (OpenSpec.ofChange irBlocksSpec)

/-- ITS FALSE NEIGHBOUR: 'it returns false'. Refute it at one input. -/
def irBlocksWrong : ChangeSpec := { name := "irBlocks", fn := fun _ => fun
  | [d1, d2, d3] => { results := [.lit (.bool false)], args := [d1, d2, d3] }
  | _ => none }
def IrBlocksWrongFalsely : Prop := irBlocksRow.holds Tryd.pinned (OpenSpec.ofChange irBlocksWrong)

/- THE SECOND FORM. 'bulk': how many values and letters a reading holds, each counted each time it is reached (what is shared counts as often as it is met; a slice's spare places count too). A statement '..UptoSaid' is the law's where the arguments, and the package variables that the reading takes, are together of bulk at most 1048576: NARROWER than '..Said'. Prove '..Said' where nothing that the law and all that it calls make is longer than what came in: it says more and counts as full. Else prove '..UptoSaid'. A law counts once. -/
mutual
def uptoBulk {H : Type} : DataW H → Nat
  | .lit (.string bytes) => bytes.length + 1
  | .lit _ => 1
  | .nil => 1
  | .ptr d => uptoBulk d + 1
  | .slice elems spare => uptoBulkAll elems + uptoBulkAll spare + 1
  | .agg parts => uptoBulkAll parts + 1
  | .iface _ d => uptoBulk d + 1
  | .map entries => uptoBulkEntries entries + 1
  | .held _ => 1
def uptoBulkAll {H : Type} : List (DataW H) → Nat
  | [] => 0
  | d :: r => uptoBulk d + uptoBulkAll r
def uptoBulkEntries {H : Type} : List (Lit × DataW H) → Nat
  | [] => 0
  | x :: r => uptoBulkEntry x + uptoBulkEntries r
def uptoBulkEntry {H : Type} : Lit × DataW H → Nat
  | (.string bytes, d) => bytes.length + uptoBulk d + 1
  | (_, d) => uptoBulk d + 1
 end
def uptoSmall : (H : Type) → List (DataW H) → Bool := fun _ ds => decide (uptoBulkAll ds ≤ 1048576)
def OpenSpec.upto (s : _root_.Go.ChangeSpec) : _root_.Go.OpenSpec := { _root_.Go.OpenSpec.ofChange s with cond := some uptoSmall }

/-- 'cubbylaw07.IrReads', WHERE WHAT IT READS IS OF BULK AT MOST 1048576: true; the input reads as it did. -/
def irReadsUptoRow : OpenClaim := { program := "ytgmklfaknomakaadoor", sum := "19b5a09ac5c3e6312a63153c0636c4658e3c33c64611e4c724f84ae5e23232f3", func := "cubby/cubbylaw07.IrReads", spec := "irReads", named := ["cubby/ir.shapes"], apart := false, laid := [("cubby/ir.shapes", laid_cubby_ir_shapes)], narrowed := true }
def IrReadsUptoSaid : Prop := irReadsUptoRow.holds Tryd.pinned (OpenSpec.upto irReadsSpec)

/-- 'cubbylaw13.MachReads', WHERE WHAT IT READS IS OF BULK AT MOST 1048576: true; the input reads as it did. -/
def machReadsUptoRow : OpenClaim := { program := "ytgmklfaknomakaadoor", sum := "19b5a09ac5c3e6312a63153c0636c4658e3c33c64611e4c724f84ae5e23232f3", func := "cubby/cubbylaw13.MachReads", spec := "machReads", named := ["cubby/ir.shapes"], apart := false, laid := [("cubby/ir.shapes", laid_cubby_ir_shapes)], narrowed := true }
def MachReadsUptoSaid : Prop := machReadsUptoRow.holds Tryd.pinned (OpenSpec.upto machReadsSpec)

/-- 'cubbylaw07.IrNames', WHERE WHAT IT READS IS OF BULK AT MOST 1048576: true; the input reads as it did. -/
def irNamesUptoRow : OpenClaim := { program := "ytgmklfaknomakaadoor", sum := "19b5a09ac5c3e6312a63153c0636c4658e3c33c64611e4c724f84ae5e23232f3", func := "cubby/cubbylaw07.IrNames", spec := "irNames", inPlace := ["internal/bytealg.IndexByteString", "internal/bytealg.IndexString"], named := ["unicode/utf8.first", "unicode/utf8.acceptRanges", "internal/bytealg.MaxLen"], apart := false, laid := [("unicode/utf8.acceptRanges", laid_unicode_utf8_acceptRanges), ("unicode/utf8.first", laid_unicode_utf8_first)], narrowed := true }
def IrNamesUptoSaid : Prop := irNamesUptoRow.holds Tryd.pinned (OpenSpec.upto irNamesSpec)

/-- 'cubbylaw07.IrChecks', WHERE WHAT IT READS IS OF BULK AT MOST 1048576: true; the input reads as it did. -/
def irChecksUptoRow : OpenClaim := { program := "ytgmklfaknomakaadoor", sum := "19b5a09ac5c3e6312a63153c0636c4658e3c33c64611e4c724f84ae5e23232f3", func := "cubby/cubbylaw07.IrChecks", spec := "irChecks", inPlace := ["internal/bytealg.IndexByteString", "internal/bytealg.IndexString"], unfollowed := true, recurses := true, named := ["unicode/utf8.first", "unicode/utf8.acceptRanges", "cubby/ir.shapes", "internal/bytealg.MaxLen"], apart := false, laid := [("unicode/utf8.acceptRanges", laid_unicode_utf8_acceptRanges), ("cubby/ir.shapes", laid_cubby_ir_shapes), ("unicode/utf8.first", laid_unicode_utf8_first)], narrowed := true }
def IrChecksUptoSaid : Prop := irChecksUptoRow.holds Tryd.pinned (OpenSpec.upto irChecksSpec)

/-- 'cubbylaw07.IrSpoilt', WHERE WHAT IT READS IS OF BULK AT MOST 1048576: true; the input reads as it did. -/
def irSpoiltUptoRow : OpenClaim := { program := "ytgmklfaknomakaadoor", sum := "19b5a09ac5c3e6312a63153c0636c4658e3c33c64611e4c724f84ae5e23232f3", func := "cubby/cubbylaw07.IrSpoilt", spec := "irSpoilt", inPlace := ["internal/bytealg.IndexByteString", "internal/bytealg.IndexString"], unfollowed := true, recurses := true, named := ["unicode/utf8.first", "unicode/utf8.acceptRanges", "cubby/ir.shapes", "internal/bytealg.MaxLen"], apart := false, laid := [("unicode/utf8.acceptRanges", laid_unicode_utf8_acceptRanges), ("cubby/ir.shapes", laid_cubby_ir_shapes), ("unicode/utf8.first", laid_unicode_utf8_first)], narrowed := true }
def IrSpoiltUptoSaid : Prop := irSpoiltUptoRow.holds Tryd.pinned (OpenSpec.upto irSpoiltSpec)

/-- 'cubbylaw07.IrBlocks', WHERE WHAT IT READS IS OF BULK AT MOST 1048576: true; the input reads as it did. -/
def irBlocksUptoRow : OpenClaim := { program := "ytgmklfaknomakaadoor", sum := "19b5a09ac5c3e6312a63153c0636c4658e3c33c64611e4c724f84ae5e23232f3", func := "cubby/cubbylaw07.IrBlocks", spec := "irBlocks", inPlace := ["internal/bytealg.IndexByteString", "internal/bytealg.IndexString"], unfollowed := true, recurses := true, named := ["unicode/utf8.first", "unicode/utf8.acceptRanges", "cubby/ir.shapes", "internal/bytealg.MaxLen"], apart := false, laid := [("unicode/utf8.acceptRanges", laid_unicode_utf8_acceptRanges), ("cubby/ir.shapes", laid_cubby_ir_shapes), ("unicode/utf8.first", laid_unicode_utf8_first)], narrowed := true }
def IrBlocksUptoSaid : Prop := irBlocksUptoRow.holds Tryd.pinned (OpenSpec.upto irBlocksSpec)

end Rows
end Go.Proofs.YtgmklfaknomakaaDoor
