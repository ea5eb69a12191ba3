/-
  NARROWER THAN 'FOR EVERY INPUT', by the rows' own cells (each row's printed sentence says how): IrSpoilt: laid · MachSpoilt: laid.
  DERIVED. THE GIVEN ROWS OF THIS SEAT. 2 by the template 'for every input the law returns true; each argument reads behind the call as it read before'; 0 by the template 'total and deterministic' (their statements: YthidcafbhjahdaaDoorTotals.lean).
  GIVEN WITH THE SEED: the statements are not yours to turn. If you find one false, say at which input.
  Laid BY PROGRAM, IN A SANDBOX (cutbox-rows.mjs): the forced cells as the released guide's own fill.sh prints them over the translation f2dae76fcb4b0d6f… (all of the seat's roots in one cut). By AI agents, Wed Nov 11 2026. No macro, syntax, notation, axiom, sorry.
-/
import Derived.Test.YthidcafbhjahdaaDoorChecked
import GoSem.PinnedTables
import GoSem.Claim
import GoSem.ClaimJoined
import GoSem.ClaimMapViews
import Derived.JoinedTies
import Derived.KernelRfl
namespace Go.Proofs.YthidcafbhjahdaaDoor
/- THE CELL 'sum', in the pinned program and in every row, IS THE sha256 OF THE DUMP (.gsa) THAT YthidcafbhjahdaaDoorProg.lean LOADS. Nothing in Lean hashes anything: it is a label: what it is worth is what the hold of that sum in a sandbox is worth. -/
noncomputable def Tryd.pinned : Pinned := { name := "ythidcafbhjahdaadoor", sum := "f2dae76fcb4b0d6f72896e71a559e16b0b991efcb1deb2fb8dab4b9e3e37904a", checked := Tryd.checked }
namespace Rows
def none {H : Type} : Left H := { results := [], args := [] }

/- WHAT THE LISTED PACKAGE-LEVEL VARIABLES READ AS WHEN THE CALL BEGINS. Each datum BY PROGRAM (the guide's laid-datum.mjs) off the statement by which the dump's own 'gosem.cut.vars' lays the variable. In a bare row this is a premise. The card (YthidcafbhjahdaaDoorCards.lean) ties it to the program's text. -/
def laid_unicode_utf8_acceptRanges {H : Type} : DataW H := .agg [.agg [.lit (.int .u8 128), .lit (.int .u8 191)], .agg [.lit (.int .u8 160), .lit (.int .u8 191)], .agg [.lit (.int .u8 128), .lit (.int .u8 159)], .agg [.lit (.int .u8 144), .lit (.int .u8 191)], .agg [.lit (.int .u8 128), .lit (.int .u8 143)], .agg [.lit (.int .u8 0), .lit (.int .u8 0)], .agg [.lit (.int .u8 0), .lit (.int .u8 0)], .agg [.lit (.int .u8 0), .lit (.int .u8 0)], .agg [.lit (.int .u8 0), .lit (.int .u8 0)], .agg [.lit (.int .u8 0), .lit (.int .u8 0)], .agg [.lit (.int .u8 0), .lit (.int .u8 0)], .agg [.lit (.int .u8 0), .lit (.int .u8 0)], .agg [.lit (.int .u8 0), .lit (.int .u8 0)], .agg [.lit (.int .u8 0), .lit (.int .u8 0)], .agg [.lit (.int .u8 0), .lit (.int .u8 0)], .agg [.lit (.int .u8 0), .lit (.int .u8 0)]]
def laid_cubby_ir_shapes {H : Type} : DataW H := .agg [.lit (.string []), .lit (.string [114, 110, 32]), .lit (.string [114, 114, 32]), .lit (.string [114, 114, 114]), .lit (.string [114, 114, 114]), .lit (.string [114, 114, 114]), .lit (.string [114, 114, 114]), .lit (.string [114, 114, 114]), .lit (.string [114, 114, 32]), .lit (.string [32, 114, 114]), .lit (.string [32, 114, 32]), .lit (.string [114, 32, 32]), .lit (.string [32, 116, 32]), .lit (.string [116, 114, 116]), .lit (.string [32, 114, 32])]
/-- One of Go's own tables, pinned by name: the form's constant. -/
def laid_unicode_utf8_first : DataW Unit := Go.Pinned.utf8First

/-- 'cubbylaw07.IrSpoilt': WHATEVER THE INPUT: true; the input reads as it did. -/
def irSpoiltSpec : ChangeSpec := { name := "irSpoilt", fn := fun _ => fun
  | [d1, d2, d3] => { results := [.lit (.bool true)], args := [d1, d2, d3] }
  | _ => none }
def irSpoiltRow : OpenClaim := { program := "ythidcafbhjahdaadoor", sum := "f2dae76fcb4b0d6f72896e71a559e16b0b991efcb1deb2fb8dab4b9e3e37904a", func := "cubby/cubbylaw07.IrSpoilt", spec := "irSpoilt", inPlace := ["internal/bytealg.IndexByteString", "internal/bytealg.IndexString"], unfollowed := true, recurses := true, named := ["unicode/utf8.first", "unicode/utf8.acceptRanges", "cubby/ir.shapes", "internal/bytealg.MaxLen"], apart := false, laid := [("unicode/utf8.acceptRanges", laid_unicode_utf8_acceptRanges), ("cubby/ir.shapes", laid_cubby_ir_shapes), ("unicode/utf8.first", laid_unicode_utf8_first)] }
def IrSpoiltSaid : Prop := irSpoiltRow.holds Tryd.pinned (OpenSpec.ofChange irSpoiltSpec)

/-- ITS FALSE NEIGHBOUR: 'it returns false'. Refute it at one input. -/
def irSpoiltWrong : ChangeSpec := { name := "irSpoilt", fn := fun _ => fun
  | [d1, d2, d3] => { results := [.lit (.bool false)], args := [d1, d2, d3] }
  | _ => none }
def IrSpoiltWrongFalsely : Prop := irSpoiltRow.holds Tryd.pinned (OpenSpec.ofChange irSpoiltWrong)

/-- 'cubbylaw13.MachSpoilt': WHATEVER THE INPUT: true; the input reads as it did. -/
def machSpoiltSpec : ChangeSpec := { name := "machSpoilt", fn := fun _ => fun
  | [d1, d2, d3] => { results := [.lit (.bool true)], args := [d1, d2, d3] }
  | _ => none }
def machSpoiltRow : OpenClaim := { program := "ythidcafbhjahdaadoor", sum := "f2dae76fcb4b0d6f72896e71a559e16b0b991efcb1deb2fb8dab4b9e3e37904a", func := "cubby/cubbylaw13.MachSpoilt", spec := "machSpoilt", inPlace := ["internal/bytealg.IndexByteString", "internal/bytealg.IndexString"], unfollowed := true, recurses := true, named := ["unicode/utf8.first", "unicode/utf8.acceptRanges", "cubby/ir.shapes", "internal/bytealg.MaxLen"], apart := false, laid := [("unicode/utf8.acceptRanges", laid_unicode_utf8_acceptRanges), ("cubby/ir.shapes", laid_cubby_ir_shapes), ("unicode/utf8.first", laid_unicode_utf8_first)] }
def MachSpoiltSaid : Prop := machSpoiltRow.holds Tryd.pinned (OpenSpec.ofChange machSpoiltSpec)

/-- ITS FALSE NEIGHBOUR: 'it returns false'. Refute it at one input. -/
def machSpoiltWrong : ChangeSpec := { name := "machSpoilt", fn := fun _ => fun
  | [d1, d2, d3] => { results := [.lit (.bool false)], args := [d1, d2, d3] }
  | _ => none }
def MachSpoiltWrongFalsely : Prop := machSpoiltRow.holds Tryd.pinned (OpenSpec.ofChange machSpoiltWrong)

/- THE SECOND FORM. 'bulk': how many values and letters a reading holds, each counted each time it is reached (what is shared counts as often as it is met; a slice's spare places count too). A statement '..UptoSaid' is the law's where the arguments, and the package variables that the reading takes, are together of bulk at most 1048576: NARROWER than '..Said'. Prove '..Said' where nothing that the law and all that it calls make is longer than what came in: it says more and counts as full. Else prove '..UptoSaid'. A law counts once. -/
mutual
def uptoBulk {H : Type} : DataW H → Nat
  | .lit (.string bytes) => bytes.length + 1
  | .lit _ => 1
  | .nil => 1
  | .ptr d => uptoBulk d + 1
  | .slice elems spare => uptoBulkAll elems + uptoBulkAll spare + 1
  | .agg parts => uptoBulkAll parts + 1
  | .iface _ d => uptoBulk d + 1
  | .map entries => uptoBulkEntries entries + 1
  | .held _ => 1
def uptoBulkAll {H : Type} : List (DataW H) → Nat
  | [] => 0
  | d :: r => uptoBulk d + uptoBulkAll r
def uptoBulkEntries {H : Type} : List (Lit × DataW H) → Nat
  | [] => 0
  | x :: r => uptoBulkEntry x + uptoBulkEntries r
def uptoBulkEntry {H : Type} : Lit × DataW H → Nat
  | (.string bytes, d) => bytes.length + uptoBulk d + 1
  | (_, d) => uptoBulk d + 1
 end
def uptoSmall : (H : Type) → List (DataW H) → Bool := fun _ ds => decide (uptoBulkAll ds ≤ 1048576)
def OpenSpec.upto (s : _root_.Go.ChangeSpec) : _root_.Go.OpenSpec := { _root_.Go.OpenSpec.ofChange s with cond := some uptoSmall }

/-- 'cubbylaw07.IrSpoilt', WHERE WHAT IT READS IS OF BULK AT MOST 1048576: true; the input reads as it did. -/
def irSpoiltUptoRow : OpenClaim := { program := "ythidcafbhjahdaadoor", sum := "f2dae76fcb4b0d6f72896e71a559e16b0b991efcb1deb2fb8dab4b9e3e37904a", func := "cubby/cubbylaw07.IrSpoilt", spec := "irSpoilt", inPlace := ["internal/bytealg.IndexByteString", "internal/bytealg.IndexString"], unfollowed := true, recurses := true, named := ["unicode/utf8.first", "unicode/utf8.acceptRanges", "cubby/ir.shapes", "internal/bytealg.MaxLen"], apart := false, laid := [("unicode/utf8.acceptRanges", laid_unicode_utf8_acceptRanges), ("cubby/ir.shapes", laid_cubby_ir_shapes), ("unicode/utf8.first", laid_unicode_utf8_first)], narrowed := true }
def IrSpoiltUptoSaid : Prop := irSpoiltUptoRow.holds Tryd.pinned (OpenSpec.upto irSpoiltSpec)

/-- 'cubbylaw13.MachSpoilt', WHERE WHAT IT READS IS OF BULK AT MOST 1048576: true; the input reads as it did. -/
def machSpoiltUptoRow : OpenClaim := { program := "ythidcafbhjahdaadoor", sum := "f2dae76fcb4b0d6f72896e71a559e16b0b991efcb1deb2fb8dab4b9e3e37904a", func := "cubby/cubbylaw13.MachSpoilt", spec := "machSpoilt", inPlace := ["internal/bytealg.IndexByteString", "internal/bytealg.IndexString"], unfollowed := true, recurses := true, named := ["unicode/utf8.first", "unicode/utf8.acceptRanges", "cubby/ir.shapes", "internal/bytealg.MaxLen"], apart := false, laid := [("unicode/utf8.acceptRanges", laid_unicode_utf8_acceptRanges), ("cubby/ir.shapes", laid_cubby_ir_shapes), ("unicode/utf8.first", laid_unicode_utf8_first)], narrowed := true }
def MachSpoiltUptoSaid : Prop := machSpoiltUptoRow.holds Tryd.pinned (OpenSpec.upto machSpoiltSpec)

end Rows
end Go.Proofs.YthidcafbhjahdaaDoor
