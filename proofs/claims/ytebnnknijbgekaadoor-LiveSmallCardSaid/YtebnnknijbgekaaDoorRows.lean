/-
  NARROWER THAN 'FOR EVERY INPUT', by the rows' own cells (each row's printed sentence says how): MachSpoilt: laid · MachChecks: laid · MachFuncs: laid · LiveAhead: laid · LiveSteps: laid · LiveIn: laid · LiveSmall: laid · SpanNumbers: laid · SpanInside: laid · SpanLive: laid · SpanSpans: laid.
  DERIVED. THE GIVEN ROWS OF THIS SEAT. 11 by the template 'for every input the law returns true; each argument reads behind the call as it read before'; 0 by the template 'total and deterministic' (their statements: YtebnnknijbgekaaDoorTotals.lean).
  GIVEN WITH THE SEED: the statements are not yours to turn. If you find one false, say at which input.
  Laid BY PROGRAM, IN A SANDBOX (cutbox-rows.mjs): the forced cells as the released guide's own fill.sh prints them over the translation 4d6d5edd98185241… (all of the seat's roots in one cut). By AI agents, Wed Nov 11 2026. No macro, syntax, notation, axiom, sorry.
-/
import Derived.Test.YtebnnknijbgekaaDoorChecked
import GoSem.PinnedTables
import GoSem.Claim
import GoSem.ClaimJoined
import GoSem.ClaimMapViews
import Derived.JoinedTies
import Derived.KernelRfl
namespace Go.Proofs.YtebnnknijbgekaaDoor
/- THE CELL 'sum', in the pinned program and in every row, IS THE sha256 OF THE DUMP (.gsa) THAT YtebnnknijbgekaaDoorProg.lean LOADS. Nothing in Lean hashes anything: it is a label: what it is worth is what the hold of that sum in a sandbox is worth. -/
noncomputable def Tryd.pinned : Pinned := { name := "ytebnnknijbgekaadoor", sum := "4d6d5edd98185241c9efb97b303ffa51e54a6d6a0fcc76aed689646d156aaabd", checked := Tryd.checked }
namespace Rows
def none {H : Type} : Left H := { results := [], args := [] }

/- WHAT THE LISTED PACKAGE-LEVEL VARIABLES READ AS WHEN THE CALL BEGINS. Each datum BY PROGRAM (the guide's laid-datum.mjs) off the statement by which the dump's own 'gosem.cut.vars' lays the variable. In a bare row this is a premise. The card (YtebnnknijbgekaaDoorCards.lean) ties it to the program's text. -/
def laid_unicode_utf8_acceptRanges {H : Type} : DataW H := .agg [.agg [.lit (.int .u8 128), .lit (.int .u8 191)], .agg [.lit (.int .u8 160), .lit (.int .u8 191)], .agg [.lit (.int .u8 128), .lit (.int .u8 159)], .agg [.lit (.int .u8 144), .lit (.int .u8 191)], .agg [.lit (.int .u8 128), .lit (.int .u8 143)], .agg [.lit (.int .u8 0), .lit (.int .u8 0)], .agg [.lit (.int .u8 0), .lit (.int .u8 0)], .agg [.lit (.int .u8 0), .lit (.int .u8 0)], .agg [.lit (.int .u8 0), .lit (.int .u8 0)], .agg [.lit (.int .u8 0), .lit (.int .u8 0)], .agg [.lit (.int .u8 0), .lit (.int .u8 0)], .agg [.lit (.int .u8 0), .lit (.int .u8 0)], .agg [.lit (.int .u8 0), .lit (.int .u8 0)], .agg [.lit (.int .u8 0), .lit (.int .u8 0)], .agg [.lit (.int .u8 0), .lit (.int .u8 0)], .agg [.lit (.int .u8 0), .lit (.int .u8 0)]]
def laid_cubby_ir_shapes {H : Type} : DataW H := .agg [.lit (.string []), .lit (.string [114, 110, 32]), .lit (.string [114, 114, 32]), .lit (.string [114, 114, 114]), .lit (.string [114, 114, 114]), .lit (.string [114, 114, 114]), .lit (.string [114, 114, 114]), .lit (.string [114, 114, 114]), .lit (.string [114, 114, 32]), .lit (.string [32, 114, 114]), .lit (.string [32, 114, 32]), .lit (.string [114, 32, 32]), .lit (.string [32, 116, 32]), .lit (.string [116, 114, 116]), .lit (.string [32, 114, 32])]
/-- One of Go's own tables, pinned by name: the form's constant. -/
def laid_unicode_utf8_first : DataW Unit := Go.Pinned.utf8First
def laid_math_bits_deBruijn64tab {H : Type} : DataW H := .agg [.lit (.int .u8 0), .lit (.int .u8 1), .lit (.int .u8 56), .lit (.int .u8 2), .lit (.int .u8 57), .lit (.int .u8 49), .lit (.int .u8 28), .lit (.int .u8 3), .lit (.int .u8 61), .lit (.int .u8 58), .lit (.int .u8 42), .lit (.int .u8 50), .lit (.int .u8 38), .lit (.int .u8 29), .lit (.int .u8 17), .lit (.int .u8 4), .lit (.int .u8 62), .lit (.int .u8 47), .lit (.int .u8 59), .lit (.int .u8 36), .lit (.int .u8 45), .lit (.int .u8 43), .lit (.int .u8 51), .lit (.int .u8 22), .lit (.int .u8 53), .lit (.int .u8 39), .lit (.int .u8 33), .lit (.int .u8 30), .lit (.int .u8 24), .lit (.int .u8 18), .lit (.int .u8 12), .lit (.int .u8 5), .lit (.int .u8 63), .lit (.int .u8 55), .lit (.int .u8 48), .lit (.int .u8 27), .lit (.int .u8 60), .lit (.int .u8 41), .lit (.int .u8 37), .lit (.int .u8 16), .lit (.int .u8 46), .lit (.int .u8 35), .lit (.int .u8 44), .lit (.int .u8 21), .lit (.int .u8 52), .lit (.int .u8 32), .lit (.int .u8 23), .lit (.int .u8 11), .lit (.int .u8 54), .lit (.int .u8 26), .lit (.int .u8 40), .lit (.int .u8 15), .lit (.int .u8 34), .lit (.int .u8 20), .lit (.int .u8 31), .lit (.int .u8 10), .lit (.int .u8 25), .lit (.int .u8 14), .lit (.int .u8 19), .lit (.int .u8 9), .lit (.int .u8 13), .lit (.int .u8 8), .lit (.int .u8 7), .lit (.int .u8 6)]

/-- 'cubbylaw13.MachSpoilt': WHATEVER THE INPUT: true; the input reads as it did. -/
def machSpoiltSpec : ChangeSpec := { name := "machSpoilt", fn := fun _ => fun
  | [d1, d2, d3] => { results := [.lit (.bool true)], args := [d1, d2, d3] }
  | _ => none }
def machSpoiltRow : OpenClaim := { program := "ytebnnknijbgekaadoor", sum := "4d6d5edd98185241c9efb97b303ffa51e54a6d6a0fcc76aed689646d156aaabd", func := "cubby/cubbylaw13.MachSpoilt", spec := "machSpoilt", inPlace := ["internal/bytealg.IndexByteString", "internal/bytealg.IndexString"], unfollowed := true, recurses := true, named := ["unicode/utf8.first", "unicode/utf8.acceptRanges", "cubby/ir.shapes", "internal/bytealg.MaxLen"], apart := false, laid := [("unicode/utf8.acceptRanges", laid_unicode_utf8_acceptRanges), ("cubby/ir.shapes", laid_cubby_ir_shapes), ("unicode/utf8.first", laid_unicode_utf8_first)] }
def MachSpoiltSaid : Prop := machSpoiltRow.holds Tryd.pinned (OpenSpec.ofChange machSpoiltSpec)

/-- ITS FALSE NEIGHBOUR: 'it returns false'. Refute it at one input. -/
def machSpoiltWrong : ChangeSpec := { name := "machSpoilt", fn := fun _ => fun
  | [d1, d2, d3] => { results := [.lit (.bool false)], args := [d1, d2, d3] }
  | _ => none }
def MachSpoiltWrongFalsely : Prop := machSpoiltRow.holds Tryd.pinned (OpenSpec.ofChange machSpoiltWrong)

/-- 'cubbylaw13.MachChecks': WHATEVER THE INPUT: true; the input reads as it did. -/
def machChecksSpec : ChangeSpec := { name := "machChecks", fn := fun _ => fun
  | [d] => { results := [.lit (.bool true)], args := [d] }
  | _ => none }
def machChecksRow : OpenClaim := { program := "ytebnnknijbgekaadoor", sum := "4d6d5edd98185241c9efb97b303ffa51e54a6d6a0fcc76aed689646d156aaabd", func := "cubby/cubbylaw13.MachChecks", spec := "machChecks", inPlace := ["internal/bytealg.IndexByteString", "internal/bytealg.IndexString"], unfollowed := true, recurses := true, named := ["unicode/utf8.first", "unicode/utf8.acceptRanges", "cubby/ir.shapes", "internal/bytealg.MaxLen"], apart := false, laid := [("unicode/utf8.acceptRanges", laid_unicode_utf8_acceptRanges), ("cubby/ir.shapes", laid_cubby_ir_shapes), ("unicode/utf8.first", laid_unicode_utf8_first)] }
def MachChecksSaid : Prop := machChecksRow.holds Tryd.pinned (OpenSpec.ofChange machChecksSpec)

/-- ITS FALSE NEIGHBOUR: 'it returns false'. Refute it at one input. -/
def machChecksWrong : ChangeSpec := { name := "machChecks", fn := fun _ => fun
  | [d] => { results := [.lit (.bool false)], args := [d] }
  | _ => none }
def MachChecksWrongFalsely : Prop := machChecksRow.holds Tryd.pinned (OpenSpec.ofChange machChecksWrong)

/-- 'cubbylaw13.MachFuncs': WHATEVER THE INPUT: true; the input reads as it did. -/
def machFuncsSpec : ChangeSpec := { name := "machFuncs", fn := fun _ => fun
  | [d] => { results := [.lit (.bool true)], args := [d] }
  | _ => none }
def machFuncsRow : OpenClaim := { program := "ytebnnknijbgekaadoor", sum := "4d6d5edd98185241c9efb97b303ffa51e54a6d6a0fcc76aed689646d156aaabd", func := "cubby/cubbylaw13.MachFuncs", spec := "machFuncs", inPlace := ["internal/bytealg.IndexByteString", "internal/bytealg.IndexString"], unfollowed := true, recurses := true, named := ["cubby/ir.shapes", "unicode/utf8.first", "unicode/utf8.acceptRanges", "internal/bytealg.MaxLen"], apart := false, laid := [("unicode/utf8.acceptRanges", laid_unicode_utf8_acceptRanges), ("cubby/ir.shapes", laid_cubby_ir_shapes), ("unicode/utf8.first", laid_unicode_utf8_first)] }
def MachFuncsSaid : Prop := machFuncsRow.holds Tryd.pinned (OpenSpec.ofChange machFuncsSpec)

/-- ITS FALSE NEIGHBOUR: 'it returns false'. Refute it at one input. -/
def machFuncsWrong : ChangeSpec := { name := "machFuncs", fn := fun _ => fun
  | [d] => { results := [.lit (.bool false)], args := [d] }
  | _ => none }
def MachFuncsWrongFalsely : Prop := machFuncsRow.holds Tryd.pinned (OpenSpec.ofChange machFuncsWrong)

/-- 'cubbylaw11.LiveAhead': WHATEVER THE INPUT: true; the input reads as it did. -/
def liveAheadSpec : ChangeSpec := { name := "liveAhead", fn := fun _ => fun
  | [d1, d2, d3] => { results := [.lit (.bool true)], args := [d1, d2, d3] }
  | _ => none }
def liveAheadRow : OpenClaim := { program := "ytebnnknijbgekaadoor", sum := "4d6d5edd98185241c9efb97b303ffa51e54a6d6a0fcc76aed689646d156aaabd", func := "cubby/cubbylaw11.LiveAhead", spec := "liveAhead", inPlace := ["internal/bytealg.IndexByteString", "internal/bytealg.IndexString"], unfollowed := true, recurses := true, named := ["unicode/utf8.first", "unicode/utf8.acceptRanges", "cubby/ir.shapes", "math/bits.deBruijn64tab", "internal/bytealg.MaxLen"], apart := false, laid := [("math/bits.deBruijn64tab", laid_math_bits_deBruijn64tab), ("unicode/utf8.acceptRanges", laid_unicode_utf8_acceptRanges), ("cubby/ir.shapes", laid_cubby_ir_shapes), ("unicode/utf8.first", laid_unicode_utf8_first)] }
def LiveAheadSaid : Prop := liveAheadRow.holds Tryd.pinned (OpenSpec.ofChange liveAheadSpec)

/-- ITS FALSE NEIGHBOUR: 'it returns false'. Refute it at one input. -/
def liveAheadWrong : ChangeSpec := { name := "liveAhead", fn := fun _ => fun
  | [d1, d2, d3] => { results := [.lit (.bool false)], args := [d1, d2, d3] }
  | _ => none }
def LiveAheadWrongFalsely : Prop := liveAheadRow.holds Tryd.pinned (OpenSpec.ofChange liveAheadWrong)

/-- 'cubbylaw11.LiveSteps': WHATEVER THE INPUT: true; the input reads as it did. -/
def liveStepsSpec : ChangeSpec := { name := "liveSteps", fn := fun _ => fun
  | [d1, d2, d3] => { results := [.lit (.bool true)], args := [d1, d2, d3] }
  | _ => none }
def liveStepsRow : OpenClaim := { program := "ytebnnknijbgekaadoor", sum := "4d6d5edd98185241c9efb97b303ffa51e54a6d6a0fcc76aed689646d156aaabd", func := "cubby/cubbylaw11.LiveSteps", spec := "liveSteps", inPlace := ["internal/bytealg.IndexByteString", "internal/bytealg.IndexString"], unfollowed := true, recurses := true, named := ["unicode/utf8.first", "unicode/utf8.acceptRanges", "cubby/ir.shapes", "math/bits.deBruijn64tab", "internal/bytealg.MaxLen"], apart := false, laid := [("math/bits.deBruijn64tab", laid_math_bits_deBruijn64tab), ("unicode/utf8.acceptRanges", laid_unicode_utf8_acceptRanges), ("cubby/ir.shapes", laid_cubby_ir_shapes), ("unicode/utf8.first", laid_unicode_utf8_first)] }
def LiveStepsSaid : Prop := liveStepsRow.holds Tryd.pinned (OpenSpec.ofChange liveStepsSpec)

/-- ITS FALSE NEIGHBOUR: 'it returns false'. Refute it at one input. -/
def liveStepsWrong : ChangeSpec := { name := "liveSteps", fn := fun _ => fun
  | [d1, d2, d3] => { results := [.lit (.bool false)], args := [d1, d2, d3] }
  | _ => none }
def LiveStepsWrongFalsely : Prop := liveStepsRow.holds Tryd.pinned (OpenSpec.ofChange liveStepsWrong)

/-- 'cubbylaw11.LiveIn': WHATEVER THE INPUT: true; the input reads as it did. -/
def liveInSpec : ChangeSpec := { name := "liveIn", fn := fun _ => fun
  | [d] => { results := [.lit (.bool true)], args := [d] }
  | _ => none }
def liveInRow : OpenClaim := { program := "ytebnnknijbgekaadoor", sum := "4d6d5edd98185241c9efb97b303ffa51e54a6d6a0fcc76aed689646d156aaabd", func := "cubby/cubbylaw11.LiveIn", spec := "liveIn", inPlace := ["internal/bytealg.IndexByteString", "internal/bytealg.IndexString"], unfollowed := true, recurses := true, named := ["unicode/utf8.first", "unicode/utf8.acceptRanges", "cubby/ir.shapes", "math/bits.deBruijn64tab", "internal/bytealg.MaxLen"], apart := false, laid := [("math/bits.deBruijn64tab", laid_math_bits_deBruijn64tab), ("unicode/utf8.acceptRanges", laid_unicode_utf8_acceptRanges), ("cubby/ir.shapes", laid_cubby_ir_shapes), ("unicode/utf8.first", laid_unicode_utf8_first)] }
def LiveInSaid : Prop := liveInRow.holds Tryd.pinned (OpenSpec.ofChange liveInSpec)

/-- ITS FALSE NEIGHBOUR: 'it returns false'. Refute it at one input. -/
def liveInWrong : ChangeSpec := { name := "liveIn", fn := fun _ => fun
  | [d] => { results := [.lit (.bool false)], args := [d] }
  | _ => none }
def LiveInWrongFalsely : Prop := liveInRow.holds Tryd.pinned (OpenSpec.ofChange liveInWrong)

/-- 'cubbylaw11.LiveSmall': WHATEVER THE INPUT: true; the input reads as it did. -/
def liveSmallSpec : ChangeSpec := { name := "liveSmall", fn := fun _ => fun
  | [d1, d2] => { results := [.lit (.bool true)], args := [d1, d2] }
  | _ => none }
def liveSmallRow : OpenClaim := { program := "ytebnnknijbgekaadoor", sum := "4d6d5edd98185241c9efb97b303ffa51e54a6d6a0fcc76aed689646d156aaabd", func := "cubby/cubbylaw11.LiveSmall", spec := "liveSmall", inPlace := ["internal/bytealg.IndexByteString", "internal/bytealg.IndexString"], unfollowed := true, recurses := true, named := ["unicode/utf8.first", "unicode/utf8.acceptRanges", "cubby/ir.shapes", "math/bits.deBruijn64tab", "internal/bytealg.MaxLen"], apart := false, laid := [("math/bits.deBruijn64tab", laid_math_bits_deBruijn64tab), ("unicode/utf8.acceptRanges", laid_unicode_utf8_acceptRanges), ("cubby/ir.shapes", laid_cubby_ir_shapes), ("unicode/utf8.first", laid_unicode_utf8_first)] }
def LiveSmallSaid : Prop := liveSmallRow.holds Tryd.pinned (OpenSpec.ofChange liveSmallSpec)

/-- ITS FALSE NEIGHBOUR: 'it returns false'. Refute it at one input. -/
def liveSmallWrong : ChangeSpec := { name := "liveSmall", fn := fun _ => fun
  | [d1, d2] => { results := [.lit (.bool false)], args := [d1, d2] }
  | _ => none }
def LiveSmallWrongFalsely : Prop := liveSmallRow.holds Tryd.pinned (OpenSpec.ofChange liveSmallWrong)

/-- 'cubbylaw12.SpanNumbers': WHATEVER THE INPUT: true; the input reads as it did. -/
def spanNumbersSpec : ChangeSpec := { name := "spanNumbers", fn := fun _ => fun
  | [d] => { results := [.lit (.bool true)], args := [d] }
  | _ => none }
def spanNumbersRow : OpenClaim := { program := "ytebnnknijbgekaadoor", sum := "4d6d5edd98185241c9efb97b303ffa51e54a6d6a0fcc76aed689646d156aaabd", func := "cubby/cubbylaw12.SpanNumbers", spec := "spanNumbers", inPlace := ["internal/bytealg.IndexByteString", "internal/bytealg.IndexString"], unfollowed := true, recurses := true, named := ["unicode/utf8.first", "unicode/utf8.acceptRanges", "cubby/ir.shapes", "internal/bytealg.MaxLen"], apart := false, laid := [("unicode/utf8.acceptRanges", laid_unicode_utf8_acceptRanges), ("cubby/ir.shapes", laid_cubby_ir_shapes), ("unicode/utf8.first", laid_unicode_utf8_first)] }
def SpanNumbersSaid : Prop := spanNumbersRow.holds Tryd.pinned (OpenSpec.ofChange spanNumbersSpec)

/-- ITS FALSE NEIGHBOUR: 'it returns false'. Refute it at one input. -/
def spanNumbersWrong : ChangeSpec := { name := "spanNumbers", fn := fun _ => fun
  | [d] => { results := [.lit (.bool false)], args := [d] }
  | _ => none }
def SpanNumbersWrongFalsely : Prop := spanNumbersRow.holds Tryd.pinned (OpenSpec.ofChange spanNumbersWrong)

/-- 'cubbylaw12.SpanInside': WHATEVER THE INPUT: true; the input reads as it did. -/
def spanInsideSpec : ChangeSpec := { name := "spanInside", fn := fun _ => fun
  | [d1, d2, d3] => { results := [.lit (.bool true)], args := [d1, d2, d3] }
  | _ => none }
def spanInsideRow : OpenClaim := { program := "ytebnnknijbgekaadoor", sum := "4d6d5edd98185241c9efb97b303ffa51e54a6d6a0fcc76aed689646d156aaabd", func := "cubby/cubbylaw12.SpanInside", spec := "spanInside", inPlace := ["internal/bytealg.IndexByteString", "internal/bytealg.IndexString"], unfollowed := true, recurses := true, named := ["unicode/utf8.first", "unicode/utf8.acceptRanges", "cubby/ir.shapes", "math/bits.deBruijn64tab", "internal/bytealg.MaxLen"], apart := false, laid := [("math/bits.deBruijn64tab", laid_math_bits_deBruijn64tab), ("unicode/utf8.acceptRanges", laid_unicode_utf8_acceptRanges), ("cubby/ir.shapes", laid_cubby_ir_shapes), ("unicode/utf8.first", laid_unicode_utf8_first)] }
def SpanInsideSaid : Prop := spanInsideRow.holds Tryd.pinned (OpenSpec.ofChange spanInsideSpec)

/-- ITS FALSE NEIGHBOUR: 'it returns false'. Refute it at one input. -/
def spanInsideWrong : ChangeSpec := { name := "spanInside", fn := fun _ => fun
  | [d1, d2, d3] => { results := [.lit (.bool false)], args := [d1, d2, d3] }
  | _ => none }
def SpanInsideWrongFalsely : Prop := spanInsideRow.holds Tryd.pinned (OpenSpec.ofChange spanInsideWrong)

/-- 'cubbylaw12.SpanLive': WHATEVER THE INPUT: true; the input reads as it did. -/
def spanLiveSpec : ChangeSpec := { name := "spanLive", fn := fun _ => fun
  | [d1, d2, d3] => { results := [.lit (.bool true)], args := [d1, d2, d3] }
  | _ => none }
def spanLiveRow : OpenClaim := { program := "ytebnnknijbgekaadoor", sum := "4d6d5edd98185241c9efb97b303ffa51e54a6d6a0fcc76aed689646d156aaabd", func := "cubby/cubbylaw12.SpanLive", spec := "spanLive", inPlace := ["internal/bytealg.IndexByteString", "internal/bytealg.IndexString"], unfollowed := true, recurses := true, named := ["unicode/utf8.first", "unicode/utf8.acceptRanges", "cubby/ir.shapes", "math/bits.deBruijn64tab", "internal/bytealg.MaxLen"], apart := false, laid := [("math/bits.deBruijn64tab", laid_math_bits_deBruijn64tab), ("unicode/utf8.acceptRanges", laid_unicode_utf8_acceptRanges), ("cubby/ir.shapes", laid_cubby_ir_shapes), ("unicode/utf8.first", laid_unicode_utf8_first)] }
def SpanLiveSaid : Prop := spanLiveRow.holds Tryd.pinned (OpenSpec.ofChange spanLiveSpec)

/-- ITS FALSE NEIGHBOUR: 'it returns false'. Refute it at one input. -/
def spanLiveWrong : ChangeSpec := { name := "spanLive", fn := fun _ => fun
  | [d1, d2, d3] => { results := [.lit (.bool false)], args := [d1, d2, d3] }
  | _ => none }
def SpanLiveWrongFalsely : Prop := spanLiveRow.holds Tryd.pinned (OpenSpec.ofChange spanLiveWrong)

/-- 'cubbylaw12.SpanSpans': WHATEVER THE INPUT: true; the input reads as it did. -/
def spanSpansSpec : ChangeSpec := { name := "spanSpans", fn := fun _ => fun
  | [d] => { results := [.lit (.bool true)], args := [d] }
  | _ => none }
def spanSpansRow : OpenClaim := { program := "ytebnnknijbgekaadoor", sum := "4d6d5edd98185241c9efb97b303ffa51e54a6d6a0fcc76aed689646d156aaabd", func := "cubby/cubbylaw12.SpanSpans", spec := "spanSpans", inPlace := ["internal/bytealg.IndexByteString", "internal/bytealg.IndexString"], unfollowed := true, recurses := true, named := ["unicode/utf8.first", "unicode/utf8.acceptRanges", "cubby/ir.shapes", "math/bits.deBruijn64tab", "internal/bytealg.MaxLen"], apart := false, laid := [("math/bits.deBruijn64tab", laid_math_bits_deBruijn64tab), ("unicode/utf8.acceptRanges", laid_unicode_utf8_acceptRanges), ("cubby/ir.shapes", laid_cubby_ir_shapes), ("unicode/utf8.first", laid_unicode_utf8_first)] }
def SpanSpansSaid : Prop := spanSpansRow.holds Tryd.pinned (OpenSpec.ofChange spanSpansSpec)

/-- ITS FALSE NEIGHBOUR: 'it returns false'. Refute it at one input. -/
def spanSpansWrong : ChangeSpec := { name := "spanSpans", fn := fun _ => fun
  | [d] => { results := [.lit (.bool false)], args := [d] }
  | _ => none }
def SpanSpansWrongFalsely : Prop := spanSpansRow.holds Tryd.pinned (OpenSpec.ofChange spanSpansWrong)

/- THE SECOND FORM. 'bulk': how many values and letters a reading holds, each counted each time it is reached (what is shared counts as often as it is met; a slice's spare places count too). A statement '..UptoSaid' is the law's where the arguments, and the package variables that the reading takes, are together of bulk at most 1048576: NARROWER than '..Said'. Prove '..Said' where nothing that the law and all that it calls make is longer than what came in: it says more and counts as full. Else prove '..UptoSaid'. A law counts once. -/
mutual
def uptoBulk {H : Type} : DataW H → Nat
  | .lit (.string bytes) => bytes.length + 1
  | .lit _ => 1
  | .nil => 1
  | .ptr d => uptoBulk d + 1
  | .slice elems spare => uptoBulkAll elems + uptoBulkAll spare + 1
  | .agg parts => uptoBulkAll parts + 1
  | .iface _ d => uptoBulk d + 1
  | .map entries => uptoBulkEntries entries + 1
  | .held _ => 1
def uptoBulkAll {H : Type} : List (DataW H) → Nat
  | [] => 0
  | d :: r => uptoBulk d + uptoBulkAll r
def uptoBulkEntries {H : Type} : List (Lit × DataW H) → Nat
  | [] => 0
  | x :: r => uptoBulkEntry x + uptoBulkEntries r
def uptoBulkEntry {H : Type} : Lit × DataW H → Nat
  | (.string bytes, d) => bytes.length + uptoBulk d + 1
  | (_, d) => uptoBulk d + 1
 end
def uptoSmall : (H : Type) → List (DataW H) → Bool := fun _ ds => decide (uptoBulkAll ds ≤ 1048576)
def OpenSpec.upto (s : _root_.Go.ChangeSpec) : _root_.Go.OpenSpec := { _root_.Go.OpenSpec.ofChange s with cond := some uptoSmall }

/-- 'cubbylaw13.MachSpoilt', WHERE WHAT IT READS IS OF BULK AT MOST 1048576: true; the input reads as it did. -/
def machSpoiltUptoRow : OpenClaim := { program := "ytebnnknijbgekaadoor", sum := "4d6d5edd98185241c9efb97b303ffa51e54a6d6a0fcc76aed689646d156aaabd", func := "cubby/cubbylaw13.MachSpoilt", spec := "machSpoilt", inPlace := ["internal/bytealg.IndexByteString", "internal/bytealg.IndexString"], unfollowed := true, recurses := true, named := ["unicode/utf8.first", "unicode/utf8.acceptRanges", "cubby/ir.shapes", "internal/bytealg.MaxLen"], apart := false, laid := [("unicode/utf8.acceptRanges", laid_unicode_utf8_acceptRanges), ("cubby/ir.shapes", laid_cubby_ir_shapes), ("unicode/utf8.first", laid_unicode_utf8_first)], narrowed := true }
def MachSpoiltUptoSaid : Prop := machSpoiltUptoRow.holds Tryd.pinned (OpenSpec.upto machSpoiltSpec)

/-- 'cubbylaw13.MachChecks', WHERE WHAT IT READS IS OF BULK AT MOST 1048576: true; the input reads as it did. -/
def machChecksUptoRow : OpenClaim := { program := "ytebnnknijbgekaadoor", sum := "4d6d5edd98185241c9efb97b303ffa51e54a6d6a0fcc76aed689646d156aaabd", func := "cubby/cubbylaw13.MachChecks", spec := "machChecks", inPlace := ["internal/bytealg.IndexByteString", "internal/bytealg.IndexString"], unfollowed := true, recurses := true, named := ["unicode/utf8.first", "unicode/utf8.acceptRanges", "cubby/ir.shapes", "internal/bytealg.MaxLen"], apart := false, laid := [("unicode/utf8.acceptRanges", laid_unicode_utf8_acceptRanges), ("cubby/ir.shapes", laid_cubby_ir_shapes), ("unicode/utf8.first", laid_unicode_utf8_first)], narrowed := true }
def MachChecksUptoSaid : Prop := machChecksUptoRow.holds Tryd.pinned (OpenSpec.upto machChecksSpec)

/-- 'cubbylaw13.MachFuncs', WHERE WHAT IT READS IS OF BULK AT MOST 1048576: true; the input reads as it did. -/
def machFuncsUptoRow : OpenClaim := { program := "ytebnnknijbgekaadoor", sum := "4d6d5edd98185241c9efb97b303ffa51e54a6d6a0fcc76aed689646d156aaabd", func := "cubby/cubbylaw13.MachFuncs", spec := "machFuncs", inPlace := ["internal/bytealg.IndexByteString", "internal/bytealg.IndexString"], unfollowed := true, recurses := true, named := ["cubby/ir.shapes", "unicode/utf8.first", "unicode/utf8.acceptRanges", "internal/bytealg.MaxLen"], apart := false, laid := [("unicode/utf8.acceptRanges", laid_unicode_utf8_acceptRanges), ("cubby/ir.shapes", laid_cubby_ir_shapes), ("unicode/utf8.first", laid_unicode_utf8_first)], narrowed := true }
def MachFuncsUptoSaid : Prop := machFuncsUptoRow.holds Tryd.pinned (OpenSpec.upto machFuncsSpec)

/-- 'cubbylaw11.LiveAhead', WHERE WHAT IT READS IS OF BULK AT MOST 1048576: true; the input reads as it did. -/
def liveAheadUptoRow : OpenClaim := { program := "ytebnnknijbgekaadoor", sum := "4d6d5edd98185241c9efb97b303ffa51e54a6d6a0fcc76aed689646d156aaabd", func := "cubby/cubbylaw11.LiveAhead", spec := "liveAhead", inPlace := ["internal/bytealg.IndexByteString", "internal/bytealg.IndexString"], unfollowed := true, recurses := true, named := ["unicode/utf8.first", "unicode/utf8.acceptRanges", "cubby/ir.shapes", "math/bits.deBruijn64tab", "internal/bytealg.MaxLen"], apart := false, laid := [("math/bits.deBruijn64tab", laid_math_bits_deBruijn64tab), ("unicode/utf8.acceptRanges", laid_unicode_utf8_acceptRanges), ("cubby/ir.shapes", laid_cubby_ir_shapes), ("unicode/utf8.first", laid_unicode_utf8_first)], narrowed := true }
def LiveAheadUptoSaid : Prop := liveAheadUptoRow.holds Tryd.pinned (OpenSpec.upto liveAheadSpec)

/-- 'cubbylaw11.LiveSteps', WHERE WHAT IT READS IS OF BULK AT MOST 1048576: true; the input reads as it did. -/
def liveStepsUptoRow : OpenClaim := { program := "ytebnnknijbgekaadoor", sum := "4d6d5edd98185241c9efb97b303ffa51e54a6d6a0fcc76aed689646d156aaabd", func := "cubby/cubbylaw11.LiveSteps", spec := "liveSteps", inPlace := ["internal/bytealg.IndexByteString", "internal/bytealg.IndexString"], unfollowed := true, recurses := true, named := ["unicode/utf8.first", "unicode/utf8.acceptRanges", "cubby/ir.shapes", "math/bits.deBruijn64tab", "internal/bytealg.MaxLen"], apart := false, laid := [("math/bits.deBruijn64tab", laid_math_bits_deBruijn64tab), ("unicode/utf8.acceptRanges", laid_unicode_utf8_acceptRanges), ("cubby/ir.shapes", laid_cubby_ir_shapes), ("unicode/utf8.first", laid_unicode_utf8_first)], narrowed := true }
def LiveStepsUptoSaid : Prop := liveStepsUptoRow.holds Tryd.pinned (OpenSpec.upto liveStepsSpec)

/-- 'cubbylaw11.LiveIn', WHERE WHAT IT READS IS OF BULK AT MOST 1048576: true; the input reads as it did. -/
def liveInUptoRow : OpenClaim := { program := "ytebnnknijbgekaadoor", sum := "4d6d5edd98185241c9efb97b303ffa51e54a6d6a0fcc76aed689646d156aaabd", func := "cubby/cubbylaw11.LiveIn", spec := "liveIn", inPlace := ["internal/bytealg.IndexByteString", "internal/bytealg.IndexString"], unfollowed := true, recurses := true, named := ["unicode/utf8.first", "unicode/utf8.acceptRanges", "cubby/ir.shapes", "math/bits.deBruijn64tab", "internal/bytealg.MaxLen"], apart := false, laid := [("math/bits.deBruijn64tab", laid_math_bits_deBruijn64tab), ("unicode/utf8.acceptRanges", laid_unicode_utf8_acceptRanges), ("cubby/ir.shapes", laid_cubby_ir_shapes), ("unicode/utf8.first", laid_unicode_utf8_first)], narrowed := true }
def LiveInUptoSaid : Prop := liveInUptoRow.holds Tryd.pinned (OpenSpec.upto liveInSpec)

/-- 'cubbylaw11.LiveSmall', WHERE WHAT IT READS IS OF BULK AT MOST 1048576: true; the input reads as it did. -/
def liveSmallUptoRow : OpenClaim := { program := "ytebnnknijbgekaadoor", sum := "4d6d5edd98185241c9efb97b303ffa51e54a6d6a0fcc76aed689646d156aaabd", func := "cubby/cubbylaw11.LiveSmall", spec := "liveSmall", inPlace := ["internal/bytealg.IndexByteString", "internal/bytealg.IndexString"], unfollowed := true, recurses := true, named := ["unicode/utf8.first", "unicode/utf8.acceptRanges", "cubby/ir.shapes", "math/bits.deBruijn64tab", "internal/bytealg.MaxLen"], apart := false, laid := [("math/bits.deBruijn64tab", laid_math_bits_deBruijn64tab), ("unicode/utf8.acceptRanges", laid_unicode_utf8_acceptRanges), ("cubby/ir.shapes", laid_cubby_ir_shapes), ("unicode/utf8.first", laid_unicode_utf8_first)], narrowed := true }
def LiveSmallUptoSaid : Prop := liveSmallUptoRow.holds Tryd.pinned (OpenSpec.upto liveSmallSpec)

/-- 'cubbylaw12.SpanNumbers', WHERE WHAT IT READS IS OF BULK AT MOST 1048576: true; the input reads as it did. -/
def spanNumbersUptoRow : OpenClaim := { program := "ytebnnknijbgekaadoor", sum := "4d6d5edd98185241c9efb97b303ffa51e54a6d6a0fcc76aed689646d156aaabd", func := "cubby/cubbylaw12.SpanNumbers", spec := "spanNumbers", inPlace := ["internal/bytealg.IndexByteString", "internal/bytealg.IndexString"], unfollowed := true, recurses := true, named := ["unicode/utf8.first", "unicode/utf8.acceptRanges", "cubby/ir.shapes", "internal/bytealg.MaxLen"], apart := false, laid := [("unicode/utf8.acceptRanges", laid_unicode_utf8_acceptRanges), ("cubby/ir.shapes", laid_cubby_ir_shapes), ("unicode/utf8.first", laid_unicode_utf8_first)], narrowed := true }
def SpanNumbersUptoSaid : Prop := spanNumbersUptoRow.holds Tryd.pinned (OpenSpec.upto spanNumbersSpec)

/-- 'cubbylaw12.SpanInside', WHERE WHAT IT READS IS OF BULK AT MOST 1048576: true; the input reads as it did. -/
def spanInsideUptoRow : OpenClaim := { program := "ytebnnknijbgekaadoor", sum := "4d6d5edd98185241c9efb97b303ffa51e54a6d6a0fcc76aed689646d156aaabd", func := "cubby/cubbylaw12.SpanInside", spec := "spanInside", inPlace := ["internal/bytealg.IndexByteString", "internal/bytealg.IndexString"], unfollowed := true, recurses := true, named := ["unicode/utf8.first", "unicode/utf8.acceptRanges", "cubby/ir.shapes", "math/bits.deBruijn64tab", "internal/bytealg.MaxLen"], apart := false, laid := [("math/bits.deBruijn64tab", laid_math_bits_deBruijn64tab), ("unicode/utf8.acceptRanges", laid_unicode_utf8_acceptRanges), ("cubby/ir.shapes", laid_cubby_ir_shapes), ("unicode/utf8.first", laid_unicode_utf8_first)], narrowed := true }
def SpanInsideUptoSaid : Prop := spanInsideUptoRow.holds Tryd.pinned (OpenSpec.upto spanInsideSpec)

/-- 'cubbylaw12.SpanLive', WHERE WHAT IT READS IS OF BULK AT MOST 1048576: true; the input reads as it did. -/
def spanLiveUptoRow : OpenClaim := { program := "ytebnnknijbgekaadoor", sum := "4d6d5edd98185241c9efb97b303ffa51e54a6d6a0fcc76aed689646d156aaabd", func := "cubby/cubbylaw12.SpanLive", spec := "spanLive", inPlace := ["internal/bytealg.IndexByteString", "internal/bytealg.IndexString"], unfollowed := true, recurses := true, named := ["unicode/utf8.first", "unicode/utf8.acceptRanges", "cubby/ir.shapes", "math/bits.deBruijn64tab", "internal/bytealg.MaxLen"], apart := false, laid := [("math/bits.deBruijn64tab", laid_math_bits_deBruijn64tab), ("unicode/utf8.acceptRanges", laid_unicode_utf8_acceptRanges), ("cubby/ir.shapes", laid_cubby_ir_shapes), ("unicode/utf8.first", laid_unicode_utf8_first)], narrowed := true }
def SpanLiveUptoSaid : Prop := spanLiveUptoRow.holds Tryd.pinned (OpenSpec.upto spanLiveSpec)

/-- 'cubbylaw12.SpanSpans', WHERE WHAT IT READS IS OF BULK AT MOST 1048576: true; the input reads as it did. -/
def spanSpansUptoRow : OpenClaim := { program := "ytebnnknijbgekaadoor", sum := "4d6d5edd98185241c9efb97b303ffa51e54a6d6a0fcc76aed689646d156aaabd", func := "cubby/cubbylaw12.SpanSpans", spec := "spanSpans", inPlace := ["internal/bytealg.IndexByteString", "internal/bytealg.IndexString"], unfollowed := true, recurses := true, named := ["unicode/utf8.first", "unicode/utf8.acceptRanges", "cubby/ir.shapes", "math/bits.deBruijn64tab", "internal/bytealg.MaxLen"], apart := false, laid := [("math/bits.deBruijn64tab", laid_math_bits_deBruijn64tab), ("unicode/utf8.acceptRanges", laid_unicode_utf8_acceptRanges), ("cubby/ir.shapes", laid_cubby_ir_shapes), ("unicode/utf8.first", laid_unicode_utf8_first)], narrowed := true }
def SpanSpansUptoSaid : Prop := spanSpansUptoRow.holds Tryd.pinned (OpenSpec.upto spanSpansSpec)

end Rows
end Go.Proofs.YtebnnknijbgekaaDoor
