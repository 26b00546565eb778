/-
  NARROWER THAN 'FOR EVERY INPUT', by the rows' own cells (each row's printed sentence says how): RealTermRejects: laid · RealEvalErrors: laid · RealEvalMeetsTheReference: laid · RealEvalIsNarrow: laid · RealTermEncloses: laid · RealTermOfIntervals: laid.
  DERIVED. THE GIVEN ROWS OF THIS SEAT. 6 by the template 'for every input the law returns true; each argument reads behind the call as it read before'; 0 by the template 'total and deterministic' (their statements: YteaiikmijhikpaaGreatDoorTotals.lean).
  GIVEN WITH THE SEED: the statements are not yours to turn. If you find one false, say at which input.
  Laid BY PROGRAM, IN A SANDBOX (cutbox-rows.mjs): the forced cells as the released guide's own fill.sh prints them over the translation 87bc33635d0caa4f… (all of the seat's roots in one cut). By AI agents, Wed Nov 11 2026. No macro, syntax, notation, axiom, sorry.
-/
import Derived.Test.YteaiikmijhikpaaGreatDoorChecked
import GoSem.Claim
import GoSem.ClaimJoined
import GoSem.ClaimMapViews
import Derived.JoinedTies
import Derived.KernelRfl
namespace Go.Proofs.YteaiikmijhikpaaGreatDoor
/- THE CELL 'sum', in the pinned program and in every row, IS THE sha256 OF THE DUMP (.gsa) THAT YteaiikmijhikpaaGreatDoorProg.lean LOADS. Nothing in Lean hashes anything: it is a label: what it is worth is what the hold of that sum in a sandbox is worth. -/
noncomputable def Tryz.pinned : Pinned := { name := "yteaiikmijhikpaagreatdoor", sum := "87bc33635d0caa4fed63220ed0e3a5c691e4c717c2ddc5abef30db4890a12b9d", checked := Tryz.checked }
namespace Rows
def none {H : Type} : Left H := { results := [], args := [] }

/- WHAT THE LISTED PACKAGE-LEVEL VARIABLES READ AS WHEN THE CALL BEGINS. Each datum BY PROGRAM (the guide's laid-datum.mjs) off the statement by which the dump's own 'gosem.cut.vars' lays the variable. In a bare row this is a premise. The card (YteaiikmijhikpaaGreatDoorCards.lean) ties it to the program's text. -/
def laid_compositor_operator_rules {H : Type} : DataW H := .agg [.agg [.lit (.string []), .lit (.int .i64 0), .lit (.int .i64 0), .lit (.int .i64 0)], .agg [.lit (.string [99, 108, 101, 97, 114]), .lit (.int .i64 0), .lit (.int .i64 0), .lit (.int .i64 0)], .agg [.lit (.string [115, 114, 99]), .lit (.int .i64 1), .lit (.int .i64 0), .lit (.int .i64 1)], .agg [.lit (.string [100, 115, 116]), .lit (.int .i64 0), .lit (.int .i64 1), .lit (.int .i64 2)], .agg [.lit (.string [115, 114, 99, 45, 111, 118, 101, 114]), .lit (.int .i64 1), .lit (.int .i64 3), .lit (.int .i64 3)], .agg [.lit (.string [100, 115, 116, 45, 111, 118, 101, 114]), .lit (.int .i64 3), .lit (.int .i64 1), .lit (.int .i64 3)], .agg [.lit (.string [115, 114, 99, 45, 105, 110]), .lit (.int .i64 2), .lit (.int .i64 0), .lit (.int .i64 4)], .agg [.lit (.string [100, 115, 116, 45, 105, 110]), .lit (.int .i64 0), .lit (.int .i64 2), .lit (.int .i64 4)], .agg [.lit (.string [115, 114, 99, 45, 111, 117, 116]), .lit (.int .i64 3), .lit (.int .i64 0), .lit (.int .i64 1)], .agg [.lit (.string [100, 115, 116, 45, 111, 117, 116]), .lit (.int .i64 0), .lit (.int .i64 3), .lit (.int .i64 2)], .agg [.lit (.string [115, 114, 99, 45, 97, 116, 111, 112]), .lit (.int .i64 2), .lit (.int .i64 3), .lit (.int .i64 2)], .agg [.lit (.string [100, 115, 116, 45, 97, 116, 111, 112]), .lit (.int .i64 3), .lit (.int .i64 2), .lit (.int .i64 1)], .agg [.lit (.string [120, 111, 114]), .lit (.int .i64 3), .lit (.int .i64 3), .lit (.int .i64 3)]]
def laid_compositor_blend_names {H : Type} : DataW H := .agg [.lit (.string []), .lit (.string [110, 111, 114, 109, 97, 108]), .lit (.string [109, 117, 108, 116, 105, 112, 108, 121]), .lit (.string [115, 99, 114, 101, 101, 110]), .lit (.string [111, 118, 101, 114, 108, 97, 121]), .lit (.string [100, 97, 114, 107, 101, 110]), .lit (.string [108, 105, 103, 104, 116, 101, 110]), .lit (.string [99, 111, 108, 111, 114, 45, 100, 111, 100, 103, 101]), .lit (.string [99, 111, 108, 111, 114, 45, 98, 117, 114, 110]), .lit (.string [104, 97, 114, 100, 45, 108, 105, 103, 104, 116]), .lit (.string [115, 111, 102, 116, 45, 108, 105, 103, 104, 116]), .lit (.string [100, 105, 102, 102, 101, 114, 101, 110, 99, 101]), .lit (.string [101, 120, 99, 108, 117, 115, 105, 111, 110])]

/-- 'compositorlaw29.RealTermRejects': WHATEVER THE INPUT: true; the input reads as it did. -/
def realTermRejectsSpec : ChangeSpec := { name := "realTermRejects", fn := fun _ => fun
  | [d1, d2, d3] => { results := [.lit (.bool true)], args := [d1, d2, d3] }
  | _ => none }
def realTermRejectsRow : OpenClaim := { program := "yteaiikmijhikpaagreatdoor", sum := "87bc33635d0caa4fed63220ed0e3a5c691e4c717c2ddc5abef30db4890a12b9d", func := "compositor/compositorlaw29.RealTermRejects", spec := "realTermRejects", unfollowed := true, recurses := true, named := ["math/bits.divideError", "math/bits.overflowError", "compositor/operator.rules", "compositor/blend.names"], apart := false, laid := [("compositor/operator.rules", laid_compositor_operator_rules), ("compositor/blend.names", laid_compositor_blend_names)] }
def RealTermRejectsSaid : Prop := realTermRejectsRow.holds Tryz.pinned (OpenSpec.ofChange realTermRejectsSpec)

/-- ITS FALSE NEIGHBOUR: 'it returns false'. Refute it at one input. -/
def realTermRejectsWrong : ChangeSpec := { name := "realTermRejects", fn := fun _ => fun
  | [d1, d2, d3] => { results := [.lit (.bool false)], args := [d1, d2, d3] }
  | _ => none }
def RealTermRejectsWrongFalsely : Prop := realTermRejectsRow.holds Tryz.pinned (OpenSpec.ofChange realTermRejectsWrong)

/-- 'compositorlaw29.RealEvalErrors': WHATEVER THE INPUT: true; the input reads as it did. -/
def realEvalErrorsSpec : ChangeSpec := { name := "realEvalErrors", fn := fun _ => fun
  | [d1, d2, d3, d4, d5] => { results := [.lit (.bool true)], args := [d1, d2, d3, d4, d5] }
  | _ => none }
def realEvalErrorsRow : OpenClaim := { program := "yteaiikmijhikpaagreatdoor", sum := "87bc33635d0caa4fed63220ed0e3a5c691e4c717c2ddc5abef30db4890a12b9d", func := "compositor/compositorlaw29.RealEvalErrors", spec := "realEvalErrors", unfollowed := true, recurses := true, named := ["compositor/operator.rules", "compositor/blend.names", "math/bits.divideError", "math/bits.overflowError"], apart := false, laid := [("compositor/operator.rules", laid_compositor_operator_rules), ("compositor/blend.names", laid_compositor_blend_names)] }
def RealEvalErrorsSaid : Prop := realEvalErrorsRow.holds Tryz.pinned (OpenSpec.ofChange realEvalErrorsSpec)

/-- ITS FALSE NEIGHBOUR: 'it returns false'. Refute it at one input. -/
def realEvalErrorsWrong : ChangeSpec := { name := "realEvalErrors", fn := fun _ => fun
  | [d1, d2, d3, d4, d5] => { results := [.lit (.bool false)], args := [d1, d2, d3, d4, d5] }
  | _ => none }
def RealEvalErrorsWrongFalsely : Prop := realEvalErrorsRow.holds Tryz.pinned (OpenSpec.ofChange realEvalErrorsWrong)

/-- 'compositorlaw29.RealEvalMeetsTheReference': WHATEVER THE INPUT: true; the input reads as it did. -/
def realEvalMeetsTheReferenceSpec : ChangeSpec := { name := "realEvalMeetsTheReference", fn := fun _ => fun
  | [d1, d2, d3] => { results := [.lit (.bool true)], args := [d1, d2, d3] }
  | _ => none }
def realEvalMeetsTheReferenceRow : OpenClaim := { program := "yteaiikmijhikpaagreatdoor", sum := "87bc33635d0caa4fed63220ed0e3a5c691e4c717c2ddc5abef30db4890a12b9d", func := "compositor/compositorlaw29.RealEvalMeetsTheReference", spec := "realEvalMeetsTheReference", unfollowed := true, recurses := true, named := ["compositor/operator.rules", "compositor/blend.names", "math/bits.divideError", "math/bits.overflowError"], apart := false, laid := [("compositor/operator.rules", laid_compositor_operator_rules), ("compositor/blend.names", laid_compositor_blend_names)] }
def RealEvalMeetsTheReferenceSaid : Prop := realEvalMeetsTheReferenceRow.holds Tryz.pinned (OpenSpec.ofChange realEvalMeetsTheReferenceSpec)

/-- ITS FALSE NEIGHBOUR: 'it returns false'. Refute it at one input. -/
def realEvalMeetsTheReferenceWrong : ChangeSpec := { name := "realEvalMeetsTheReference", fn := fun _ => fun
  | [d1, d2, d3] => { results := [.lit (.bool false)], args := [d1, d2, d3] }
  | _ => none }
def RealEvalMeetsTheReferenceWrongFalsely : Prop := realEvalMeetsTheReferenceRow.holds Tryz.pinned (OpenSpec.ofChange realEvalMeetsTheReferenceWrong)

/-- 'compositorlaw29.RealEvalIsNarrow': WHATEVER THE INPUT: true; the input reads as it did. -/
def realEvalIsNarrowSpec : ChangeSpec := { name := "realEvalIsNarrow", fn := fun _ => fun
  | [d1, d2, d3] => { results := [.lit (.bool true)], args := [d1, d2, d3] }
  | _ => none }
def realEvalIsNarrowRow : OpenClaim := { program := "yteaiikmijhikpaagreatdoor", sum := "87bc33635d0caa4fed63220ed0e3a5c691e4c717c2ddc5abef30db4890a12b9d", func := "compositor/compositorlaw29.RealEvalIsNarrow", spec := "realEvalIsNarrow", unfollowed := true, recurses := true, named := ["compositor/operator.rules", "compositor/blend.names", "math/bits.divideError", "math/bits.overflowError"], apart := false, laid := [("compositor/operator.rules", laid_compositor_operator_rules), ("compositor/blend.names", laid_compositor_blend_names)] }
def RealEvalIsNarrowSaid : Prop := realEvalIsNarrowRow.holds Tryz.pinned (OpenSpec.ofChange realEvalIsNarrowSpec)

/-- ITS FALSE NEIGHBOUR: 'it returns false'. Refute it at one input. -/
def realEvalIsNarrowWrong : ChangeSpec := { name := "realEvalIsNarrow", fn := fun _ => fun
  | [d1, d2, d3] => { results := [.lit (.bool false)], args := [d1, d2, d3] }
  | _ => none }
def RealEvalIsNarrowWrongFalsely : Prop := realEvalIsNarrowRow.holds Tryz.pinned (OpenSpec.ofChange realEvalIsNarrowWrong)

/-- 'compositorlaw29.RealTermEncloses': WHATEVER THE INPUT: true; the input reads as it did. -/
def realTermEnclosesSpec : ChangeSpec := { name := "realTermEncloses", fn := fun _ => fun
  | [d1, d2] => { results := [.lit (.bool true)], args := [d1, d2] }
  | _ => none }
def realTermEnclosesRow : OpenClaim := { program := "yteaiikmijhikpaagreatdoor", sum := "87bc33635d0caa4fed63220ed0e3a5c691e4c717c2ddc5abef30db4890a12b9d", func := "compositor/compositorlaw29.RealTermEncloses", spec := "realTermEncloses", inPlace := ["math/bits.Add64", "math/bits.Sub64"], unfollowed := true, recurses := true, named := ["math/bits.divideError", "math/bits.overflowError", "compositor/operator.rules", "compositor/blend.names"], apart := false, laid := [("compositor/operator.rules", laid_compositor_operator_rules), ("compositor/blend.names", laid_compositor_blend_names)] }
def RealTermEnclosesSaid : Prop := realTermEnclosesRow.holds Tryz.pinned (OpenSpec.ofChange realTermEnclosesSpec)

/-- ITS FALSE NEIGHBOUR: 'it returns false'. Refute it at one input. -/
def realTermEnclosesWrong : ChangeSpec := { name := "realTermEncloses", fn := fun _ => fun
  | [d1, d2] => { results := [.lit (.bool false)], args := [d1, d2] }
  | _ => none }
def RealTermEnclosesWrongFalsely : Prop := realTermEnclosesRow.holds Tryz.pinned (OpenSpec.ofChange realTermEnclosesWrong)

/-- 'compositorlaw29.RealTermOfIntervals': WHATEVER THE INPUT: true; the input reads as it did. -/
def realTermOfIntervalsSpec : ChangeSpec := { name := "realTermOfIntervals", fn := fun _ => fun
  | [d1, d2, d3] => { results := [.lit (.bool true)], args := [d1, d2, d3] }
  | _ => none }
def realTermOfIntervalsRow : OpenClaim := { program := "yteaiikmijhikpaagreatdoor", sum := "87bc33635d0caa4fed63220ed0e3a5c691e4c717c2ddc5abef30db4890a12b9d", func := "compositor/compositorlaw29.RealTermOfIntervals", spec := "realTermOfIntervals", inPlace := ["math/bits.Add64", "math/bits.Sub64"], unfollowed := true, recurses := true, named := ["math/bits.divideError", "math/bits.overflowError", "compositor/operator.rules", "compositor/blend.names"], apart := false, laid := [("compositor/operator.rules", laid_compositor_operator_rules), ("compositor/blend.names", laid_compositor_blend_names)] }
def RealTermOfIntervalsSaid : Prop := realTermOfIntervalsRow.holds Tryz.pinned (OpenSpec.ofChange realTermOfIntervalsSpec)

/-- ITS FALSE NEIGHBOUR: 'it returns false'. Refute it at one input. -/
def realTermOfIntervalsWrong : ChangeSpec := { name := "realTermOfIntervals", fn := fun _ => fun
  | [d1, d2, d3] => { results := [.lit (.bool false)], args := [d1, d2, d3] }
  | _ => none }
def RealTermOfIntervalsWrongFalsely : Prop := realTermOfIntervalsRow.holds Tryz.pinned (OpenSpec.ofChange realTermOfIntervalsWrong)

/- THE SECOND FORM. 'bulk': how many values and letters a reading holds, each counted each time it is reached (what is shared counts as often as it is met; a slice's spare places count too). A statement '..UptoSaid' is the law's where the arguments, and the package variables that the reading takes, are together of bulk at most 1048576: NARROWER than '..Said'. Prove '..Said' where nothing that the law and all that it calls make is longer than what came in: it says more and counts as full. Else prove '..UptoSaid'. A law counts once. -/
mutual
def uptoBulk {H : Type} : DataW H → Nat
  | .lit (.string bytes) => bytes.length + 1
  | .lit _ => 1
  | .nil => 1
  | .ptr d => uptoBulk d + 1
  | .slice elems spare => uptoBulkAll elems + uptoBulkAll spare + 1
  | .agg parts => uptoBulkAll parts + 1
  | .iface _ d => uptoBulk d + 1
  | .map entries => uptoBulkEntries entries + 1
  | .held _ => 1
def uptoBulkAll {H : Type} : List (DataW H) → Nat
  | [] => 0
  | d :: r => uptoBulk d + uptoBulkAll r
def uptoBulkEntries {H : Type} : List (Lit × DataW H) → Nat
  | [] => 0
  | x :: r => uptoBulkEntry x + uptoBulkEntries r
def uptoBulkEntry {H : Type} : Lit × DataW H → Nat
  | (.string bytes, d) => bytes.length + uptoBulk d + 1
  | (_, d) => uptoBulk d + 1
 end
def uptoSmall : (H : Type) → List (DataW H) → Bool := fun _ ds => decide (uptoBulkAll ds ≤ 1048576)
def OpenSpec.upto (s : _root_.Go.ChangeSpec) : _root_.Go.OpenSpec := { _root_.Go.OpenSpec.ofChange s with cond := some uptoSmall }

/-- 'compositorlaw29.RealTermRejects', WHERE WHAT IT READS IS OF BULK AT MOST 1048576: true; the input reads as it did. -/
def realTermRejectsUptoRow : OpenClaim := { program := "yteaiikmijhikpaagreatdoor", sum := "87bc33635d0caa4fed63220ed0e3a5c691e4c717c2ddc5abef30db4890a12b9d", func := "compositor/compositorlaw29.RealTermRejects", spec := "realTermRejects", unfollowed := true, recurses := true, named := ["math/bits.divideError", "math/bits.overflowError", "compositor/operator.rules", "compositor/blend.names"], apart := false, laid := [("compositor/operator.rules", laid_compositor_operator_rules), ("compositor/blend.names", laid_compositor_blend_names)], narrowed := true }
def RealTermRejectsUptoSaid : Prop := realTermRejectsUptoRow.holds Tryz.pinned (OpenSpec.upto realTermRejectsSpec)

/-- 'compositorlaw29.RealEvalErrors', WHERE WHAT IT READS IS OF BULK AT MOST 1048576: true; the input reads as it did. -/
def realEvalErrorsUptoRow : OpenClaim := { program := "yteaiikmijhikpaagreatdoor", sum := "87bc33635d0caa4fed63220ed0e3a5c691e4c717c2ddc5abef30db4890a12b9d", func := "compositor/compositorlaw29.RealEvalErrors", spec := "realEvalErrors", unfollowed := true, recurses := true, named := ["compositor/operator.rules", "compositor/blend.names", "math/bits.divideError", "math/bits.overflowError"], apart := false, laid := [("compositor/operator.rules", laid_compositor_operator_rules), ("compositor/blend.names", laid_compositor_blend_names)], narrowed := true }
def RealEvalErrorsUptoSaid : Prop := realEvalErrorsUptoRow.holds Tryz.pinned (OpenSpec.upto realEvalErrorsSpec)

/-- 'compositorlaw29.RealEvalMeetsTheReference', WHERE WHAT IT READS IS OF BULK AT MOST 1048576: true; the input reads as it did. -/
def realEvalMeetsTheReferenceUptoRow : OpenClaim := { program := "yteaiikmijhikpaagreatdoor", sum := "87bc33635d0caa4fed63220ed0e3a5c691e4c717c2ddc5abef30db4890a12b9d", func := "compositor/compositorlaw29.RealEvalMeetsTheReference", spec := "realEvalMeetsTheReference", unfollowed := true, recurses := true, named := ["compositor/operator.rules", "compositor/blend.names", "math/bits.divideError", "math/bits.overflowError"], apart := false, laid := [("compositor/operator.rules", laid_compositor_operator_rules), ("compositor/blend.names", laid_compositor_blend_names)], narrowed := true }
def RealEvalMeetsTheReferenceUptoSaid : Prop := realEvalMeetsTheReferenceUptoRow.holds Tryz.pinned (OpenSpec.upto realEvalMeetsTheReferenceSpec)

/-- 'compositorlaw29.RealEvalIsNarrow', WHERE WHAT IT READS IS OF BULK AT MOST 1048576: true; the input reads as it did. -/
def realEvalIsNarrowUptoRow : OpenClaim := { program := "yteaiikmijhikpaagreatdoor", sum := "87bc33635d0caa4fed63220ed0e3a5c691e4c717c2ddc5abef30db4890a12b9d", func := "compositor/compositorlaw29.RealEvalIsNarrow", spec := "realEvalIsNarrow", unfollowed := true, recurses := true, named := ["compositor/operator.rules", "compositor/blend.names", "math/bits.divideError", "math/bits.overflowError"], apart := false, laid := [("compositor/operator.rules", laid_compositor_operator_rules), ("compositor/blend.names", laid_compositor_blend_names)], narrowed := true }
def RealEvalIsNarrowUptoSaid : Prop := realEvalIsNarrowUptoRow.holds Tryz.pinned (OpenSpec.upto realEvalIsNarrowSpec)

/-- 'compositorlaw29.RealTermEncloses', WHERE WHAT IT READS IS OF BULK AT MOST 1048576: true; the input reads as it did. -/
def realTermEnclosesUptoRow : OpenClaim := { program := "yteaiikmijhikpaagreatdoor", sum := "87bc33635d0caa4fed63220ed0e3a5c691e4c717c2ddc5abef30db4890a12b9d", func := "compositor/compositorlaw29.RealTermEncloses", spec := "realTermEncloses", inPlace := ["math/bits.Add64", "math/bits.Sub64"], unfollowed := true, recurses := true, named := ["math/bits.divideError", "math/bits.overflowError", "compositor/operator.rules", "compositor/blend.names"], apart := false, laid := [("compositor/operator.rules", laid_compositor_operator_rules), ("compositor/blend.names", laid_compositor_blend_names)], narrowed := true }
def RealTermEnclosesUptoSaid : Prop := realTermEnclosesUptoRow.holds Tryz.pinned (OpenSpec.upto realTermEnclosesSpec)

/-- 'compositorlaw29.RealTermOfIntervals', WHERE WHAT IT READS IS OF BULK AT MOST 1048576: true; the input reads as it did. -/
def realTermOfIntervalsUptoRow : OpenClaim := { program := "yteaiikmijhikpaagreatdoor", sum := "87bc33635d0caa4fed63220ed0e3a5c691e4c717c2ddc5abef30db4890a12b9d", func := "compositor/compositorlaw29.RealTermOfIntervals", spec := "realTermOfIntervals", inPlace := ["math/bits.Add64", "math/bits.Sub64"], unfollowed := true, recurses := true, named := ["math/bits.divideError", "math/bits.overflowError", "compositor/operator.rules", "compositor/blend.names"], apart := false, laid := [("compositor/operator.rules", laid_compositor_operator_rules), ("compositor/blend.names", laid_compositor_blend_names)], narrowed := true }
def RealTermOfIntervalsUptoSaid : Prop := realTermOfIntervalsUptoRow.holds Tryz.pinned (OpenSpec.upto realTermOfIntervalsSpec)

end Rows
end Go.Proofs.YteaiikmijhikpaaGreatDoor
