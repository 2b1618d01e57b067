/-
  NARROWER THAN 'FOR EVERY INPUT', by the rows' own cells (each row's printed sentence says how): LinearSolve: laid · LinearKernel: laid · LinearReduce: laid · LinearDeterminant: laid · LinearApply: laid · LinearSolution: laid.
  DERIVED. THE GIVEN ROWS OF THIS SEAT. 6 by the template 'for every input the law returns true; each argument reads behind the call as it read before'; 0 by the template 'total and deterministic' (their statements: YtblfipdfklpmmaaGreatDoorTotals.lean).
  GIVEN WITH THE SEED: the statements are not yours to turn. If you find one false, say at which input.
  Laid BY PROGRAM, IN A SANDBOX (cutbox-rows.mjs): the forced cells as the released guide's own fill.sh prints them over the translation 2fd8d84997487c10… (all of the seat's roots in one cut). By AI agents, Wed Nov 11 2026. No macro, syntax, notation, axiom, sorry.
-/
import Derived.Test.YtblfipdfklpmmaaGreatDoorChecked
import GoSem.PinnedTables
import GoSem.Claim
import GoSem.ClaimJoined
import GoSem.ClaimMapViews
import Derived.JoinedTies
import Derived.KernelRfl
namespace Go.Proofs.YtblfipdfklpmmaaGreatDoor
/- THE CELL 'sum', in the pinned program and in every row, IS THE sha256 OF THE DUMP (.gsa) THAT YtblfipdfklpmmaaGreatDoorProg.lean LOADS. Nothing in Lean hashes anything: it is a label: what it is worth is what the hold of that sum in a sandbox is worth. -/
noncomputable def Tryz.pinned : Pinned := { name := "ytblfipdfklpmmaagreatdoor", sum := "2fd8d84997487c10cc9187bf679a7f0b7d736e6c03d2f6e645c42566bd45123a", checked := Tryz.checked }
namespace Rows
def none {H : Type} : Left H := { results := [], args := [] }

/- WHAT THE LISTED PACKAGE-LEVEL VARIABLES READ AS WHEN THE CALL BEGINS. Each datum BY PROGRAM (the guide's laid-datum.mjs) off the statement by which the dump's own 'gosem.cut.vars' lays the variable. In a bare row this is a premise. The card (YtblfipdfklpmmaaGreatDoorCards.lean) ties it to the program's text. -/
def laid_unicode_utf8_acceptRanges {H : Type} : DataW H := .agg [.agg [.lit (.int .u8 128), .lit (.int .u8 191)], .agg [.lit (.int .u8 160), .lit (.int .u8 191)], .agg [.lit (.int .u8 128), .lit (.int .u8 159)], .agg [.lit (.int .u8 144), .lit (.int .u8 191)], .agg [.lit (.int .u8 128), .lit (.int .u8 143)], .agg [.lit (.int .u8 0), .lit (.int .u8 0)], .agg [.lit (.int .u8 0), .lit (.int .u8 0)], .agg [.lit (.int .u8 0), .lit (.int .u8 0)], .agg [.lit (.int .u8 0), .lit (.int .u8 0)], .agg [.lit (.int .u8 0), .lit (.int .u8 0)], .agg [.lit (.int .u8 0), .lit (.int .u8 0)], .agg [.lit (.int .u8 0), .lit (.int .u8 0)], .agg [.lit (.int .u8 0), .lit (.int .u8 0)], .agg [.lit (.int .u8 0), .lit (.int .u8 0)], .agg [.lit (.int .u8 0), .lit (.int .u8 0)], .agg [.lit (.int .u8 0), .lit (.int .u8 0)]]
/-- One of Go's own tables, pinned by name: the form's constant. -/
def laid_unicode_utf8_first : DataW Unit := Go.Pinned.utf8First

/-- 'insolvencylaw3.LinearSolve': WHATEVER THE INPUT: true; the input reads as it did. -/
def linearSolveSpec : ChangeSpec := { name := "linearSolve", fn := fun _ => fun
  | [d1, d2] => { results := [.lit (.bool true)], args := [d1, d2] }
  | _ => none }
def linearSolveRow : OpenClaim := { program := "ytblfipdfklpmmaagreatdoor", sum := "2fd8d84997487c10cc9187bf679a7f0b7d736e6c03d2f6e645c42566bd45123a", func := "insolvency/insolvencylaw3.LinearSolve", spec := "linearSolve", inPlace := ["internal/bytealg.IndexByteString", "internal/bytealg.IndexString"], unfollowed := true, recurses := true, named := ["unicode/utf8.first", "unicode/utf8.acceptRanges", "internal/bytealg.MaxLen"], apart := false, laid := [("unicode/utf8.acceptRanges", laid_unicode_utf8_acceptRanges), ("unicode/utf8.first", laid_unicode_utf8_first)] }
def LinearSolveSaid : Prop := linearSolveRow.holds Tryz.pinned (OpenSpec.ofChange linearSolveSpec)

/-- ITS FALSE NEIGHBOUR: 'it returns false'. Refute it at one input. -/
def linearSolveWrong : ChangeSpec := { name := "linearSolve", fn := fun _ => fun
  | [d1, d2] => { results := [.lit (.bool false)], args := [d1, d2] }
  | _ => none }
def LinearSolveWrongFalsely : Prop := linearSolveRow.holds Tryz.pinned (OpenSpec.ofChange linearSolveWrong)

/-- 'insolvencylaw3.LinearKernel': WHATEVER THE INPUT: true; the input reads as it did. -/
def linearKernelSpec : ChangeSpec := { name := "linearKernel", fn := fun _ => fun
  | [d] => { results := [.lit (.bool true)], args := [d] }
  | _ => none }
def linearKernelRow : OpenClaim := { program := "ytblfipdfklpmmaagreatdoor", sum := "2fd8d84997487c10cc9187bf679a7f0b7d736e6c03d2f6e645c42566bd45123a", func := "insolvency/insolvencylaw3.LinearKernel", spec := "linearKernel", inPlace := ["internal/bytealg.IndexByteString", "internal/bytealg.IndexString"], unfollowed := true, recurses := true, named := ["unicode/utf8.first", "unicode/utf8.acceptRanges", "internal/bytealg.MaxLen"], apart := false, laid := [("unicode/utf8.acceptRanges", laid_unicode_utf8_acceptRanges), ("unicode/utf8.first", laid_unicode_utf8_first)] }
def LinearKernelSaid : Prop := linearKernelRow.holds Tryz.pinned (OpenSpec.ofChange linearKernelSpec)

/-- ITS FALSE NEIGHBOUR: 'it returns false'. Refute it at one input. -/
def linearKernelWrong : ChangeSpec := { name := "linearKernel", fn := fun _ => fun
  | [d] => { results := [.lit (.bool false)], args := [d] }
  | _ => none }
def LinearKernelWrongFalsely : Prop := linearKernelRow.holds Tryz.pinned (OpenSpec.ofChange linearKernelWrong)

/-- 'insolvencylaw3.LinearReduce': WHATEVER THE INPUT: true; the input reads as it did. -/
def linearReduceSpec : ChangeSpec := { name := "linearReduce", fn := fun _ => fun
  | [d] => { results := [.lit (.bool true)], args := [d] }
  | _ => none }
def linearReduceRow : OpenClaim := { program := "ytblfipdfklpmmaagreatdoor", sum := "2fd8d84997487c10cc9187bf679a7f0b7d736e6c03d2f6e645c42566bd45123a", func := "insolvency/insolvencylaw3.LinearReduce", spec := "linearReduce", inPlace := ["internal/bytealg.IndexByteString", "internal/bytealg.IndexString"], unfollowed := true, recurses := true, named := ["unicode/utf8.first", "unicode/utf8.acceptRanges", "internal/bytealg.MaxLen"], apart := false, laid := [("unicode/utf8.acceptRanges", laid_unicode_utf8_acceptRanges), ("unicode/utf8.first", laid_unicode_utf8_first)] }
def LinearReduceSaid : Prop := linearReduceRow.holds Tryz.pinned (OpenSpec.ofChange linearReduceSpec)

/-- ITS FALSE NEIGHBOUR: 'it returns false'. Refute it at one input. -/
def linearReduceWrong : ChangeSpec := { name := "linearReduce", fn := fun _ => fun
  | [d] => { results := [.lit (.bool false)], args := [d] }
  | _ => none }
def LinearReduceWrongFalsely : Prop := linearReduceRow.holds Tryz.pinned (OpenSpec.ofChange linearReduceWrong)

/-- 'insolvencylaw3.LinearDeterminant': WHATEVER THE INPUT: true; the input reads as it did. -/
def linearDeterminantSpec : ChangeSpec := { name := "linearDeterminant", fn := fun _ => fun
  | [d] => { results := [.lit (.bool true)], args := [d] }
  | _ => none }
def linearDeterminantRow : OpenClaim := { program := "ytblfipdfklpmmaagreatdoor", sum := "2fd8d84997487c10cc9187bf679a7f0b7d736e6c03d2f6e645c42566bd45123a", func := "insolvency/insolvencylaw3.LinearDeterminant", spec := "linearDeterminant", inPlace := ["internal/bytealg.IndexByteString", "internal/bytealg.IndexString"], unfollowed := true, recurses := true, named := ["unicode/utf8.first", "unicode/utf8.acceptRanges", "internal/bytealg.MaxLen"], apart := false, laid := [("unicode/utf8.acceptRanges", laid_unicode_utf8_acceptRanges), ("unicode/utf8.first", laid_unicode_utf8_first)] }
def LinearDeterminantSaid : Prop := linearDeterminantRow.holds Tryz.pinned (OpenSpec.ofChange linearDeterminantSpec)

/-- ITS FALSE NEIGHBOUR: 'it returns false'. Refute it at one input. -/
def linearDeterminantWrong : ChangeSpec := { name := "linearDeterminant", fn := fun _ => fun
  | [d] => { results := [.lit (.bool false)], args := [d] }
  | _ => none }
def LinearDeterminantWrongFalsely : Prop := linearDeterminantRow.holds Tryz.pinned (OpenSpec.ofChange linearDeterminantWrong)

/-- 'insolvencylaw3.LinearApply': WHATEVER THE INPUT: true; the input reads as it did. -/
def linearApplySpec : ChangeSpec := { name := "linearApply", fn := fun _ => fun
  | [d1, d2] => { results := [.lit (.bool true)], args := [d1, d2] }
  | _ => none }
def linearApplyRow : OpenClaim := { program := "ytblfipdfklpmmaagreatdoor", sum := "2fd8d84997487c10cc9187bf679a7f0b7d736e6c03d2f6e645c42566bd45123a", func := "insolvency/insolvencylaw3.LinearApply", spec := "linearApply", inPlace := ["internal/bytealg.IndexByteString", "internal/bytealg.IndexString"], unfollowed := true, recurses := true, named := ["unicode/utf8.first", "unicode/utf8.acceptRanges", "internal/bytealg.MaxLen"], apart := false, laid := [("unicode/utf8.acceptRanges", laid_unicode_utf8_acceptRanges), ("unicode/utf8.first", laid_unicode_utf8_first)] }
def LinearApplySaid : Prop := linearApplyRow.holds Tryz.pinned (OpenSpec.ofChange linearApplySpec)

/-- ITS FALSE NEIGHBOUR: 'it returns false'. Refute it at one input. -/
def linearApplyWrong : ChangeSpec := { name := "linearApply", fn := fun _ => fun
  | [d1, d2] => { results := [.lit (.bool false)], args := [d1, d2] }
  | _ => none }
def LinearApplyWrongFalsely : Prop := linearApplyRow.holds Tryz.pinned (OpenSpec.ofChange linearApplyWrong)

/-- 'insolvencylaw3.LinearSolution': WHATEVER THE INPUT: true; the input reads as it did. -/
def linearSolutionSpec : ChangeSpec := { name := "linearSolution", fn := fun _ => fun
  | [d1, d2, d3] => { results := [.lit (.bool true)], args := [d1, d2, d3] }
  | _ => none }
def linearSolutionRow : OpenClaim := { program := "ytblfipdfklpmmaagreatdoor", sum := "2fd8d84997487c10cc9187bf679a7f0b7d736e6c03d2f6e645c42566bd45123a", func := "insolvency/insolvencylaw3.LinearSolution", spec := "linearSolution", inPlace := ["internal/bytealg.IndexByteString", "internal/bytealg.IndexString"], unfollowed := true, recurses := true, named := ["unicode/utf8.first", "unicode/utf8.acceptRanges", "internal/bytealg.MaxLen"], apart := false, laid := [("unicode/utf8.acceptRanges", laid_unicode_utf8_acceptRanges), ("unicode/utf8.first", laid_unicode_utf8_first)] }
def LinearSolutionSaid : Prop := linearSolutionRow.holds Tryz.pinned (OpenSpec.ofChange linearSolutionSpec)

/-- ITS FALSE NEIGHBOUR: 'it returns false'. Refute it at one input. -/
def linearSolutionWrong : ChangeSpec := { name := "linearSolution", fn := fun _ => fun
  | [d1, d2, d3] => { results := [.lit (.bool false)], args := [d1, d2, d3] }
  | _ => none }
def LinearSolutionWrongFalsely : Prop := linearSolutionRow.holds Tryz.pinned (OpenSpec.ofChange linearSolutionWrong)

/- THE SECOND FORM. 'bulk': how many values and letters a reading holds, each counted each time it is reached (what is shared counts as often as it is met; a slice's spare places count too). A statement '..UptoSaid' is the law's where the arguments, and the package variables that the reading takes, are together of bulk at most 1048576: NARROWER than '..Said'. Prove '..Said' where nothing that the law and all that it calls make is longer than what came in: it says more and counts as full. Else prove '..UptoSaid'. A law counts once. -/
mutual
def uptoBulk {H : Type} : DataW H → Nat
  | .lit (.string bytes) => bytes.length + 1
  | .lit _ => 1
  | .nil => 1
  | .ptr d => uptoBulk d + 1
  | .slice elems spare => uptoBulkAll elems + uptoBulkAll spare + 1
  | .agg parts => uptoBulkAll parts + 1
  | .iface _ d => uptoBulk d + 1
  | .map entries => uptoBulkEntries entries + 1
  | .held _ => 1
def uptoBulkAll {H : Type} : List (DataW H) → Nat
  | [] => 0
  | d :: r => uptoBulk d + uptoBulkAll r
def uptoBulkEntries {H : Type} : List (Lit × DataW H) → Nat
  | [] => 0
  | x :: r => uptoBulkEntry x + uptoBulkEntries r
def uptoBulkEntry {H : Type} : Lit × DataW H → Nat
  | (.string bytes, d) => bytes.length + uptoBulk d + 1
  | (_, d) => uptoBulk d + 1
 end
def uptoSmall : (H : Type) → List (DataW H) → Bool := fun _ ds => decide (uptoBulkAll ds ≤ 1048576)
def OpenSpec.upto (s : _root_.Go.ChangeSpec) : _root_.Go.OpenSpec := { _root_.Go.OpenSpec.ofChange s with cond := some uptoSmall }

/-- 'insolvencylaw3.LinearSolve', WHERE WHAT IT READS IS OF BULK AT MOST 1048576: true; the input reads as it did. -/
def linearSolveUptoRow : OpenClaim := { program := "ytblfipdfklpmmaagreatdoor", sum := "2fd8d84997487c10cc9187bf679a7f0b7d736e6c03d2f6e645c42566bd45123a", func := "insolvency/insolvencylaw3.LinearSolve", spec := "linearSolve", inPlace := ["internal/bytealg.IndexByteString", "internal/bytealg.IndexString"], unfollowed := true, recurses := true, named := ["unicode/utf8.first", "unicode/utf8.acceptRanges", "internal/bytealg.MaxLen"], apart := false, laid := [("unicode/utf8.acceptRanges", laid_unicode_utf8_acceptRanges), ("unicode/utf8.first", laid_unicode_utf8_first)], narrowed := true }
def LinearSolveUptoSaid : Prop := linearSolveUptoRow.holds Tryz.pinned (OpenSpec.upto linearSolveSpec)

/-- 'insolvencylaw3.LinearKernel', WHERE WHAT IT READS IS OF BULK AT MOST 1048576: true; the input reads as it did. -/
def linearKernelUptoRow : OpenClaim := { program := "ytblfipdfklpmmaagreatdoor", sum := "2fd8d84997487c10cc9187bf679a7f0b7d736e6c03d2f6e645c42566bd45123a", func := "insolvency/insolvencylaw3.LinearKernel", spec := "linearKernel", inPlace := ["internal/bytealg.IndexByteString", "internal/bytealg.IndexString"], unfollowed := true, recurses := true, named := ["unicode/utf8.first", "unicode/utf8.acceptRanges", "internal/bytealg.MaxLen"], apart := false, laid := [("unicode/utf8.acceptRanges", laid_unicode_utf8_acceptRanges), ("unicode/utf8.first", laid_unicode_utf8_first)], narrowed := true }
def LinearKernelUptoSaid : Prop := linearKernelUptoRow.holds Tryz.pinned (OpenSpec.upto linearKernelSpec)

/-- 'insolvencylaw3.LinearReduce', WHERE WHAT IT READS IS OF BULK AT MOST 1048576: true; the input reads as it did. -/
def linearReduceUptoRow : OpenClaim := { program := "ytblfipdfklpmmaagreatdoor", sum := "2fd8d84997487c10cc9187bf679a7f0b7d736e6c03d2f6e645c42566bd45123a", func := "insolvency/insolvencylaw3.LinearReduce", spec := "linearReduce", inPlace := ["internal/bytealg.IndexByteString", "internal/bytealg.IndexString"], unfollowed := true, recurses := true, named := ["unicode/utf8.first", "unicode/utf8.acceptRanges", "internal/bytealg.MaxLen"], apart := false, laid := [("unicode/utf8.acceptRanges", laid_unicode_utf8_acceptRanges), ("unicode/utf8.first", laid_unicode_utf8_first)], narrowed := true }
def LinearReduceUptoSaid : Prop := linearReduceUptoRow.holds Tryz.pinned (OpenSpec.upto linearReduceSpec)

/-- 'insolvencylaw3.LinearDeterminant', WHERE WHAT IT READS IS OF BULK AT MOST 1048576: true; the input reads as it did. -/
def linearDeterminantUptoRow : OpenClaim := { program := "ytblfipdfklpmmaagreatdoor", sum := "2fd8d84997487c10cc9187bf679a7f0b7d736e6c03d2f6e645c42566bd45123a", func := "insolvency/insolvencylaw3.LinearDeterminant", spec := "linearDeterminant", inPlace := ["internal/bytealg.IndexByteString", "internal/bytealg.IndexString"], unfollowed := true, recurses := true, named := ["unicode/utf8.first", "unicode/utf8.acceptRanges", "internal/bytealg.MaxLen"], apart := false, laid := [("unicode/utf8.acceptRanges", laid_unicode_utf8_acceptRanges), ("unicode/utf8.first", laid_unicode_utf8_first)], narrowed := true }
def LinearDeterminantUptoSaid : Prop := linearDeterminantUptoRow.holds Tryz.pinned (OpenSpec.upto linearDeterminantSpec)

/-- 'insolvencylaw3.LinearApply', WHERE WHAT IT READS IS OF BULK AT MOST 1048576: true; the input reads as it did. -/
def linearApplyUptoRow : OpenClaim := { program := "ytblfipdfklpmmaagreatdoor", sum := "2fd8d84997487c10cc9187bf679a7f0b7d736e6c03d2f6e645c42566bd45123a", func := "insolvency/insolvencylaw3.LinearApply", spec := "linearApply", inPlace := ["internal/bytealg.IndexByteString", "internal/bytealg.IndexString"], unfollowed := true, recurses := true, named := ["unicode/utf8.first", "unicode/utf8.acceptRanges", "internal/bytealg.MaxLen"], apart := false, laid := [("unicode/utf8.acceptRanges", laid_unicode_utf8_acceptRanges), ("unicode/utf8.first", laid_unicode_utf8_first)], narrowed := true }
def LinearApplyUptoSaid : Prop := linearApplyUptoRow.holds Tryz.pinned (OpenSpec.upto linearApplySpec)

/-- 'insolvencylaw3.LinearSolution', WHERE WHAT IT READS IS OF BULK AT MOST 1048576: true; the input reads as it did. -/
def linearSolutionUptoRow : OpenClaim := { program := "ytblfipdfklpmmaagreatdoor", sum := "2fd8d84997487c10cc9187bf679a7f0b7d736e6c03d2f6e645c42566bd45123a", func := "insolvency/insolvencylaw3.LinearSolution", spec := "linearSolution", inPlace := ["internal/bytealg.IndexByteString", "internal/bytealg.IndexString"], unfollowed := true, recurses := true, named := ["unicode/utf8.first", "unicode/utf8.acceptRanges", "internal/bytealg.MaxLen"], apart := false, laid := [("unicode/utf8.acceptRanges", laid_unicode_utf8_acceptRanges), ("unicode/utf8.first", laid_unicode_utf8_first)], narrowed := true }
def LinearSolutionUptoSaid : Prop := linearSolutionUptoRow.holds Tryz.pinned (OpenSpec.upto linearSolutionSpec)

end Rows
end Go.Proofs.YtblfipdfklpmmaaGreatDoor
