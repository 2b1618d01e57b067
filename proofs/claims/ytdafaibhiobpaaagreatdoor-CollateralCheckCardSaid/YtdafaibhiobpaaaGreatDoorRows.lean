/-
  NARROWER THAN 'FOR EVERY INPUT', by the rows' own cells (each row's printed sentence says how): SetoffApply: laid · SetoffRaw: laid · CollateralCheck: laid · CollateralPriority: laid.
  DERIVED. THE GIVEN ROWS OF THIS SEAT. 4 by the template 'for every input the law returns true; each argument reads behind the call as it read before'; 0 by the template 'total and deterministic' (their statements: YtdafaibhiobpaaaGreatDoorTotals.lean).
  GIVEN WITH THE SEED: the statements are not yours to turn. If you find one false, say at which input.
  Laid BY PROGRAM, IN A SANDBOX (cutbox-rows.mjs): the forced cells as the released guide's own fill.sh prints them over the translation 97a7b5ef126da453… (all of the seat's roots in one cut). By AI agents, Wed Nov 11 2026. No macro, syntax, notation, axiom, sorry.
-/
import Derived.Test.YtdafaibhiobpaaaGreatDoorChecked
import GoSem.PinnedTables
import GoSem.Claim
import GoSem.ClaimJoined
import GoSem.ClaimMapViews
import Derived.JoinedTies
import Derived.KernelRfl
namespace Go.Proofs.YtdafaibhiobpaaaGreatDoor
/- THE CELL 'sum', in the pinned program and in every row, IS THE sha256 OF THE DUMP (.gsa) THAT YtdafaibhiobpaaaGreatDoorProg.lean LOADS. Nothing in Lean hashes anything: it is a label: what it is worth is what the hold of that sum in a sandbox is worth. -/
noncomputable def Tryz.pinned : Pinned := { name := "ytdafaibhiobpaaagreatdoor", sum := "97a7b5ef126da4538283fbcf04762bdc1bb26b40727aaa515df9d182230305ae", checked := Tryz.checked }
namespace Rows
def none {H : Type} : Left H := { results := [], args := [] }

/- WHAT THE LISTED PACKAGE-LEVEL VARIABLES READ AS WHEN THE CALL BEGINS. Each datum BY PROGRAM (the guide's laid-datum.mjs) off the statement by which the dump's own 'gosem.cut.vars' lays the variable. In a bare row this is a premise. The card (YtdafaibhiobpaaaGreatDoorCards.lean) ties it to the program's text. -/
def laid_unicode_utf8_acceptRanges {H : Type} : DataW H := .agg [.agg [.lit (.int .u8 128), .lit (.int .u8 191)], .agg [.lit (.int .u8 160), .lit (.int .u8 191)], .agg [.lit (.int .u8 128), .lit (.int .u8 159)], .agg [.lit (.int .u8 144), .lit (.int .u8 191)], .agg [.lit (.int .u8 128), .lit (.int .u8 143)], .agg [.lit (.int .u8 0), .lit (.int .u8 0)], .agg [.lit (.int .u8 0), .lit (.int .u8 0)], .agg [.lit (.int .u8 0), .lit (.int .u8 0)], .agg [.lit (.int .u8 0), .lit (.int .u8 0)], .agg [.lit (.int .u8 0), .lit (.int .u8 0)], .agg [.lit (.int .u8 0), .lit (.int .u8 0)], .agg [.lit (.int .u8 0), .lit (.int .u8 0)], .agg [.lit (.int .u8 0), .lit (.int .u8 0)], .agg [.lit (.int .u8 0), .lit (.int .u8 0)], .agg [.lit (.int .u8 0), .lit (.int .u8 0)], .agg [.lit (.int .u8 0), .lit (.int .u8 0)]]
/-- One of Go's own tables, pinned by name: the form's constant. -/
def laid_unicode_utf8_first : DataW Unit := Go.Pinned.utf8First

/-- 'insolvencylaw14.SetoffApply': WHATEVER THE INPUT: true; the input reads as it did. -/
def setoffApplySpec : ChangeSpec := { name := "setoffApply", fn := fun _ => fun
  | [d1, d2, d3] => { results := [.lit (.bool true)], args := [d1, d2, d3] }
  | _ => none }
def setoffApplyRow : OpenClaim := { program := "ytdafaibhiobpaaagreatdoor", sum := "97a7b5ef126da4538283fbcf04762bdc1bb26b40727aaa515df9d182230305ae", func := "insolvency/insolvencylaw14.SetoffApply", spec := "setoffApply", inPlace := ["internal/bytealg.IndexByteString", "internal/bytealg.IndexString", "internal/bytealg.abigen_runtime_cmpstring"], unfollowed := true, recurses := true, named := ["unicode/utf8.first", "unicode/utf8.acceptRanges", "internal/bytealg.MaxLen"], apart := false, laid := [("unicode/utf8.acceptRanges", laid_unicode_utf8_acceptRanges), ("unicode/utf8.first", laid_unicode_utf8_first)] }
def SetoffApplySaid : Prop := setoffApplyRow.holds Tryz.pinned (OpenSpec.ofChange setoffApplySpec)

/-- ITS FALSE NEIGHBOUR: 'it returns false'. Refute it at one input. -/
def setoffApplyWrong : ChangeSpec := { name := "setoffApply", fn := fun _ => fun
  | [d1, d2, d3] => { results := [.lit (.bool false)], args := [d1, d2, d3] }
  | _ => none }
def SetoffApplyWrongFalsely : Prop := setoffApplyRow.holds Tryz.pinned (OpenSpec.ofChange setoffApplyWrong)

/-- 'insolvencylaw14.SetoffRaw': WHATEVER THE INPUT: true; the input reads as it did. -/
def setoffRawSpec : ChangeSpec := { name := "setoffRaw", fn := fun _ => fun
  | [d1, d2, d3, d4, d5, d6] => { results := [.lit (.bool true)], args := [d1, d2, d3, d4, d5, d6] }
  | _ => none }
def setoffRawRow : OpenClaim := { program := "ytdafaibhiobpaaagreatdoor", sum := "97a7b5ef126da4538283fbcf04762bdc1bb26b40727aaa515df9d182230305ae", func := "insolvency/insolvencylaw14.SetoffRaw", spec := "setoffRaw", inPlace := ["internal/bytealg.IndexByteString", "internal/bytealg.IndexString", "internal/bytealg.abigen_runtime_cmpstring"], unfollowed := true, recurses := true, named := ["unicode/utf8.first", "unicode/utf8.acceptRanges", "internal/bytealg.MaxLen"], apart := false, laid := [("unicode/utf8.acceptRanges", laid_unicode_utf8_acceptRanges), ("unicode/utf8.first", laid_unicode_utf8_first)] }
def SetoffRawSaid : Prop := setoffRawRow.holds Tryz.pinned (OpenSpec.ofChange setoffRawSpec)

/-- ITS FALSE NEIGHBOUR: 'it returns false'. Refute it at one input. -/
def setoffRawWrong : ChangeSpec := { name := "setoffRaw", fn := fun _ => fun
  | [d1, d2, d3, d4, d5, d6] => { results := [.lit (.bool false)], args := [d1, d2, d3, d4, d5, d6] }
  | _ => none }
def SetoffRawWrongFalsely : Prop := setoffRawRow.holds Tryz.pinned (OpenSpec.ofChange setoffRawWrong)

/-- 'insolvencylaw15.CollateralCheck': WHATEVER THE INPUT: true; the input reads as it did. -/
def collateralCheckSpec : ChangeSpec := { name := "collateralCheck", fn := fun _ => fun
  | [d1, d2] => { results := [.lit (.bool true)], args := [d1, d2] }
  | _ => none }
def collateralCheckRow : OpenClaim := { program := "ytdafaibhiobpaaagreatdoor", sum := "97a7b5ef126da4538283fbcf04762bdc1bb26b40727aaa515df9d182230305ae", func := "insolvency/insolvencylaw15.CollateralCheck", spec := "collateralCheck", inPlace := ["internal/bytealg.IndexByteString", "internal/bytealg.IndexString", "internal/bytealg.abigen_runtime_cmpstring"], unfollowed := true, recurses := true, named := ["unicode/utf8.first", "unicode/utf8.acceptRanges", "internal/bytealg.MaxLen"], apart := false, laid := [("unicode/utf8.acceptRanges", laid_unicode_utf8_acceptRanges), ("unicode/utf8.first", laid_unicode_utf8_first)] }
def CollateralCheckSaid : Prop := collateralCheckRow.holds Tryz.pinned (OpenSpec.ofChange collateralCheckSpec)

/-- ITS FALSE NEIGHBOUR: 'it returns false'. Refute it at one input. -/
def collateralCheckWrong : ChangeSpec := { name := "collateralCheck", fn := fun _ => fun
  | [d1, d2] => { results := [.lit (.bool false)], args := [d1, d2] }
  | _ => none }
def CollateralCheckWrongFalsely : Prop := collateralCheckRow.holds Tryz.pinned (OpenSpec.ofChange collateralCheckWrong)

/-- 'insolvencylaw15.CollateralPriority': WHATEVER THE INPUT: true; the input reads as it did. -/
def collateralPrioritySpec : ChangeSpec := { name := "collateralPriority", fn := fun _ => fun
  | [d1, d2] => { results := [.lit (.bool true)], args := [d1, d2] }
  | _ => none }
def collateralPriorityRow : OpenClaim := { program := "ytdafaibhiobpaaagreatdoor", sum := "97a7b5ef126da4538283fbcf04762bdc1bb26b40727aaa515df9d182230305ae", func := "insolvency/insolvencylaw15.CollateralPriority", spec := "collateralPriority", inPlace := ["internal/bytealg.IndexByteString", "internal/bytealg.IndexString", "internal/bytealg.abigen_runtime_cmpstring"], unfollowed := true, recurses := true, named := ["unicode/utf8.first", "unicode/utf8.acceptRanges", "internal/bytealg.MaxLen"], apart := false, laid := [("unicode/utf8.acceptRanges", laid_unicode_utf8_acceptRanges), ("unicode/utf8.first", laid_unicode_utf8_first)] }
def CollateralPrioritySaid : Prop := collateralPriorityRow.holds Tryz.pinned (OpenSpec.ofChange collateralPrioritySpec)

/-- ITS FALSE NEIGHBOUR: 'it returns false'. Refute it at one input. -/
def collateralPriorityWrong : ChangeSpec := { name := "collateralPriority", fn := fun _ => fun
  | [d1, d2] => { results := [.lit (.bool false)], args := [d1, d2] }
  | _ => none }
def CollateralPriorityWrongFalsely : Prop := collateralPriorityRow.holds Tryz.pinned (OpenSpec.ofChange collateralPriorityWrong)

/- THE SECOND FORM. 'bulk': how many values and letters a reading holds, each counted each time it is reached (what is shared counts as often as it is met; a slice's spare places count too). A statement '..UptoSaid' is the law's where the arguments, and the package variables that the reading takes, are together of bulk at most 1048576: NARROWER than '..Said'. Prove '..Said' where nothing that the law and all that it calls make is longer than what came in: it says more and counts as full. Else prove '..UptoSaid'. A law counts once. -/
mutual
def uptoBulk {H : Type} : DataW H → Nat
  | .lit (.string bytes) => bytes.length + 1
  | .lit _ => 1
  | .nil => 1
  | .ptr d => uptoBulk d + 1
  | .slice elems spare => uptoBulkAll elems + uptoBulkAll spare + 1
  | .agg parts => uptoBulkAll parts + 1
  | .iface _ d => uptoBulk d + 1
  | .map entries => uptoBulkEntries entries + 1
  | .held _ => 1
def uptoBulkAll {H : Type} : List (DataW H) → Nat
  | [] => 0
  | d :: r => uptoBulk d + uptoBulkAll r
def uptoBulkEntries {H : Type} : List (Lit × DataW H) → Nat
  | [] => 0
  | x :: r => uptoBulkEntry x + uptoBulkEntries r
def uptoBulkEntry {H : Type} : Lit × DataW H → Nat
  | (.string bytes, d) => bytes.length + uptoBulk d + 1
  | (_, d) => uptoBulk d + 1
 end
def uptoSmall : (H : Type) → List (DataW H) → Bool := fun _ ds => decide (uptoBulkAll ds ≤ 1048576)
def OpenSpec.upto (s : _root_.Go.ChangeSpec) : _root_.Go.OpenSpec := { _root_.Go.OpenSpec.ofChange s with cond := some uptoSmall }

/-- 'insolvencylaw14.SetoffApply', WHERE WHAT IT READS IS OF BULK AT MOST 1048576: true; the input reads as it did. -/
def setoffApplyUptoRow : OpenClaim := { program := "ytdafaibhiobpaaagreatdoor", sum := "97a7b5ef126da4538283fbcf04762bdc1bb26b40727aaa515df9d182230305ae", func := "insolvency/insolvencylaw14.SetoffApply", spec := "setoffApply", inPlace := ["internal/bytealg.IndexByteString", "internal/bytealg.IndexString", "internal/bytealg.abigen_runtime_cmpstring"], unfollowed := true, recurses := true, named := ["unicode/utf8.first", "unicode/utf8.acceptRanges", "internal/bytealg.MaxLen"], apart := false, laid := [("unicode/utf8.acceptRanges", laid_unicode_utf8_acceptRanges), ("unicode/utf8.first", laid_unicode_utf8_first)], narrowed := true }
def SetoffApplyUptoSaid : Prop := setoffApplyUptoRow.holds Tryz.pinned (OpenSpec.upto setoffApplySpec)

/-- 'insolvencylaw14.SetoffRaw', WHERE WHAT IT READS IS OF BULK AT MOST 1048576: true; the input reads as it did. -/
def setoffRawUptoRow : OpenClaim := { program := "ytdafaibhiobpaaagreatdoor", sum := "97a7b5ef126da4538283fbcf04762bdc1bb26b40727aaa515df9d182230305ae", func := "insolvency/insolvencylaw14.SetoffRaw", spec := "setoffRaw", inPlace := ["internal/bytealg.IndexByteString", "internal/bytealg.IndexString", "internal/bytealg.abigen_runtime_cmpstring"], unfollowed := true, recurses := true, named := ["unicode/utf8.first", "unicode/utf8.acceptRanges", "internal/bytealg.MaxLen"], apart := false, laid := [("unicode/utf8.acceptRanges", laid_unicode_utf8_acceptRanges), ("unicode/utf8.first", laid_unicode_utf8_first)], narrowed := true }
def SetoffRawUptoSaid : Prop := setoffRawUptoRow.holds Tryz.pinned (OpenSpec.upto setoffRawSpec)

/-- 'insolvencylaw15.CollateralCheck', WHERE WHAT IT READS IS OF BULK AT MOST 1048576: true; the input reads as it did. -/
def collateralCheckUptoRow : OpenClaim := { program := "ytdafaibhiobpaaagreatdoor", sum := "97a7b5ef126da4538283fbcf04762bdc1bb26b40727aaa515df9d182230305ae", func := "insolvency/insolvencylaw15.CollateralCheck", spec := "collateralCheck", inPlace := ["internal/bytealg.IndexByteString", "internal/bytealg.IndexString", "internal/bytealg.abigen_runtime_cmpstring"], unfollowed := true, recurses := true, named := ["unicode/utf8.first", "unicode/utf8.acceptRanges", "internal/bytealg.MaxLen"], apart := false, laid := [("unicode/utf8.acceptRanges", laid_unicode_utf8_acceptRanges), ("unicode/utf8.first", laid_unicode_utf8_first)], narrowed := true }
def CollateralCheckUptoSaid : Prop := collateralCheckUptoRow.holds Tryz.pinned (OpenSpec.upto collateralCheckSpec)

/-- 'insolvencylaw15.CollateralPriority', WHERE WHAT IT READS IS OF BULK AT MOST 1048576: true; the input reads as it did. -/
def collateralPriorityUptoRow : OpenClaim := { program := "ytdafaibhiobpaaagreatdoor", sum := "97a7b5ef126da4538283fbcf04762bdc1bb26b40727aaa515df9d182230305ae", func := "insolvency/insolvencylaw15.CollateralPriority", spec := "collateralPriority", inPlace := ["internal/bytealg.IndexByteString", "internal/bytealg.IndexString", "internal/bytealg.abigen_runtime_cmpstring"], unfollowed := true, recurses := true, named := ["unicode/utf8.first", "unicode/utf8.acceptRanges", "internal/bytealg.MaxLen"], apart := false, laid := [("unicode/utf8.acceptRanges", laid_unicode_utf8_acceptRanges), ("unicode/utf8.first", laid_unicode_utf8_first)], narrowed := true }
def CollateralPriorityUptoSaid : Prop := collateralPriorityUptoRow.holds Tryz.pinned (OpenSpec.upto collateralPrioritySpec)

end Rows
end Go.Proofs.YtdafaibhiobpaaaGreatDoor
