/-
  NARROWER THAN 'FOR EVERY INPUT', by the rows' own cells (each row's printed sentence says how): CollateralPriority: laid · CollateralRaw: laid · CollateralShare: laid · CollateralTotal: laid.
  DERIVED. THE GIVEN ROWS OF THIS SEAT. 4 by the template 'for every input the law returns true; each argument reads behind the call as it read before'; 0 by the template 'total and deterministic' (their statements: YtknccjbkacaelaaGreatDoorTotals.lean).
  GIVEN WITH THE SEED: the statements are not yours to turn. If you find one false, say at which input.
  Laid BY PROGRAM, IN A SANDBOX (cutbox-rows.mjs): the forced cells as the released guide's own fill.sh prints them over the translation 56ac39a38ec62db1… (all of the seat's roots in one cut). By AI agents, Wed Nov 11 2026. No macro, syntax, notation, axiom, sorry.
-/
import Derived.Test.YtknccjbkacaelaaGreatDoorChecked
import GoSem.PinnedTables
import GoSem.Claim
import GoSem.ClaimJoined
import GoSem.ClaimMapViews
import Derived.JoinedTies
import Derived.KernelRfl
namespace Go.Proofs.YtknccjbkacaelaaGreatDoor
/- THE CELL 'sum', in the pinned program and in every row, IS THE sha256 OF THE DUMP (.gsa) THAT YtknccjbkacaelaaGreatDoorProg.lean LOADS. Nothing in Lean hashes anything: it is a label: what it is worth is what the hold of that sum in a sandbox is worth. -/
noncomputable def Tryz.pinned : Pinned := { name := "ytknccjbkacaelaagreatdoor", sum := "56ac39a38ec62db1f367a7dab8d72d69c42633a07741fb8d80add18409a16b41", checked := Tryz.checked }
namespace Rows
def none {H : Type} : Left H := { results := [], args := [] }

/- WHAT THE LISTED PACKAGE-LEVEL VARIABLES READ AS WHEN THE CALL BEGINS. Each datum BY PROGRAM (the guide's laid-datum.mjs) off the statement by which the dump's own 'gosem.cut.vars' lays the variable. In a bare row this is a premise. The card (YtknccjbkacaelaaGreatDoorCards.lean) ties it to the program's text. -/
def laid_unicode_utf8_acceptRanges {H : Type} : DataW H := .agg [.agg [.lit (.int .u8 128), .lit (.int .u8 191)], .agg [.lit (.int .u8 160), .lit (.int .u8 191)], .agg [.lit (.int .u8 128), .lit (.int .u8 159)], .agg [.lit (.int .u8 144), .lit (.int .u8 191)], .agg [.lit (.int .u8 128), .lit (.int .u8 143)], .agg [.lit (.int .u8 0), .lit (.int .u8 0)], .agg [.lit (.int .u8 0), .lit (.int .u8 0)], .agg [.lit (.int .u8 0), .lit (.int .u8 0)], .agg [.lit (.int .u8 0), .lit (.int .u8 0)], .agg [.lit (.int .u8 0), .lit (.int .u8 0)], .agg [.lit (.int .u8 0), .lit (.int .u8 0)], .agg [.lit (.int .u8 0), .lit (.int .u8 0)], .agg [.lit (.int .u8 0), .lit (.int .u8 0)], .agg [.lit (.int .u8 0), .lit (.int .u8 0)], .agg [.lit (.int .u8 0), .lit (.int .u8 0)], .agg [.lit (.int .u8 0), .lit (.int .u8 0)]]
/-- One of Go's own tables, pinned by name: the form's constant. -/
def laid_unicode_utf8_first : DataW Unit := Go.Pinned.utf8First

/-- 'insolvencylaw15.CollateralPriority': WHATEVER THE INPUT: true; the input reads as it did. -/
def collateralPrioritySpec : ChangeSpec := { name := "collateralPriority", fn := fun _ => fun
  | [d1, d2] => { results := [.lit (.bool true)], args := [d1, d2] }
  | _ => none }
def collateralPriorityRow : OpenClaim := { program := "ytknccjbkacaelaagreatdoor", sum := "56ac39a38ec62db1f367a7dab8d72d69c42633a07741fb8d80add18409a16b41", func := "insolvency/insolvencylaw15.CollateralPriority", spec := "collateralPriority", inPlace := ["internal/bytealg.IndexByteString", "internal/bytealg.IndexString", "internal/bytealg.abigen_runtime_cmpstring"], unfollowed := true, recurses := true, named := ["unicode/utf8.first", "unicode/utf8.acceptRanges", "internal/bytealg.MaxLen"], apart := false, laid := [("unicode/utf8.acceptRanges", laid_unicode_utf8_acceptRanges), ("unicode/utf8.first", laid_unicode_utf8_first)] }
def CollateralPrioritySaid : Prop := collateralPriorityRow.holds Tryz.pinned (OpenSpec.ofChange collateralPrioritySpec)

/-- ITS FALSE NEIGHBOUR: 'it returns false'. Refute it at one input. -/
def collateralPriorityWrong : ChangeSpec := { name := "collateralPriority", fn := fun _ => fun
  | [d1, d2] => { results := [.lit (.bool false)], args := [d1, d2] }
  | _ => none }
def CollateralPriorityWrongFalsely : Prop := collateralPriorityRow.holds Tryz.pinned (OpenSpec.ofChange collateralPriorityWrong)

/-- 'insolvencylaw15.CollateralRaw': WHATEVER THE INPUT: true; the input reads as it did. -/
def collateralRawSpec : ChangeSpec := { name := "collateralRaw", fn := fun _ => fun
  | [d1, d2, d3] => { results := [.lit (.bool true)], args := [d1, d2, d3] }
  | _ => none }
def collateralRawRow : OpenClaim := { program := "ytknccjbkacaelaagreatdoor", sum := "56ac39a38ec62db1f367a7dab8d72d69c42633a07741fb8d80add18409a16b41", func := "insolvency/insolvencylaw15.CollateralRaw", spec := "collateralRaw", inPlace := ["internal/bytealg.IndexByteString", "internal/bytealg.IndexString", "internal/bytealg.abigen_runtime_cmpstring"], unfollowed := true, recurses := true, named := ["unicode/utf8.first", "unicode/utf8.acceptRanges", "internal/bytealg.MaxLen"], apart := false, laid := [("unicode/utf8.acceptRanges", laid_unicode_utf8_acceptRanges), ("unicode/utf8.first", laid_unicode_utf8_first)] }
def CollateralRawSaid : Prop := collateralRawRow.holds Tryz.pinned (OpenSpec.ofChange collateralRawSpec)

/-- ITS FALSE NEIGHBOUR: 'it returns false'. Refute it at one input. -/
def collateralRawWrong : ChangeSpec := { name := "collateralRaw", fn := fun _ => fun
  | [d1, d2, d3] => { results := [.lit (.bool false)], args := [d1, d2, d3] }
  | _ => none }
def CollateralRawWrongFalsely : Prop := collateralRawRow.holds Tryz.pinned (OpenSpec.ofChange collateralRawWrong)

/-- 'insolvencylaw15.CollateralShare': WHATEVER THE INPUT: true; the input reads as it did. -/
def collateralShareSpec : ChangeSpec := { name := "collateralShare", fn := fun _ => fun
  | [d1, d2] => { results := [.lit (.bool true)], args := [d1, d2] }
  | _ => none }
def collateralShareRow : OpenClaim := { program := "ytknccjbkacaelaagreatdoor", sum := "56ac39a38ec62db1f367a7dab8d72d69c42633a07741fb8d80add18409a16b41", func := "insolvency/insolvencylaw15.CollateralShare", spec := "collateralShare", inPlace := ["internal/bytealg.IndexByteString", "internal/bytealg.IndexString", "internal/bytealg.abigen_runtime_cmpstring"], unfollowed := true, recurses := true, named := ["unicode/utf8.first", "unicode/utf8.acceptRanges", "internal/bytealg.MaxLen"], apart := false, laid := [("unicode/utf8.acceptRanges", laid_unicode_utf8_acceptRanges), ("unicode/utf8.first", laid_unicode_utf8_first)] }
def CollateralShareSaid : Prop := collateralShareRow.holds Tryz.pinned (OpenSpec.ofChange collateralShareSpec)

/-- ITS FALSE NEIGHBOUR: 'it returns false'. Refute it at one input. -/
def collateralShareWrong : ChangeSpec := { name := "collateralShare", fn := fun _ => fun
  | [d1, d2] => { results := [.lit (.bool false)], args := [d1, d2] }
  | _ => none }
def CollateralShareWrongFalsely : Prop := collateralShareRow.holds Tryz.pinned (OpenSpec.ofChange collateralShareWrong)

/-- 'insolvencylaw15.CollateralTotal': WHATEVER THE INPUT: true; the input reads as it did. -/
def collateralTotalSpec : ChangeSpec := { name := "collateralTotal", fn := fun _ => fun
  | [d1, d2] => { results := [.lit (.bool true)], args := [d1, d2] }
  | _ => none }
def collateralTotalRow : OpenClaim := { program := "ytknccjbkacaelaagreatdoor", sum := "56ac39a38ec62db1f367a7dab8d72d69c42633a07741fb8d80add18409a16b41", func := "insolvency/insolvencylaw15.CollateralTotal", spec := "collateralTotal", inPlace := ["internal/bytealg.IndexByteString", "internal/bytealg.IndexString", "internal/bytealg.abigen_runtime_cmpstring"], unfollowed := true, recurses := true, named := ["unicode/utf8.first", "unicode/utf8.acceptRanges", "internal/bytealg.MaxLen"], apart := false, laid := [("unicode/utf8.acceptRanges", laid_unicode_utf8_acceptRanges), ("unicode/utf8.first", laid_unicode_utf8_first)] }
def CollateralTotalSaid : Prop := collateralTotalRow.holds Tryz.pinned (OpenSpec.ofChange collateralTotalSpec)

/-- ITS FALSE NEIGHBOUR: 'it returns false'. Refute it at one input. -/
def collateralTotalWrong : ChangeSpec := { name := "collateralTotal", fn := fun _ => fun
  | [d1, d2] => { results := [.lit (.bool false)], args := [d1, d2] }
  | _ => none }
def CollateralTotalWrongFalsely : Prop := collateralTotalRow.holds Tryz.pinned (OpenSpec.ofChange collateralTotalWrong)

/- THE SECOND FORM. 'bulk': how many values and letters a reading holds, each counted each time it is reached (what is shared counts as often as it is met; a slice's spare places count too). A statement '..UptoSaid' is the law's where the arguments, and the package variables that the reading takes, are together of bulk at most 1048576: NARROWER than '..Said'. Prove '..Said' where nothing that the law and all that it calls make is longer than what came in: it says more and counts as full. Else prove '..UptoSaid'. A law counts once. -/
mutual
def uptoBulk {H : Type} : DataW H → Nat
  | .lit (.string bytes) => bytes.length + 1
  | .lit _ => 1
  | .nil => 1
  | .ptr d => uptoBulk d + 1
  | .slice elems spare => uptoBulkAll elems + uptoBulkAll spare + 1
  | .agg parts => uptoBulkAll parts + 1
  | .iface _ d => uptoBulk d + 1
  | .map entries => uptoBulkEntries entries + 1
  | .held _ => 1
def uptoBulkAll {H : Type} : List (DataW H) → Nat
  | [] => 0
  | d :: r => uptoBulk d + uptoBulkAll r
def uptoBulkEntries {H : Type} : List (Lit × DataW H) → Nat
  | [] => 0
  | x :: r => uptoBulkEntry x + uptoBulkEntries r
def uptoBulkEntry {H : Type} : Lit × DataW H → Nat
  | (.string bytes, d) => bytes.length + uptoBulk d + 1
  | (_, d) => uptoBulk d + 1
 end
def uptoSmall : (H : Type) → List (DataW H) → Bool := fun _ ds => decide (uptoBulkAll ds ≤ 1048576)
def OpenSpec.upto (s : _root_.Go.ChangeSpec) : _root_.Go.OpenSpec := { _root_.Go.OpenSpec.ofChange s with cond := some uptoSmall }

/-- 'insolvencylaw15.CollateralPriority', WHERE WHAT IT READS IS OF BULK AT MOST 1048576: true; the input reads as it did. -/
def collateralPriorityUptoRow : OpenClaim := { program := "ytknccjbkacaelaagreatdoor", sum := "56ac39a38ec62db1f367a7dab8d72d69c42633a07741fb8d80add18409a16b41", func := "insolvency/insolvencylaw15.CollateralPriority", spec := "collateralPriority", inPlace := ["internal/bytealg.IndexByteString", "internal/bytealg.IndexString", "internal/bytealg.abigen_runtime_cmpstring"], unfollowed := true, recurses := true, named := ["unicode/utf8.first", "unicode/utf8.acceptRanges", "internal/bytealg.MaxLen"], apart := false, laid := [("unicode/utf8.acceptRanges", laid_unicode_utf8_acceptRanges), ("unicode/utf8.first", laid_unicode_utf8_first)], narrowed := true }
def CollateralPriorityUptoSaid : Prop := collateralPriorityUptoRow.holds Tryz.pinned (OpenSpec.upto collateralPrioritySpec)

/-- 'insolvencylaw15.CollateralRaw', WHERE WHAT IT READS IS OF BULK AT MOST 1048576: true; the input reads as it did. -/
def collateralRawUptoRow : OpenClaim := { program := "ytknccjbkacaelaagreatdoor", sum := "56ac39a38ec62db1f367a7dab8d72d69c42633a07741fb8d80add18409a16b41", func := "insolvency/insolvencylaw15.CollateralRaw", spec := "collateralRaw", inPlace := ["internal/bytealg.IndexByteString", "internal/bytealg.IndexString", "internal/bytealg.abigen_runtime_cmpstring"], unfollowed := true, recurses := true, named := ["unicode/utf8.first", "unicode/utf8.acceptRanges", "internal/bytealg.MaxLen"], apart := false, laid := [("unicode/utf8.acceptRanges", laid_unicode_utf8_acceptRanges), ("unicode/utf8.first", laid_unicode_utf8_first)], narrowed := true }
def CollateralRawUptoSaid : Prop := collateralRawUptoRow.holds Tryz.pinned (OpenSpec.upto collateralRawSpec)

/-- 'insolvencylaw15.CollateralShare', WHERE WHAT IT READS IS OF BULK AT MOST 1048576: true; the input reads as it did. -/
def collateralShareUptoRow : OpenClaim := { program := "ytknccjbkacaelaagreatdoor", sum := "56ac39a38ec62db1f367a7dab8d72d69c42633a07741fb8d80add18409a16b41", func := "insolvency/insolvencylaw15.CollateralShare", spec := "collateralShare", inPlace := ["internal/bytealg.IndexByteString", "internal/bytealg.IndexString", "internal/bytealg.abigen_runtime_cmpstring"], unfollowed := true, recurses := true, named := ["unicode/utf8.first", "unicode/utf8.acceptRanges", "internal/bytealg.MaxLen"], apart := false, laid := [("unicode/utf8.acceptRanges", laid_unicode_utf8_acceptRanges), ("unicode/utf8.first", laid_unicode_utf8_first)], narrowed := true }
def CollateralShareUptoSaid : Prop := collateralShareUptoRow.holds Tryz.pinned (OpenSpec.upto collateralShareSpec)

/-- 'insolvencylaw15.CollateralTotal', WHERE WHAT IT READS IS OF BULK AT MOST 1048576: true; the input reads as it did. -/
def collateralTotalUptoRow : OpenClaim := { program := "ytknccjbkacaelaagreatdoor", sum := "56ac39a38ec62db1f367a7dab8d72d69c42633a07741fb8d80add18409a16b41", func := "insolvency/insolvencylaw15.CollateralTotal", spec := "collateralTotal", inPlace := ["internal/bytealg.IndexByteString", "internal/bytealg.IndexString", "internal/bytealg.abigen_runtime_cmpstring"], unfollowed := true, recurses := true, named := ["unicode/utf8.first", "unicode/utf8.acceptRanges", "internal/bytealg.MaxLen"], apart := false, laid := [("unicode/utf8.acceptRanges", laid_unicode_utf8_acceptRanges), ("unicode/utf8.first", laid_unicode_utf8_first)], narrowed := true }
def CollateralTotalUptoSaid : Prop := collateralTotalUptoRow.holds Tryz.pinned (OpenSpec.upto collateralTotalSpec)

end Rows
end Go.Proofs.YtknccjbkacaelaaGreatDoor
