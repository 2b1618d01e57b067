/-
  NARROWER THAN 'FOR EVERY INPUT', by the rows' own cells (each row's printed sentence says how): ApportionLargest: laid · ApportionSplit: laid · PayoutCents: laid · PayoutRound: laid · PayoutExact: laid · PayoutLast: laid · PayoutInterim: laid · PayoutNever: laid.
  DERIVED. THE GIVEN ROWS OF THIS SEAT. 8 by the template 'for every input the law returns true; each argument reads behind the call as it read before'; 0 by the template 'total and deterministic' (their statements: YtmapmdldlcfjhaaGreatDoorTotals.lean).
  GIVEN WITH THE SEED: the statements are not yours to turn. If you find one false, say at which input.
  Laid BY PROGRAM, IN A SANDBOX (cutbox-rows.mjs): the forced cells as the released guide's own fill.sh prints them over the translation 1d7409c40c1ca9f3… (all of the seat's roots in one cut). By AI agents, Wed Nov 11 2026. No macro, syntax, notation, axiom, sorry.
-/
import Derived.Test.YtmapmdldlcfjhaaGreatDoorChecked
import GoSem.PinnedTables
import GoSem.Claim
import GoSem.ClaimJoined
import GoSem.ClaimMapViews
import Derived.JoinedTies
import Derived.KernelRfl
namespace Go.Proofs.YtmapmdldlcfjhaaGreatDoor
/- THE CELL 'sum', in the pinned program and in every row, IS THE sha256 OF THE DUMP (.gsa) THAT YtmapmdldlcfjhaaGreatDoorProg.lean LOADS. Nothing in Lean hashes anything: it is a label: what it is worth is what the hold of that sum in a sandbox is worth. -/
noncomputable def Tryz.pinned : Pinned := { name := "ytmapmdldlcfjhaagreatdoor", sum := "1d7409c40c1ca9f32190887dc9c23ceda6a845802a87070325caf3fc66604309", checked := Tryz.checked }
namespace Rows
def none {H : Type} : Left H := { results := [], args := [] }

/- WHAT THE LISTED PACKAGE-LEVEL VARIABLES READ AS WHEN THE CALL BEGINS. Each datum BY PROGRAM (the guide's laid-datum.mjs) off the statement by which the dump's own 'gosem.cut.vars' lays the variable. In a bare row this is a premise. The card (YtmapmdldlcfjhaaGreatDoorCards.lean) ties it to the program's text. -/
def laid_unicode_utf8_acceptRanges {H : Type} : DataW H := .agg [.agg [.lit (.int .u8 128), .lit (.int .u8 191)], .agg [.lit (.int .u8 160), .lit (.int .u8 191)], .agg [.lit (.int .u8 128), .lit (.int .u8 159)], .agg [.lit (.int .u8 144), .lit (.int .u8 191)], .agg [.lit (.int .u8 128), .lit (.int .u8 143)], .agg [.lit (.int .u8 0), .lit (.int .u8 0)], .agg [.lit (.int .u8 0), .lit (.int .u8 0)], .agg [.lit (.int .u8 0), .lit (.int .u8 0)], .agg [.lit (.int .u8 0), .lit (.int .u8 0)], .agg [.lit (.int .u8 0), .lit (.int .u8 0)], .agg [.lit (.int .u8 0), .lit (.int .u8 0)], .agg [.lit (.int .u8 0), .lit (.int .u8 0)], .agg [.lit (.int .u8 0), .lit (.int .u8 0)], .agg [.lit (.int .u8 0), .lit (.int .u8 0)], .agg [.lit (.int .u8 0), .lit (.int .u8 0)], .agg [.lit (.int .u8 0), .lit (.int .u8 0)]]
/-- One of Go's own tables, pinned by name: the form's constant. -/
def laid_unicode_utf8_first : DataW Unit := Go.Pinned.utf8First

/-- 'insolvencylaw4.ApportionLargest': WHATEVER THE INPUT: true; the input reads as it did. -/
def apportionLargestSpec : ChangeSpec := { name := "apportionLargest", fn := fun _ => fun
  | [d] => { results := [.lit (.bool true)], args := [d] }
  | _ => none }
def apportionLargestRow : OpenClaim := { program := "ytmapmdldlcfjhaagreatdoor", sum := "1d7409c40c1ca9f32190887dc9c23ceda6a845802a87070325caf3fc66604309", func := "insolvency/insolvencylaw4.ApportionLargest", spec := "apportionLargest", inPlace := ["internal/bytealg.IndexByteString", "internal/bytealg.IndexString", "internal/bytealg.abigen_runtime_cmpstring"], unfollowed := true, recurses := true, named := ["unicode/utf8.first", "unicode/utf8.acceptRanges", "internal/bytealg.MaxLen"], apart := false, laid := [("unicode/utf8.acceptRanges", laid_unicode_utf8_acceptRanges), ("unicode/utf8.first", laid_unicode_utf8_first)] }
def ApportionLargestSaid : Prop := apportionLargestRow.holds Tryz.pinned (OpenSpec.ofChange apportionLargestSpec)

/-- ITS FALSE NEIGHBOUR: 'it returns false'. Refute it at one input. -/
def apportionLargestWrong : ChangeSpec := { name := "apportionLargest", fn := fun _ => fun
  | [d] => { results := [.lit (.bool false)], args := [d] }
  | _ => none }
def ApportionLargestWrongFalsely : Prop := apportionLargestRow.holds Tryz.pinned (OpenSpec.ofChange apportionLargestWrong)

/-- 'insolvencylaw4.ApportionSplit': WHATEVER THE INPUT: true; the input reads as it did. -/
def apportionSplitSpec : ChangeSpec := { name := "apportionSplit", fn := fun _ => fun
  | [d1, d2] => { results := [.lit (.bool true)], args := [d1, d2] }
  | _ => none }
def apportionSplitRow : OpenClaim := { program := "ytmapmdldlcfjhaagreatdoor", sum := "1d7409c40c1ca9f32190887dc9c23ceda6a845802a87070325caf3fc66604309", func := "insolvency/insolvencylaw4.ApportionSplit", spec := "apportionSplit", inPlace := ["internal/bytealg.IndexByteString", "internal/bytealg.IndexString", "internal/bytealg.abigen_runtime_cmpstring"], unfollowed := true, recurses := true, named := ["unicode/utf8.first", "unicode/utf8.acceptRanges", "internal/bytealg.MaxLen"], apart := false, laid := [("unicode/utf8.acceptRanges", laid_unicode_utf8_acceptRanges), ("unicode/utf8.first", laid_unicode_utf8_first)] }
def ApportionSplitSaid : Prop := apportionSplitRow.holds Tryz.pinned (OpenSpec.ofChange apportionSplitSpec)

/-- ITS FALSE NEIGHBOUR: 'it returns false'. Refute it at one input. -/
def apportionSplitWrong : ChangeSpec := { name := "apportionSplit", fn := fun _ => fun
  | [d1, d2] => { results := [.lit (.bool false)], args := [d1, d2] }
  | _ => none }
def ApportionSplitWrongFalsely : Prop := apportionSplitRow.holds Tryz.pinned (OpenSpec.ofChange apportionSplitWrong)

/-- 'insolvencylaw24.PayoutCents': WHATEVER THE INPUT: true; the input reads as it did. -/
def payoutCentsSpec : ChangeSpec := { name := "payoutCents", fn := fun _ => fun
  | [d1, d2] => { results := [.lit (.bool true)], args := [d1, d2] }
  | _ => none }
def payoutCentsRow : OpenClaim := { program := "ytmapmdldlcfjhaagreatdoor", sum := "1d7409c40c1ca9f32190887dc9c23ceda6a845802a87070325caf3fc66604309", func := "insolvency/insolvencylaw24.PayoutCents", spec := "payoutCents", inPlace := ["internal/bytealg.IndexByteString", "internal/bytealg.IndexString", "internal/bytealg.abigen_runtime_cmpstring"], unfollowed := true, recurses := true, named := ["unicode/utf8.first", "unicode/utf8.acceptRanges", "internal/bytealg.MaxLen"], apart := false, laid := [("unicode/utf8.acceptRanges", laid_unicode_utf8_acceptRanges), ("unicode/utf8.first", laid_unicode_utf8_first)] }
def PayoutCentsSaid : Prop := payoutCentsRow.holds Tryz.pinned (OpenSpec.ofChange payoutCentsSpec)

/-- ITS FALSE NEIGHBOUR: 'it returns false'. Refute it at one input. -/
def payoutCentsWrong : ChangeSpec := { name := "payoutCents", fn := fun _ => fun
  | [d1, d2] => { results := [.lit (.bool false)], args := [d1, d2] }
  | _ => none }
def PayoutCentsWrongFalsely : Prop := payoutCentsRow.holds Tryz.pinned (OpenSpec.ofChange payoutCentsWrong)

/-- 'insolvencylaw24.PayoutRound': WHATEVER THE INPUT: true; the input reads as it did. -/
def payoutRoundSpec : ChangeSpec := { name := "payoutRound", fn := fun _ => fun
  | [d1, d2] => { results := [.lit (.bool true)], args := [d1, d2] }
  | _ => none }
def payoutRoundRow : OpenClaim := { program := "ytmapmdldlcfjhaagreatdoor", sum := "1d7409c40c1ca9f32190887dc9c23ceda6a845802a87070325caf3fc66604309", func := "insolvency/insolvencylaw24.PayoutRound", spec := "payoutRound", inPlace := ["internal/bytealg.IndexByteString", "internal/bytealg.IndexString", "internal/bytealg.abigen_runtime_cmpstring"], unfollowed := true, recurses := true, named := ["unicode/utf8.first", "unicode/utf8.acceptRanges", "internal/bytealg.MaxLen"], apart := false, laid := [("unicode/utf8.acceptRanges", laid_unicode_utf8_acceptRanges), ("unicode/utf8.first", laid_unicode_utf8_first)] }
def PayoutRoundSaid : Prop := payoutRoundRow.holds Tryz.pinned (OpenSpec.ofChange payoutRoundSpec)

/-- ITS FALSE NEIGHBOUR: 'it returns false'. Refute it at one input. -/
def payoutRoundWrong : ChangeSpec := { name := "payoutRound", fn := fun _ => fun
  | [d1, d2] => { results := [.lit (.bool false)], args := [d1, d2] }
  | _ => none }
def PayoutRoundWrongFalsely : Prop := payoutRoundRow.holds Tryz.pinned (OpenSpec.ofChange payoutRoundWrong)

/-- 'insolvencylaw24.PayoutExact': WHATEVER THE INPUT: true; the input reads as it did. -/
def payoutExactSpec : ChangeSpec := { name := "payoutExact", fn := fun _ => fun
  | [d] => { results := [.lit (.bool true)], args := [d] }
  | _ => none }
def payoutExactRow : OpenClaim := { program := "ytmapmdldlcfjhaagreatdoor", sum := "1d7409c40c1ca9f32190887dc9c23ceda6a845802a87070325caf3fc66604309", func := "insolvency/insolvencylaw24.PayoutExact", spec := "payoutExact", inPlace := ["internal/bytealg.IndexByteString", "internal/bytealg.IndexString", "internal/bytealg.abigen_runtime_cmpstring"], unfollowed := true, recurses := true, named := ["unicode/utf8.first", "unicode/utf8.acceptRanges", "internal/bytealg.MaxLen"], apart := false, laid := [("unicode/utf8.acceptRanges", laid_unicode_utf8_acceptRanges), ("unicode/utf8.first", laid_unicode_utf8_first)] }
def PayoutExactSaid : Prop := payoutExactRow.holds Tryz.pinned (OpenSpec.ofChange payoutExactSpec)

/-- ITS FALSE NEIGHBOUR: 'it returns false'. Refute it at one input. -/
def payoutExactWrong : ChangeSpec := { name := "payoutExact", fn := fun _ => fun
  | [d] => { results := [.lit (.bool false)], args := [d] }
  | _ => none }
def PayoutExactWrongFalsely : Prop := payoutExactRow.holds Tryz.pinned (OpenSpec.ofChange payoutExactWrong)

/-- 'insolvencylaw24.PayoutLast': WHATEVER THE INPUT: true; the input reads as it did. -/
def payoutLastSpec : ChangeSpec := { name := "payoutLast", fn := fun _ => fun
  | [d1, d2, d3, d4] => { results := [.lit (.bool true)], args := [d1, d2, d3, d4] }
  | _ => none }
def payoutLastRow : OpenClaim := { program := "ytmapmdldlcfjhaagreatdoor", sum := "1d7409c40c1ca9f32190887dc9c23ceda6a845802a87070325caf3fc66604309", func := "insolvency/insolvencylaw24.PayoutLast", spec := "payoutLast", inPlace := ["internal/bytealg.IndexByteString", "internal/bytealg.IndexString", "internal/bytealg.abigen_runtime_cmpstring"], unfollowed := true, recurses := true, named := ["unicode/utf8.first", "unicode/utf8.acceptRanges", "internal/bytealg.MaxLen"], apart := false, laid := [("unicode/utf8.acceptRanges", laid_unicode_utf8_acceptRanges), ("unicode/utf8.first", laid_unicode_utf8_first)] }
def PayoutLastSaid : Prop := payoutLastRow.holds Tryz.pinned (OpenSpec.ofChange payoutLastSpec)

/-- ITS FALSE NEIGHBOUR: 'it returns false'. Refute it at one input. -/
def payoutLastWrong : ChangeSpec := { name := "payoutLast", fn := fun _ => fun
  | [d1, d2, d3, d4] => { results := [.lit (.bool false)], args := [d1, d2, d3, d4] }
  | _ => none }
def PayoutLastWrongFalsely : Prop := payoutLastRow.holds Tryz.pinned (OpenSpec.ofChange payoutLastWrong)

/-- 'insolvencylaw24.PayoutInterim': WHATEVER THE INPUT: true; the input reads as it did. -/
def payoutInterimSpec : ChangeSpec := { name := "payoutInterim", fn := fun _ => fun
  | [d1, d2, d3, d4] => { results := [.lit (.bool true)], args := [d1, d2, d3, d4] }
  | _ => none }
def payoutInterimRow : OpenClaim := { program := "ytmapmdldlcfjhaagreatdoor", sum := "1d7409c40c1ca9f32190887dc9c23ceda6a845802a87070325caf3fc66604309", func := "insolvency/insolvencylaw24.PayoutInterim", spec := "payoutInterim", inPlace := ["internal/bytealg.IndexByteString", "internal/bytealg.IndexString", "internal/bytealg.abigen_runtime_cmpstring"], unfollowed := true, recurses := true, named := ["unicode/utf8.first", "unicode/utf8.acceptRanges", "internal/bytealg.MaxLen"], apart := false, laid := [("unicode/utf8.acceptRanges", laid_unicode_utf8_acceptRanges), ("unicode/utf8.first", laid_unicode_utf8_first)] }
def PayoutInterimSaid : Prop := payoutInterimRow.holds Tryz.pinned (OpenSpec.ofChange payoutInterimSpec)

/-- ITS FALSE NEIGHBOUR: 'it returns false'. Refute it at one input. -/
def payoutInterimWrong : ChangeSpec := { name := "payoutInterim", fn := fun _ => fun
  | [d1, d2, d3, d4] => { results := [.lit (.bool false)], args := [d1, d2, d3, d4] }
  | _ => none }
def PayoutInterimWrongFalsely : Prop := payoutInterimRow.holds Tryz.pinned (OpenSpec.ofChange payoutInterimWrong)

/-- 'insolvencylaw24.PayoutNever': WHATEVER THE INPUT: true; the input reads as it did. -/
def payoutNeverSpec : ChangeSpec := { name := "payoutNever", fn := fun _ => fun
  | [d1, d2] => { results := [.lit (.bool true)], args := [d1, d2] }
  | _ => none }
def payoutNeverRow : OpenClaim := { program := "ytmapmdldlcfjhaagreatdoor", sum := "1d7409c40c1ca9f32190887dc9c23ceda6a845802a87070325caf3fc66604309", func := "insolvency/insolvencylaw24.PayoutNever", spec := "payoutNever", inPlace := ["internal/bytealg.IndexByteString", "internal/bytealg.IndexString", "internal/bytealg.abigen_runtime_cmpstring"], unfollowed := true, recurses := true, named := ["unicode/utf8.first", "unicode/utf8.acceptRanges", "internal/bytealg.MaxLen"], apart := false, laid := [("unicode/utf8.acceptRanges", laid_unicode_utf8_acceptRanges), ("unicode/utf8.first", laid_unicode_utf8_first)] }
def PayoutNeverSaid : Prop := payoutNeverRow.holds Tryz.pinned (OpenSpec.ofChange payoutNeverSpec)

/-- ITS FALSE NEIGHBOUR: 'it returns false'. Refute it at one input. -/
def payoutNeverWrong : ChangeSpec := { name := "payoutNever", fn := fun _ => fun
  | [d1, d2] => { results := [.lit (.bool false)], args := [d1, d2] }
  | _ => none }
def PayoutNeverWrongFalsely : Prop := payoutNeverRow.holds Tryz.pinned (OpenSpec.ofChange payoutNeverWrong)

/- THE SECOND FORM. 'bulk': how many values and letters a reading holds, each counted each time it is reached (what is shared counts as often as it is met; a slice's spare places count too). A statement '..UptoSaid' is the law's where the arguments, and the package variables that the reading takes, are together of bulk at most 1048576: NARROWER than '..Said'. Prove '..Said' where nothing that the law and all that it calls make is longer than what came in: it says more and counts as full. Else prove '..UptoSaid'. A law counts once. -/
mutual
def uptoBulk {H : Type} : DataW H → Nat
  | .lit (.string bytes) => bytes.length + 1
  | .lit _ => 1
  | .nil => 1
  | .ptr d => uptoBulk d + 1
  | .slice elems spare => uptoBulkAll elems + uptoBulkAll spare + 1
  | .agg parts => uptoBulkAll parts + 1
  | .iface _ d => uptoBulk d + 1
  | .map entries => uptoBulkEntries entries + 1
  | .held _ => 1
def uptoBulkAll {H : Type} : List (DataW H) → Nat
  | [] => 0
  | d :: r => uptoBulk d + uptoBulkAll r
def uptoBulkEntries {H : Type} : List (Lit × DataW H) → Nat
  | [] => 0
  | x :: r => uptoBulkEntry x + uptoBulkEntries r
def uptoBulkEntry {H : Type} : Lit × DataW H → Nat
  | (.string bytes, d) => bytes.length + uptoBulk d + 1
  | (_, d) => uptoBulk d + 1
 end
def uptoSmall : (H : Type) → List (DataW H) → Bool := fun _ ds => decide (uptoBulkAll ds ≤ 1048576)
def OpenSpec.upto (s : _root_.Go.ChangeSpec) : _root_.Go.OpenSpec := { _root_.Go.OpenSpec.ofChange s with cond := some uptoSmall }

/-- 'insolvencylaw4.ApportionLargest', WHERE WHAT IT READS IS OF BULK AT MOST 1048576: true; the input reads as it did. -/
def apportionLargestUptoRow : OpenClaim := { program := "ytmapmdldlcfjhaagreatdoor", sum := "1d7409c40c1ca9f32190887dc9c23ceda6a845802a87070325caf3fc66604309", func := "insolvency/insolvencylaw4.ApportionLargest", spec := "apportionLargest", inPlace := ["internal/bytealg.IndexByteString", "internal/bytealg.IndexString", "internal/bytealg.abigen_runtime_cmpstring"], unfollowed := true, recurses := true, named := ["unicode/utf8.first", "unicode/utf8.acceptRanges", "internal/bytealg.MaxLen"], apart := false, laid := [("unicode/utf8.acceptRanges", laid_unicode_utf8_acceptRanges), ("unicode/utf8.first", laid_unicode_utf8_first)], narrowed := true }
def ApportionLargestUptoSaid : Prop := apportionLargestUptoRow.holds Tryz.pinned (OpenSpec.upto apportionLargestSpec)

/-- 'insolvencylaw4.ApportionSplit', WHERE WHAT IT READS IS OF BULK AT MOST 1048576: true; the input reads as it did. -/
def apportionSplitUptoRow : OpenClaim := { program := "ytmapmdldlcfjhaagreatdoor", sum := "1d7409c40c1ca9f32190887dc9c23ceda6a845802a87070325caf3fc66604309", func := "insolvency/insolvencylaw4.ApportionSplit", spec := "apportionSplit", inPlace := ["internal/bytealg.IndexByteString", "internal/bytealg.IndexString", "internal/bytealg.abigen_runtime_cmpstring"], unfollowed := true, recurses := true, named := ["unicode/utf8.first", "unicode/utf8.acceptRanges", "internal/bytealg.MaxLen"], apart := false, laid := [("unicode/utf8.acceptRanges", laid_unicode_utf8_acceptRanges), ("unicode/utf8.first", laid_unicode_utf8_first)], narrowed := true }
def ApportionSplitUptoSaid : Prop := apportionSplitUptoRow.holds Tryz.pinned (OpenSpec.upto apportionSplitSpec)

/-- 'insolvencylaw24.PayoutCents', WHERE WHAT IT READS IS OF BULK AT MOST 1048576: true; the input reads as it did. -/
def payoutCentsUptoRow : OpenClaim := { program := "ytmapmdldlcfjhaagreatdoor", sum := "1d7409c40c1ca9f32190887dc9c23ceda6a845802a87070325caf3fc66604309", func := "insolvency/insolvencylaw24.PayoutCents", spec := "payoutCents", inPlace := ["internal/bytealg.IndexByteString", "internal/bytealg.IndexString", "internal/bytealg.abigen_runtime_cmpstring"], unfollowed := true, recurses := true, named := ["unicode/utf8.first", "unicode/utf8.acceptRanges", "internal/bytealg.MaxLen"], apart := false, laid := [("unicode/utf8.acceptRanges", laid_unicode_utf8_acceptRanges), ("unicode/utf8.first", laid_unicode_utf8_first)], narrowed := true }
def PayoutCentsUptoSaid : Prop := payoutCentsUptoRow.holds Tryz.pinned (OpenSpec.upto payoutCentsSpec)

/-- 'insolvencylaw24.PayoutRound', WHERE WHAT IT READS IS OF BULK AT MOST 1048576: true; the input reads as it did. -/
def payoutRoundUptoRow : OpenClaim := { program := "ytmapmdldlcfjhaagreatdoor", sum := "1d7409c40c1ca9f32190887dc9c23ceda6a845802a87070325caf3fc66604309", func := "insolvency/insolvencylaw24.PayoutRound", spec := "payoutRound", inPlace := ["internal/bytealg.IndexByteString", "internal/bytealg.IndexString", "internal/bytealg.abigen_runtime_cmpstring"], unfollowed := true, recurses := true, named := ["unicode/utf8.first", "unicode/utf8.acceptRanges", "internal/bytealg.MaxLen"], apart := false, laid := [("unicode/utf8.acceptRanges", laid_unicode_utf8_acceptRanges), ("unicode/utf8.first", laid_unicode_utf8_first)], narrowed := true }
def PayoutRoundUptoSaid : Prop := payoutRoundUptoRow.holds Tryz.pinned (OpenSpec.upto payoutRoundSpec)

/-- 'insolvencylaw24.PayoutExact', WHERE WHAT IT READS IS OF BULK AT MOST 1048576: true; the input reads as it did. -/
def payoutExactUptoRow : OpenClaim := { program := "ytmapmdldlcfjhaagreatdoor", sum := "1d7409c40c1ca9f32190887dc9c23ceda6a845802a87070325caf3fc66604309", func := "insolvency/insolvencylaw24.PayoutExact", spec := "payoutExact", inPlace := ["internal/bytealg.IndexByteString", "internal/bytealg.IndexString", "internal/bytealg.abigen_runtime_cmpstring"], unfollowed := true, recurses := true, named := ["unicode/utf8.first", "unicode/utf8.acceptRanges", "internal/bytealg.MaxLen"], apart := false, laid := [("unicode/utf8.acceptRanges", laid_unicode_utf8_acceptRanges), ("unicode/utf8.first", laid_unicode_utf8_first)], narrowed := true }
def PayoutExactUptoSaid : Prop := payoutExactUptoRow.holds Tryz.pinned (OpenSpec.upto payoutExactSpec)

/-- 'insolvencylaw24.PayoutLast', WHERE WHAT IT READS IS OF BULK AT MOST 1048576: true; the input reads as it did. -/
def payoutLastUptoRow : OpenClaim := { program := "ytmapmdldlcfjhaagreatdoor", sum := "1d7409c40c1ca9f32190887dc9c23ceda6a845802a87070325caf3fc66604309", func := "insolvency/insolvencylaw24.PayoutLast", spec := "payoutLast", inPlace := ["internal/bytealg.IndexByteString", "internal/bytealg.IndexString", "internal/bytealg.abigen_runtime_cmpstring"], unfollowed := true, recurses := true, named := ["unicode/utf8.first", "unicode/utf8.acceptRanges", "internal/bytealg.MaxLen"], apart := false, laid := [("unicode/utf8.acceptRanges", laid_unicode_utf8_acceptRanges), ("unicode/utf8.first", laid_unicode_utf8_first)], narrowed := true }
def PayoutLastUptoSaid : Prop := payoutLastUptoRow.holds Tryz.pinned (OpenSpec.upto payoutLastSpec)

/-- 'insolvencylaw24.PayoutInterim', WHERE WHAT IT READS IS OF BULK AT MOST 1048576: true; the input reads as it did. -/
def payoutInterimUptoRow : OpenClaim := { program := "ytmapmdldlcfjhaagreatdoor", sum := "1d7409c40c1ca9f32190887dc9c23ceda6a845802a87070325caf3fc66604309", func := "insolvency/insolvencylaw24.PayoutInterim", spec := "payoutInterim", inPlace := ["internal/bytealg.IndexByteString", "internal/bytealg.IndexString", "internal/bytealg.abigen_runtime_cmpstring"], unfollowed := true, recurses := true, named := ["unicode/utf8.first", "unicode/utf8.acceptRanges", "internal/bytealg.MaxLen"], apart := false, laid := [("unicode/utf8.acceptRanges", laid_unicode_utf8_acceptRanges), ("unicode/utf8.first", laid_unicode_utf8_first)], narrowed := true }
def PayoutInterimUptoSaid : Prop := payoutInterimUptoRow.holds Tryz.pinned (OpenSpec.upto payoutInterimSpec)

/-- 'insolvencylaw24.PayoutNever', WHERE WHAT IT READS IS OF BULK AT MOST 1048576: true; the input reads as it did. -/
def payoutNeverUptoRow : OpenClaim := { program := "ytmapmdldlcfjhaagreatdoor", sum := "1d7409c40c1ca9f32190887dc9c23ceda6a845802a87070325caf3fc66604309", func := "insolvency/insolvencylaw24.PayoutNever", spec := "payoutNever", inPlace := ["internal/bytealg.IndexByteString", "internal/bytealg.IndexString", "internal/bytealg.abigen_runtime_cmpstring"], unfollowed := true, recurses := true, named := ["unicode/utf8.first", "unicode/utf8.acceptRanges", "internal/bytealg.MaxLen"], apart := false, laid := [("unicode/utf8.acceptRanges", laid_unicode_utf8_acceptRanges), ("unicode/utf8.first", laid_unicode_utf8_first)], narrowed := true }
def PayoutNeverUptoSaid : Prop := payoutNeverUptoRow.holds Tryz.pinned (OpenSpec.upto payoutNeverSpec)

end Rows
end Go.Proofs.YtmapmdldlcfjhaaGreatDoor
