/-
  NARROWER THAN 'FOR EVERY INPUT', by the rows' own cells (each row's printed sentence says how): LinearRows: laid · LinearScale: laid · LinearLimits: laid · LinearNull: laid.
  DERIVED. THE GIVEN ROWS OF THIS SEAT. 4 by the template 'for every input the law returns true; each argument reads behind the call as it read before'; 0 by the template 'total and deterministic' (their statements: YtblfipdfklpmmaaDoorTotals.lean).
  GIVEN WITH THE SEED: the statements are not yours to turn. If you find one false, say at which input.
  Laid BY PROGRAM, IN A SANDBOX (cutbox-rows.mjs): the forced cells as the released guide's own fill.sh prints them over the translation 467a3b9d187ef2d7… (all of the seat's roots in one cut). By AI agents, Wed Nov 11 2026. No macro, syntax, notation, axiom, sorry.
-/
import Derived.Test.YtblfipdfklpmmaaDoorChecked
import GoSem.PinnedTables
import GoSem.Claim
import GoSem.ClaimJoined
import GoSem.ClaimMapViews
import Derived.JoinedTies
import Derived.KernelRfl
namespace Go.Proofs.YtblfipdfklpmmaaDoor
/- THE CELL 'sum', in the pinned program and in every row, IS THE sha256 OF THE DUMP (.gsa) THAT YtblfipdfklpmmaaDoorProg.lean LOADS. Nothing in Lean hashes anything: it is a label: what it is worth is what the hold of that sum in a sandbox is worth. -/
noncomputable def Tryd.pinned : Pinned := { name := "ytblfipdfklpmmaadoor", sum := "467a3b9d187ef2d77668cf02e11ae6604842a87d5a405dea6820a08484ce8847", checked := Tryd.checked }
namespace Rows
def none {H : Type} : Left H := { results := [], args := [] }

/- WHAT THE LISTED PACKAGE-LEVEL VARIABLES READ AS WHEN THE CALL BEGINS. Each datum BY PROGRAM (the guide's laid-datum.mjs) off the statement by which the dump's own 'gosem.cut.vars' lays the variable. In a bare row this is a premise. The card (YtblfipdfklpmmaaDoorCards.lean) ties it to the program's text. -/
def laid_unicode_utf8_acceptRanges {H : Type} : DataW H := .agg [.agg [.lit (.int .u8 128), .lit (.int .u8 191)], .agg [.lit (.int .u8 160), .lit (.int .u8 191)], .agg [.lit (.int .u8 128), .lit (.int .u8 159)], .agg [.lit (.int .u8 144), .lit (.int .u8 191)], .agg [.lit (.int .u8 128), .lit (.int .u8 143)], .agg [.lit (.int .u8 0), .lit (.int .u8 0)], .agg [.lit (.int .u8 0), .lit (.int .u8 0)], .agg [.lit (.int .u8 0), .lit (.int .u8 0)], .agg [.lit (.int .u8 0), .lit (.int .u8 0)], .agg [.lit (.int .u8 0), .lit (.int .u8 0)], .agg [.lit (.int .u8 0), .lit (.int .u8 0)], .agg [.lit (.int .u8 0), .lit (.int .u8 0)], .agg [.lit (.int .u8 0), .lit (.int .u8 0)], .agg [.lit (.int .u8 0), .lit (.int .u8 0)], .agg [.lit (.int .u8 0), .lit (.int .u8 0)], .agg [.lit (.int .u8 0), .lit (.int .u8 0)]]
/-- One of Go's own tables, pinned by name: the form's constant. -/
def laid_unicode_utf8_first : DataW Unit := Go.Pinned.utf8First

/-- 'insolvencylaw3.LinearRows': WHATEVER THE INPUT: true; the input reads as it did. -/
def linearRowsSpec : ChangeSpec := { name := "linearRows", fn := fun _ => fun
  | [d1, d2, d3, d4, d5, d6] => { results := [.lit (.bool true)], args := [d1, d2, d3, d4, d5, d6] }
  | _ => none }
def linearRowsRow : OpenClaim := { program := "ytblfipdfklpmmaadoor", sum := "467a3b9d187ef2d77668cf02e11ae6604842a87d5a405dea6820a08484ce8847", func := "insolvency/insolvencylaw3.LinearRows", spec := "linearRows", inPlace := ["internal/bytealg.IndexByteString", "internal/bytealg.IndexString"], unfollowed := true, recurses := true, named := ["unicode/utf8.first", "unicode/utf8.acceptRanges", "internal/bytealg.MaxLen"], apart := false, laid := [("unicode/utf8.acceptRanges", laid_unicode_utf8_acceptRanges), ("unicode/utf8.first", laid_unicode_utf8_first)] }
def LinearRowsSaid : Prop := linearRowsRow.holds Tryd.pinned (OpenSpec.ofChange linearRowsSpec)

/-- ITS FALSE NEIGHBOUR: 'it returns false'. Refute it at one input. -/
def linearRowsWrong : ChangeSpec := { name := "linearRows", fn := fun _ => fun
  | [d1, d2, d3, d4, d5, d6] => { results := [.lit (.bool false)], args := [d1, d2, d3, d4, d5, d6] }
  | _ => none }
def LinearRowsWrongFalsely : Prop := linearRowsRow.holds Tryd.pinned (OpenSpec.ofChange linearRowsWrong)

/-- 'insolvencylaw3.LinearScale': WHATEVER THE INPUT: true; the input reads as it did. -/
def linearScaleSpec : ChangeSpec := { name := "linearScale", fn := fun _ => fun
  | [d1, d2, d3, d4] => { results := [.lit (.bool true)], args := [d1, d2, d3, d4] }
  | _ => none }
def linearScaleRow : OpenClaim := { program := "ytblfipdfklpmmaadoor", sum := "467a3b9d187ef2d77668cf02e11ae6604842a87d5a405dea6820a08484ce8847", func := "insolvency/insolvencylaw3.LinearScale", spec := "linearScale", inPlace := ["internal/bytealg.IndexByteString", "internal/bytealg.IndexString"], unfollowed := true, recurses := true, named := ["unicode/utf8.first", "unicode/utf8.acceptRanges", "internal/bytealg.MaxLen"], apart := false, laid := [("unicode/utf8.acceptRanges", laid_unicode_utf8_acceptRanges), ("unicode/utf8.first", laid_unicode_utf8_first)] }
def LinearScaleSaid : Prop := linearScaleRow.holds Tryd.pinned (OpenSpec.ofChange linearScaleSpec)

/-- ITS FALSE NEIGHBOUR: 'it returns false'. Refute it at one input. -/
def linearScaleWrong : ChangeSpec := { name := "linearScale", fn := fun _ => fun
  | [d1, d2, d3, d4] => { results := [.lit (.bool false)], args := [d1, d2, d3, d4] }
  | _ => none }
def LinearScaleWrongFalsely : Prop := linearScaleRow.holds Tryd.pinned (OpenSpec.ofChange linearScaleWrong)

/-- 'insolvencylaw3.LinearLimits': WHATEVER THE INPUT: true; the input reads as it did. -/
def linearLimitsSpec : ChangeSpec := { name := "linearLimits", fn := fun _ => fun
  | [d1, d2] => { results := [.lit (.bool true)], args := [d1, d2] }
  | _ => none }
def linearLimitsRow : OpenClaim := { program := "ytblfipdfklpmmaadoor", sum := "467a3b9d187ef2d77668cf02e11ae6604842a87d5a405dea6820a08484ce8847", func := "insolvency/insolvencylaw3.LinearLimits", spec := "linearLimits", inPlace := ["internal/bytealg.IndexByteString", "internal/bytealg.IndexString"], unfollowed := true, recurses := true, named := ["unicode/utf8.first", "unicode/utf8.acceptRanges", "internal/bytealg.MaxLen"], apart := false, laid := [("unicode/utf8.acceptRanges", laid_unicode_utf8_acceptRanges), ("unicode/utf8.first", laid_unicode_utf8_first)] }
def LinearLimitsSaid : Prop := linearLimitsRow.holds Tryd.pinned (OpenSpec.ofChange linearLimitsSpec)

/-- ITS FALSE NEIGHBOUR: 'it returns false'. Refute it at one input. -/
def linearLimitsWrong : ChangeSpec := { name := "linearLimits", fn := fun _ => fun
  | [d1, d2] => { results := [.lit (.bool false)], args := [d1, d2] }
  | _ => none }
def LinearLimitsWrongFalsely : Prop := linearLimitsRow.holds Tryd.pinned (OpenSpec.ofChange linearLimitsWrong)

/-- 'insolvencylaw3.LinearNull': WHATEVER THE INPUT: true; the input reads as it did. -/
def linearNullSpec : ChangeSpec := { name := "linearNull", fn := fun _ => fun
  | [d1, d2, d3] => { results := [.lit (.bool true)], args := [d1, d2, d3] }
  | _ => none }
def linearNullRow : OpenClaim := { program := "ytblfipdfklpmmaadoor", sum := "467a3b9d187ef2d77668cf02e11ae6604842a87d5a405dea6820a08484ce8847", func := "insolvency/insolvencylaw3.LinearNull", spec := "linearNull", inPlace := ["internal/bytealg.IndexByteString", "internal/bytealg.IndexString"], unfollowed := true, recurses := true, named := ["unicode/utf8.first", "unicode/utf8.acceptRanges", "internal/bytealg.MaxLen"], apart := false, laid := [("unicode/utf8.acceptRanges", laid_unicode_utf8_acceptRanges), ("unicode/utf8.first", laid_unicode_utf8_first)] }
def LinearNullSaid : Prop := linearNullRow.holds Tryd.pinned (OpenSpec.ofChange linearNullSpec)

/-- ITS FALSE NEIGHBOUR: 'it returns false'. Refute it at one input. -/
def linearNullWrong : ChangeSpec := { name := "linearNull", fn := fun _ => fun
  | [d1, d2, d3] => { results := [.lit (.bool false)], args := [d1, d2, d3] }
  | _ => none }
def LinearNullWrongFalsely : Prop := linearNullRow.holds Tryd.pinned (OpenSpec.ofChange linearNullWrong)

/- THE SECOND FORM. 'bulk': how many values and letters a reading holds, each counted each time it is reached (what is shared counts as often as it is met; a slice's spare places count too). A statement '..UptoSaid' is the law's where the arguments, and the package variables that the reading takes, are together of bulk at most 1048576: NARROWER than '..Said'. Prove '..Said' where nothing that the law and all that it calls make is longer than what came in: it says more and counts as full. Else prove '..UptoSaid'. A law counts once. -/
mutual
def uptoBulk {H : Type} : DataW H → Nat
  | .lit (.string bytes) => bytes.length + 1
  | .lit _ => 1
  | .nil => 1
  | .ptr d => uptoBulk d + 1
  | .slice elems spare => uptoBulkAll elems + uptoBulkAll spare + 1
  | .agg parts => uptoBulkAll parts + 1
  | .iface _ d => uptoBulk d + 1
  | .map entries => uptoBulkEntries entries + 1
  | .held _ => 1
def uptoBulkAll {H : Type} : List (DataW H) → Nat
  | [] => 0
  | d :: r => uptoBulk d + uptoBulkAll r
def uptoBulkEntries {H : Type} : List (Lit × DataW H) → Nat
  | [] => 0
  | x :: r => uptoBulkEntry x + uptoBulkEntries r
def uptoBulkEntry {H : Type} : Lit × DataW H → Nat
  | (.string bytes, d) => bytes.length + uptoBulk d + 1
  | (_, d) => uptoBulk d + 1
 end
def uptoSmall : (H : Type) → List (DataW H) → Bool := fun _ ds => decide (uptoBulkAll ds ≤ 1048576)
def OpenSpec.upto (s : _root_.Go.ChangeSpec) : _root_.Go.OpenSpec := { _root_.Go.OpenSpec.ofChange s with cond := some uptoSmall }

/-- 'insolvencylaw3.LinearRows', WHERE WHAT IT READS IS OF BULK AT MOST 1048576: true; the input reads as it did. -/
def linearRowsUptoRow : OpenClaim := { program := "ytblfipdfklpmmaadoor", sum := "467a3b9d187ef2d77668cf02e11ae6604842a87d5a405dea6820a08484ce8847", func := "insolvency/insolvencylaw3.LinearRows", spec := "linearRows", inPlace := ["internal/bytealg.IndexByteString", "internal/bytealg.IndexString"], unfollowed := true, recurses := true, named := ["unicode/utf8.first", "unicode/utf8.acceptRanges", "internal/bytealg.MaxLen"], apart := false, laid := [("unicode/utf8.acceptRanges", laid_unicode_utf8_acceptRanges), ("unicode/utf8.first", laid_unicode_utf8_first)], narrowed := true }
def LinearRowsUptoSaid : Prop := linearRowsUptoRow.holds Tryd.pinned (OpenSpec.upto linearRowsSpec)

/-- 'insolvencylaw3.LinearScale', WHERE WHAT IT READS IS OF BULK AT MOST 1048576: true; the input reads as it did. -/
def linearScaleUptoRow : OpenClaim := { program := "ytblfipdfklpmmaadoor", sum := "467a3b9d187ef2d77668cf02e11ae6604842a87d5a405dea6820a08484ce8847", func := "insolvency/insolvencylaw3.LinearScale", spec := "linearScale", inPlace := ["internal/bytealg.IndexByteString", "internal/bytealg.IndexString"], unfollowed := true, recurses := true, named := ["unicode/utf8.first", "unicode/utf8.acceptRanges", "internal/bytealg.MaxLen"], apart := false, laid := [("unicode/utf8.acceptRanges", laid_unicode_utf8_acceptRanges), ("unicode/utf8.first", laid_unicode_utf8_first)], narrowed := true }
def LinearScaleUptoSaid : Prop := linearScaleUptoRow.holds Tryd.pinned (OpenSpec.upto linearScaleSpec)

/-- 'insolvencylaw3.LinearLimits', WHERE WHAT IT READS IS OF BULK AT MOST 1048576: true; the input reads as it did. -/
def linearLimitsUptoRow : OpenClaim := { program := "ytblfipdfklpmmaadoor", sum := "467a3b9d187ef2d77668cf02e11ae6604842a87d5a405dea6820a08484ce8847", func := "insolvency/insolvencylaw3.LinearLimits", spec := "linearLimits", inPlace := ["internal/bytealg.IndexByteString", "internal/bytealg.IndexString"], unfollowed := true, recurses := true, named := ["unicode/utf8.first", "unicode/utf8.acceptRanges", "internal/bytealg.MaxLen"], apart := false, laid := [("unicode/utf8.acceptRanges", laid_unicode_utf8_acceptRanges), ("unicode/utf8.first", laid_unicode_utf8_first)], narrowed := true }
def LinearLimitsUptoSaid : Prop := linearLimitsUptoRow.holds Tryd.pinned (OpenSpec.upto linearLimitsSpec)

/-- 'insolvencylaw3.LinearNull', WHERE WHAT IT READS IS OF BULK AT MOST 1048576: true; the input reads as it did. -/
def linearNullUptoRow : OpenClaim := { program := "ytblfipdfklpmmaadoor", sum := "467a3b9d187ef2d77668cf02e11ae6604842a87d5a405dea6820a08484ce8847", func := "insolvency/insolvencylaw3.LinearNull", spec := "linearNull", inPlace := ["internal/bytealg.IndexByteString", "internal/bytealg.IndexString"], unfollowed := true, recurses := true, named := ["unicode/utf8.first", "unicode/utf8.acceptRanges", "internal/bytealg.MaxLen"], apart := false, laid := [("unicode/utf8.acceptRanges", laid_unicode_utf8_acceptRanges), ("unicode/utf8.first", laid_unicode_utf8_first)], narrowed := true }
def LinearNullUptoSaid : Prop := linearNullUptoRow.holds Tryd.pinned (OpenSpec.upto linearNullSpec)

end Rows
end Go.Proofs.YtblfipdfklpmmaaDoor
