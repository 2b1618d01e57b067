/-
  NARROWER THAN 'FOR EVERY INPUT', by the rows' own cells (each row's printed sentence says how): SetoffCheck: laid · SetoffMany: laid · SetoffBalance: laid · SetoffTwice: laid · SetoffOldest: laid · SetoffWindow: laid · SetoffOneSided: laid · CollateralMany: laid.
  DERIVED. THE GIVEN ROWS OF THIS SEAT. 8 by the template 'for every input the law returns true; each argument reads behind the call as it read before'; 0 by the template 'total and deterministic' (their statements: YtdafaibhiobpaaaDoorTotals.lean).
  GIVEN WITH THE SEED: the statements are not yours to turn. If you find one false, say at which input.
  Laid BY PROGRAM, IN A SANDBOX (cutbox-rows.mjs): the forced cells as the released guide's own fill.sh prints them over the translation 4d58b6a9f9d9d090… (all of the seat's roots in one cut). By AI agents, Wed Nov 11 2026. No macro, syntax, notation, axiom, sorry.
-/
import Derived.Test.YtdafaibhiobpaaaDoorChecked
import GoSem.PinnedTables
import GoSem.Claim
import GoSem.ClaimJoined
import GoSem.ClaimMapViews
import Derived.JoinedTies
import Derived.KernelRfl
namespace Go.Proofs.YtdafaibhiobpaaaDoor
/- THE CELL 'sum', in the pinned program and in every row, IS THE sha256 OF THE DUMP (.gsa) THAT YtdafaibhiobpaaaDoorProg.lean LOADS. Nothing in Lean hashes anything: it is a label: what it is worth is what the hold of that sum in a sandbox is worth. -/
noncomputable def Tryd.pinned : Pinned := { name := "ytdafaibhiobpaaadoor", sum := "4d58b6a9f9d9d090c2e367962eb7631f7dac5c8d2ffb0b02444187613660fc41", checked := Tryd.checked }
namespace Rows
def none {H : Type} : Left H := { results := [], args := [] }

/- WHAT THE LISTED PACKAGE-LEVEL VARIABLES READ AS WHEN THE CALL BEGINS. Each datum BY PROGRAM (the guide's laid-datum.mjs) off the statement by which the dump's own 'gosem.cut.vars' lays the variable. In a bare row this is a premise. The card (YtdafaibhiobpaaaDoorCards.lean) ties it to the program's text. -/
def laid_unicode_utf8_acceptRanges {H : Type} : DataW H := .agg [.agg [.lit (.int .u8 128), .lit (.int .u8 191)], .agg [.lit (.int .u8 160), .lit (.int .u8 191)], .agg [.lit (.int .u8 128), .lit (.int .u8 159)], .agg [.lit (.int .u8 144), .lit (.int .u8 191)], .agg [.lit (.int .u8 128), .lit (.int .u8 143)], .agg [.lit (.int .u8 0), .lit (.int .u8 0)], .agg [.lit (.int .u8 0), .lit (.int .u8 0)], .agg [.lit (.int .u8 0), .lit (.int .u8 0)], .agg [.lit (.int .u8 0), .lit (.int .u8 0)], .agg [.lit (.int .u8 0), .lit (.int .u8 0)], .agg [.lit (.int .u8 0), .lit (.int .u8 0)], .agg [.lit (.int .u8 0), .lit (.int .u8 0)], .agg [.lit (.int .u8 0), .lit (.int .u8 0)], .agg [.lit (.int .u8 0), .lit (.int .u8 0)], .agg [.lit (.int .u8 0), .lit (.int .u8 0)], .agg [.lit (.int .u8 0), .lit (.int .u8 0)]]
/-- One of Go's own tables, pinned by name: the form's constant. -/
def laid_unicode_utf8_first : DataW Unit := Go.Pinned.utf8First

/-- 'insolvencylaw14.SetoffCheck': WHATEVER THE INPUT: true; the input reads as it did. -/
def setoffCheckSpec : ChangeSpec := { name := "setoffCheck", fn := fun _ => fun
  | [d1, d2, d3, d4] => { results := [.lit (.bool true)], args := [d1, d2, d3, d4] }
  | _ => none }
def setoffCheckRow : OpenClaim := { program := "ytdafaibhiobpaaadoor", sum := "4d58b6a9f9d9d090c2e367962eb7631f7dac5c8d2ffb0b02444187613660fc41", func := "insolvency/insolvencylaw14.SetoffCheck", spec := "setoffCheck", inPlace := ["internal/bytealg.IndexByteString", "internal/bytealg.IndexString", "internal/bytealg.abigen_runtime_cmpstring"], unfollowed := true, recurses := true, named := ["unicode/utf8.first", "unicode/utf8.acceptRanges", "internal/bytealg.MaxLen"], apart := false, laid := [("unicode/utf8.acceptRanges", laid_unicode_utf8_acceptRanges), ("unicode/utf8.first", laid_unicode_utf8_first)] }
def SetoffCheckSaid : Prop := setoffCheckRow.holds Tryd.pinned (OpenSpec.ofChange setoffCheckSpec)

/-- ITS FALSE NEIGHBOUR: 'it returns false'. Refute it at one input. -/
def setoffCheckWrong : ChangeSpec := { name := "setoffCheck", fn := fun _ => fun
  | [d1, d2, d3, d4] => { results := [.lit (.bool false)], args := [d1, d2, d3, d4] }
  | _ => none }
def SetoffCheckWrongFalsely : Prop := setoffCheckRow.holds Tryd.pinned (OpenSpec.ofChange setoffCheckWrong)

/-- 'insolvencylaw14.SetoffMany': WHATEVER THE INPUT: true; the input reads as it did. -/
def setoffManySpec : ChangeSpec := { name := "setoffMany", fn := fun _ => fun
  | [d1, d2] => { results := [.lit (.bool true)], args := [d1, d2] }
  | _ => none }
def setoffManyRow : OpenClaim := { program := "ytdafaibhiobpaaadoor", sum := "4d58b6a9f9d9d090c2e367962eb7631f7dac5c8d2ffb0b02444187613660fc41", func := "insolvency/insolvencylaw14.SetoffMany", spec := "setoffMany", inPlace := ["internal/bytealg.IndexByteString", "internal/bytealg.IndexString", "internal/bytealg.abigen_runtime_cmpstring"], unfollowed := true, recurses := true, named := ["unicode/utf8.first", "unicode/utf8.acceptRanges", "internal/bytealg.MaxLen"], apart := false, laid := [("unicode/utf8.acceptRanges", laid_unicode_utf8_acceptRanges), ("unicode/utf8.first", laid_unicode_utf8_first)] }
def SetoffManySaid : Prop := setoffManyRow.holds Tryd.pinned (OpenSpec.ofChange setoffManySpec)

/-- ITS FALSE NEIGHBOUR: 'it returns false'. Refute it at one input. -/
def setoffManyWrong : ChangeSpec := { name := "setoffMany", fn := fun _ => fun
  | [d1, d2] => { results := [.lit (.bool false)], args := [d1, d2] }
  | _ => none }
def SetoffManyWrongFalsely : Prop := setoffManyRow.holds Tryd.pinned (OpenSpec.ofChange setoffManyWrong)

/-- 'insolvencylaw14.SetoffBalance': WHATEVER THE INPUT: true; the input reads as it did. -/
def setoffBalanceSpec : ChangeSpec := { name := "setoffBalance", fn := fun _ => fun
  | [d1, d2, d3] => { results := [.lit (.bool true)], args := [d1, d2, d3] }
  | _ => none }
def setoffBalanceRow : OpenClaim := { program := "ytdafaibhiobpaaadoor", sum := "4d58b6a9f9d9d090c2e367962eb7631f7dac5c8d2ffb0b02444187613660fc41", func := "insolvency/insolvencylaw14.SetoffBalance", spec := "setoffBalance", inPlace := ["internal/bytealg.IndexByteString", "internal/bytealg.IndexString", "internal/bytealg.abigen_runtime_cmpstring"], unfollowed := true, recurses := true, named := ["unicode/utf8.first", "unicode/utf8.acceptRanges", "internal/bytealg.MaxLen"], apart := false, laid := [("unicode/utf8.acceptRanges", laid_unicode_utf8_acceptRanges), ("unicode/utf8.first", laid_unicode_utf8_first)] }
def SetoffBalanceSaid : Prop := setoffBalanceRow.holds Tryd.pinned (OpenSpec.ofChange setoffBalanceSpec)

/-- ITS FALSE NEIGHBOUR: 'it returns false'. Refute it at one input. -/
def setoffBalanceWrong : ChangeSpec := { name := "setoffBalance", fn := fun _ => fun
  | [d1, d2, d3] => { results := [.lit (.bool false)], args := [d1, d2, d3] }
  | _ => none }
def SetoffBalanceWrongFalsely : Prop := setoffBalanceRow.holds Tryd.pinned (OpenSpec.ofChange setoffBalanceWrong)

/-- 'insolvencylaw14.SetoffTwice': WHATEVER THE INPUT: true; the input reads as it did. -/
def setoffTwiceSpec : ChangeSpec := { name := "setoffTwice", fn := fun _ => fun
  | [d1, d2, d3] => { results := [.lit (.bool true)], args := [d1, d2, d3] }
  | _ => none }
def setoffTwiceRow : OpenClaim := { program := "ytdafaibhiobpaaadoor", sum := "4d58b6a9f9d9d090c2e367962eb7631f7dac5c8d2ffb0b02444187613660fc41", func := "insolvency/insolvencylaw14.SetoffTwice", spec := "setoffTwice", inPlace := ["internal/bytealg.IndexByteString", "internal/bytealg.IndexString", "internal/bytealg.abigen_runtime_cmpstring"], unfollowed := true, recurses := true, named := ["unicode/utf8.first", "unicode/utf8.acceptRanges", "internal/bytealg.MaxLen"], apart := false, laid := [("unicode/utf8.acceptRanges", laid_unicode_utf8_acceptRanges), ("unicode/utf8.first", laid_unicode_utf8_first)] }
def SetoffTwiceSaid : Prop := setoffTwiceRow.holds Tryd.pinned (OpenSpec.ofChange setoffTwiceSpec)

/-- ITS FALSE NEIGHBOUR: 'it returns false'. Refute it at one input. -/
def setoffTwiceWrong : ChangeSpec := { name := "setoffTwice", fn := fun _ => fun
  | [d1, d2, d3] => { results := [.lit (.bool false)], args := [d1, d2, d3] }
  | _ => none }
def SetoffTwiceWrongFalsely : Prop := setoffTwiceRow.holds Tryd.pinned (OpenSpec.ofChange setoffTwiceWrong)

/-- 'insolvencylaw14.SetoffOldest': WHATEVER THE INPUT: true; the input reads as it did. -/
def setoffOldestSpec : ChangeSpec := { name := "setoffOldest", fn := fun _ => fun
  | [d1, d2, d3] => { results := [.lit (.bool true)], args := [d1, d2, d3] }
  | _ => none }
def setoffOldestRow : OpenClaim := { program := "ytdafaibhiobpaaadoor", sum := "4d58b6a9f9d9d090c2e367962eb7631f7dac5c8d2ffb0b02444187613660fc41", func := "insolvency/insolvencylaw14.SetoffOldest", spec := "setoffOldest", inPlace := ["internal/bytealg.IndexByteString", "internal/bytealg.IndexString", "internal/bytealg.abigen_runtime_cmpstring"], unfollowed := true, recurses := true, named := ["unicode/utf8.first", "unicode/utf8.acceptRanges", "internal/bytealg.MaxLen"], apart := false, laid := [("unicode/utf8.acceptRanges", laid_unicode_utf8_acceptRanges), ("unicode/utf8.first", laid_unicode_utf8_first)] }
def SetoffOldestSaid : Prop := setoffOldestRow.holds Tryd.pinned (OpenSpec.ofChange setoffOldestSpec)

/-- ITS FALSE NEIGHBOUR: 'it returns false'. Refute it at one input. -/
def setoffOldestWrong : ChangeSpec := { name := "setoffOldest", fn := fun _ => fun
  | [d1, d2, d3] => { results := [.lit (.bool false)], args := [d1, d2, d3] }
  | _ => none }
def SetoffOldestWrongFalsely : Prop := setoffOldestRow.holds Tryd.pinned (OpenSpec.ofChange setoffOldestWrong)

/-- 'insolvencylaw14.SetoffWindow': WHATEVER THE INPUT: true; the input reads as it did. -/
def setoffWindowSpec : ChangeSpec := { name := "setoffWindow", fn := fun _ => fun
  | [d1, d2, d3, d4] => { results := [.lit (.bool true)], args := [d1, d2, d3, d4] }
  | _ => none }
def setoffWindowRow : OpenClaim := { program := "ytdafaibhiobpaaadoor", sum := "4d58b6a9f9d9d090c2e367962eb7631f7dac5c8d2ffb0b02444187613660fc41", func := "insolvency/insolvencylaw14.SetoffWindow", spec := "setoffWindow", inPlace := ["internal/bytealg.IndexByteString", "internal/bytealg.IndexString", "internal/bytealg.abigen_runtime_cmpstring"], unfollowed := true, recurses := true, named := ["unicode/utf8.first", "unicode/utf8.acceptRanges", "internal/bytealg.MaxLen"], apart := false, laid := [("unicode/utf8.acceptRanges", laid_unicode_utf8_acceptRanges), ("unicode/utf8.first", laid_unicode_utf8_first)] }
def SetoffWindowSaid : Prop := setoffWindowRow.holds Tryd.pinned (OpenSpec.ofChange setoffWindowSpec)

/-- ITS FALSE NEIGHBOUR: 'it returns false'. Refute it at one input. -/
def setoffWindowWrong : ChangeSpec := { name := "setoffWindow", fn := fun _ => fun
  | [d1, d2, d3, d4] => { results := [.lit (.bool false)], args := [d1, d2, d3, d4] }
  | _ => none }
def SetoffWindowWrongFalsely : Prop := setoffWindowRow.holds Tryd.pinned (OpenSpec.ofChange setoffWindowWrong)

/-- 'insolvencylaw14.SetoffOneSided': WHATEVER THE INPUT: true; the input reads as it did. -/
def setoffOneSidedSpec : ChangeSpec := { name := "setoffOneSided", fn := fun _ => fun
  | [d1, d2, d3, d4, d5] => { results := [.lit (.bool true)], args := [d1, d2, d3, d4, d5] }
  | _ => none }
def setoffOneSidedRow : OpenClaim := { program := "ytdafaibhiobpaaadoor", sum := "4d58b6a9f9d9d090c2e367962eb7631f7dac5c8d2ffb0b02444187613660fc41", func := "insolvency/insolvencylaw14.SetoffOneSided", spec := "setoffOneSided", inPlace := ["internal/bytealg.IndexByteString", "internal/bytealg.IndexString", "internal/bytealg.abigen_runtime_cmpstring"], unfollowed := true, recurses := true, named := ["unicode/utf8.first", "unicode/utf8.acceptRanges", "internal/bytealg.MaxLen"], apart := false, laid := [("unicode/utf8.acceptRanges", laid_unicode_utf8_acceptRanges), ("unicode/utf8.first", laid_unicode_utf8_first)] }
def SetoffOneSidedSaid : Prop := setoffOneSidedRow.holds Tryd.pinned (OpenSpec.ofChange setoffOneSidedSpec)

/-- ITS FALSE NEIGHBOUR: 'it returns false'. Refute it at one input. -/
def setoffOneSidedWrong : ChangeSpec := { name := "setoffOneSided", fn := fun _ => fun
  | [d1, d2, d3, d4, d5] => { results := [.lit (.bool false)], args := [d1, d2, d3, d4, d5] }
  | _ => none }
def SetoffOneSidedWrongFalsely : Prop := setoffOneSidedRow.holds Tryd.pinned (OpenSpec.ofChange setoffOneSidedWrong)

/-- 'insolvencylaw15.CollateralMany': WHATEVER THE INPUT: true; the input reads as it did. -/
def collateralManySpec : ChangeSpec := { name := "collateralMany", fn := fun _ => fun
  | [d1, d2, d3] => { results := [.lit (.bool true)], args := [d1, d2, d3] }
  | _ => none }
def collateralManyRow : OpenClaim := { program := "ytdafaibhiobpaaadoor", sum := "4d58b6a9f9d9d090c2e367962eb7631f7dac5c8d2ffb0b02444187613660fc41", func := "insolvency/insolvencylaw15.CollateralMany", spec := "collateralMany", inPlace := ["internal/bytealg.IndexByteString", "internal/bytealg.IndexString", "internal/bytealg.abigen_runtime_cmpstring"], unfollowed := true, recurses := true, named := ["unicode/utf8.first", "unicode/utf8.acceptRanges", "internal/bytealg.MaxLen"], apart := false, laid := [("unicode/utf8.acceptRanges", laid_unicode_utf8_acceptRanges), ("unicode/utf8.first", laid_unicode_utf8_first)] }
def CollateralManySaid : Prop := collateralManyRow.holds Tryd.pinned (OpenSpec.ofChange collateralManySpec)

/-- ITS FALSE NEIGHBOUR: 'it returns false'. Refute it at one input. -/
def collateralManyWrong : ChangeSpec := { name := "collateralMany", fn := fun _ => fun
  | [d1, d2, d3] => { results := [.lit (.bool false)], args := [d1, d2, d3] }
  | _ => none }
def CollateralManyWrongFalsely : Prop := collateralManyRow.holds Tryd.pinned (OpenSpec.ofChange collateralManyWrong)

/- THE SECOND FORM. 'bulk': how many values and letters a reading holds, each counted each time it is reached (what is shared counts as often as it is met; a slice's spare places count too). A statement '..UptoSaid' is the law's where the arguments, and the package variables that the reading takes, are together of bulk at most 1048576: NARROWER than '..Said'. Prove '..Said' where nothing that the law and all that it calls make is longer than what came in: it says more and counts as full. Else prove '..UptoSaid'. A law counts once. -/
mutual
def uptoBulk {H : Type} : DataW H → Nat
  | .lit (.string bytes) => bytes.length + 1
  | .lit _ => 1
  | .nil => 1
  | .ptr d => uptoBulk d + 1
  | .slice elems spare => uptoBulkAll elems + uptoBulkAll spare + 1
  | .agg parts => uptoBulkAll parts + 1
  | .iface _ d => uptoBulk d + 1
  | .map entries => uptoBulkEntries entries + 1
  | .held _ => 1
def uptoBulkAll {H : Type} : List (DataW H) → Nat
  | [] => 0
  | d :: r => uptoBulk d + uptoBulkAll r
def uptoBulkEntries {H : Type} : List (Lit × DataW H) → Nat
  | [] => 0
  | x :: r => uptoBulkEntry x + uptoBulkEntries r
def uptoBulkEntry {H : Type} : Lit × DataW H → Nat
  | (.string bytes, d) => bytes.length + uptoBulk d + 1
  | (_, d) => uptoBulk d + 1
 end
def uptoSmall : (H : Type) → List (DataW H) → Bool := fun _ ds => decide (uptoBulkAll ds ≤ 1048576)
def OpenSpec.upto (s : _root_.Go.ChangeSpec) : _root_.Go.OpenSpec := { _root_.Go.OpenSpec.ofChange s with cond := some uptoSmall }

/-- 'insolvencylaw14.SetoffCheck', WHERE WHAT IT READS IS OF BULK AT MOST 1048576: true; the input reads as it did. -/
def setoffCheckUptoRow : OpenClaim := { program := "ytdafaibhiobpaaadoor", sum := "4d58b6a9f9d9d090c2e367962eb7631f7dac5c8d2ffb0b02444187613660fc41", func := "insolvency/insolvencylaw14.SetoffCheck", spec := "setoffCheck", inPlace := ["internal/bytealg.IndexByteString", "internal/bytealg.IndexString", "internal/bytealg.abigen_runtime_cmpstring"], unfollowed := true, recurses := true, named := ["unicode/utf8.first", "unicode/utf8.acceptRanges", "internal/bytealg.MaxLen"], apart := false, laid := [("unicode/utf8.acceptRanges", laid_unicode_utf8_acceptRanges), ("unicode/utf8.first", laid_unicode_utf8_first)], narrowed := true }
def SetoffCheckUptoSaid : Prop := setoffCheckUptoRow.holds Tryd.pinned (OpenSpec.upto setoffCheckSpec)

/-- 'insolvencylaw14.SetoffMany', WHERE WHAT IT READS IS OF BULK AT MOST 1048576: true; the input reads as it did. -/
def setoffManyUptoRow : OpenClaim := { program := "ytdafaibhiobpaaadoor", sum := "4d58b6a9f9d9d090c2e367962eb7631f7dac5c8d2ffb0b02444187613660fc41", func := "insolvency/insolvencylaw14.SetoffMany", spec := "setoffMany", inPlace := ["internal/bytealg.IndexByteString", "internal/bytealg.IndexString", "internal/bytealg.abigen_runtime_cmpstring"], unfollowed := true, recurses := true, named := ["unicode/utf8.first", "unicode/utf8.acceptRanges", "internal/bytealg.MaxLen"], apart := false, laid := [("unicode/utf8.acceptRanges", laid_unicode_utf8_acceptRanges), ("unicode/utf8.first", laid_unicode_utf8_first)], narrowed := true }
def SetoffManyUptoSaid : Prop := setoffManyUptoRow.holds Tryd.pinned (OpenSpec.upto setoffManySpec)

/-- 'insolvencylaw14.SetoffBalance', WHERE WHAT IT READS IS OF BULK AT MOST 1048576: true; the input reads as it did. -/
def setoffBalanceUptoRow : OpenClaim := { program := "ytdafaibhiobpaaadoor", sum := "4d58b6a9f9d9d090c2e367962eb7631f7dac5c8d2ffb0b02444187613660fc41", func := "insolvency/insolvencylaw14.SetoffBalance", spec := "setoffBalance", inPlace := ["internal/bytealg.IndexByteString", "internal/bytealg.IndexString", "internal/bytealg.abigen_runtime_cmpstring"], unfollowed := true, recurses := true, named := ["unicode/utf8.first", "unicode/utf8.acceptRanges", "internal/bytealg.MaxLen"], apart := false, laid := [("unicode/utf8.acceptRanges", laid_unicode_utf8_acceptRanges), ("unicode/utf8.first", laid_unicode_utf8_first)], narrowed := true }
def SetoffBalanceUptoSaid : Prop := setoffBalanceUptoRow.holds Tryd.pinned (OpenSpec.upto setoffBalanceSpec)

/-- 'insolvencylaw14.SetoffTwice', WHERE WHAT IT READS IS OF BULK AT MOST 1048576: true; the input reads as it did. -/
def setoffTwiceUptoRow : OpenClaim := { program := "ytdafaibhiobpaaadoor", sum := "4d58b6a9f9d9d090c2e367962eb7631f7dac5c8d2ffb0b02444187613660fc41", func := "insolvency/insolvencylaw14.SetoffTwice", spec := "setoffTwice", inPlace := ["internal/bytealg.IndexByteString", "internal/bytealg.IndexString", "internal/bytealg.abigen_runtime_cmpstring"], unfollowed := true, recurses := true, named := ["unicode/utf8.first", "unicode/utf8.acceptRanges", "internal/bytealg.MaxLen"], apart := false, laid := [("unicode/utf8.acceptRanges", laid_unicode_utf8_acceptRanges), ("unicode/utf8.first", laid_unicode_utf8_first)], narrowed := true }
def SetoffTwiceUptoSaid : Prop := setoffTwiceUptoRow.holds Tryd.pinned (OpenSpec.upto setoffTwiceSpec)

/-- 'insolvencylaw14.SetoffOldest', WHERE WHAT IT READS IS OF BULK AT MOST 1048576: true; the input reads as it did. -/
def setoffOldestUptoRow : OpenClaim := { program := "ytdafaibhiobpaaadoor", sum := "4d58b6a9f9d9d090c2e367962eb7631f7dac5c8d2ffb0b02444187613660fc41", func := "insolvency/insolvencylaw14.SetoffOldest", spec := "setoffOldest", inPlace := ["internal/bytealg.IndexByteString", "internal/bytealg.IndexString", "internal/bytealg.abigen_runtime_cmpstring"], unfollowed := true, recurses := true, named := ["unicode/utf8.first", "unicode/utf8.acceptRanges", "internal/bytealg.MaxLen"], apart := false, laid := [("unicode/utf8.acceptRanges", laid_unicode_utf8_acceptRanges), ("unicode/utf8.first", laid_unicode_utf8_first)], narrowed := true }
def SetoffOldestUptoSaid : Prop := setoffOldestUptoRow.holds Tryd.pinned (OpenSpec.upto setoffOldestSpec)

/-- 'insolvencylaw14.SetoffWindow', WHERE WHAT IT READS IS OF BULK AT MOST 1048576: true; the input reads as it did. -/
def setoffWindowUptoRow : OpenClaim := { program := "ytdafaibhiobpaaadoor", sum := "4d58b6a9f9d9d090c2e367962eb7631f7dac5c8d2ffb0b02444187613660fc41", func := "insolvency/insolvencylaw14.SetoffWindow", spec := "setoffWindow", inPlace := ["internal/bytealg.IndexByteString", "internal/bytealg.IndexString", "internal/bytealg.abigen_runtime_cmpstring"], unfollowed := true, recurses := true, named := ["unicode/utf8.first", "unicode/utf8.acceptRanges", "internal/bytealg.MaxLen"], apart := false, laid := [("unicode/utf8.acceptRanges", laid_unicode_utf8_acceptRanges), ("unicode/utf8.first", laid_unicode_utf8_first)], narrowed := true }
def SetoffWindowUptoSaid : Prop := setoffWindowUptoRow.holds Tryd.pinned (OpenSpec.upto setoffWindowSpec)

/-- 'insolvencylaw14.SetoffOneSided', WHERE WHAT IT READS IS OF BULK AT MOST 1048576: true; the input reads as it did. -/
def setoffOneSidedUptoRow : OpenClaim := { program := "ytdafaibhiobpaaadoor", sum := "4d58b6a9f9d9d090c2e367962eb7631f7dac5c8d2ffb0b02444187613660fc41", func := "insolvency/insolvencylaw14.SetoffOneSided", spec := "setoffOneSided", inPlace := ["internal/bytealg.IndexByteString", "internal/bytealg.IndexString", "internal/bytealg.abigen_runtime_cmpstring"], unfollowed := true, recurses := true, named := ["unicode/utf8.first", "unicode/utf8.acceptRanges", "internal/bytealg.MaxLen"], apart := false, laid := [("unicode/utf8.acceptRanges", laid_unicode_utf8_acceptRanges), ("unicode/utf8.first", laid_unicode_utf8_first)], narrowed := true }
def SetoffOneSidedUptoSaid : Prop := setoffOneSidedUptoRow.holds Tryd.pinned (OpenSpec.upto setoffOneSidedSpec)

/-- 'insolvencylaw15.CollateralMany', WHERE WHAT IT READS IS OF BULK AT MOST 1048576: true; the input reads as it did. -/
def collateralManyUptoRow : OpenClaim := { program := "ytdafaibhiobpaaadoor", sum := "4d58b6a9f9d9d090c2e367962eb7631f7dac5c8d2ffb0b02444187613660fc41", func := "insolvency/insolvencylaw15.CollateralMany", spec := "collateralMany", inPlace := ["internal/bytealg.IndexByteString", "internal/bytealg.IndexString", "internal/bytealg.abigen_runtime_cmpstring"], unfollowed := true, recurses := true, named := ["unicode/utf8.first", "unicode/utf8.acceptRanges", "internal/bytealg.MaxLen"], apart := false, laid := [("unicode/utf8.acceptRanges", laid_unicode_utf8_acceptRanges), ("unicode/utf8.first", laid_unicode_utf8_first)], narrowed := true }
def CollateralManyUptoSaid : Prop := collateralManyUptoRow.holds Tryd.pinned (OpenSpec.upto collateralManySpec)

end Rows
end Go.Proofs.YtdafaibhiobpaaaDoor
