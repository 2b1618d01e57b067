/-
  DERIVED. GIVEN WITH THE SEED: THE CARDS: each row of YtblfipdfklpmmabDoorRows.lean that lists a variable, with what it lists TIED to the program's text (the seventh form; the later family's looks); each row that meets fmt, with fmt's text TOLD by the authors' own Lean function (tested against real Go, not proved from fmt's source: count such statements apart). THE CARD IS WHAT COUNTS. Prove the row's statement (the work); the ties are given (YtblfipdfklpmmabDoorTie.lean); close each card by the builder's one call (the guide's Derived/Test/ToyasCard.lean, 'card_holds'). Laid BY PROGRAM, IN A SANDBOX (cutbox-door.mjs). By AI agents, Wed Nov 11 2026. No macro, syntax, notation, axiom, sorry.
-/
import Derived.Test.YtblfipdfklpmmabDoorRows
import GoSem.ClaimSeven
namespace Go.Proofs.YtblfipdfklpmmabDoor
namespace Rows

/-- THE TIED CARD OF 'insolvencylaw4.ApportionMany'. -/
def apportionManyCard : Claim7 := { stood := { row := apportionManyRow, standIns := [], harness := (true, "bd731ad99ca823a59d58ec6ad70d1d5ffb6b3ed42380ac1a5adc1e6466b8a1b0"), looks := false }, kinds := [], alts := [], laidByText := true, laidKinds := [.data, .pinned], laidTests := true, laidLooks := .later }
def ApportionManyCardSaid : Prop := Claim7.holds Tryd.pinned (.plain (OpenSpec.ofChange apportionManySpec)) apportionManyCard

/-- THE SECOND FORM's CARD OF 'insolvencylaw4.ApportionMany'. -/
def apportionManyUptoCard : Claim7 := { stood := { row := apportionManyUptoRow, standIns := [], harness := (true, "bd731ad99ca823a59d58ec6ad70d1d5ffb6b3ed42380ac1a5adc1e6466b8a1b0"), looks := false }, kinds := [], alts := [], laidByText := true, laidKinds := [.data, .pinned], laidTests := true, laidLooks := .later }
def ApportionManyUptoCardSaid : Prop := Claim7.holds Tryd.pinned (.plain (OpenSpec.upto apportionManySpec)) apportionManyUptoCard
end Rows
end Go.Proofs.YtblfipdfklpmmabDoor
