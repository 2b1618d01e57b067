/-
  DERIVED. GIVEN WITH THE SEED: THE CARDS: each row of YtdafaibhiobpaabDoorRows.lean that lists a variable, with what it lists TIED to the program's text (the seventh form; the later family's looks); each row that meets fmt, with fmt's text TOLD by the authors' own Lean function (tested against real Go, not proved from fmt's source: count such statements apart). THE CARD IS WHAT COUNTS. Prove the row's statement (the work); the ties are given (YtdafaibhiobpaabDoorTie.lean); close each card by the builder's one call (the guide's Derived/Test/ToyasCard.lean, 'card_holds'). Laid BY PROGRAM, IN A SANDBOX (cutbox-door.mjs). By AI agents, Wed Nov 11 2026. No macro, syntax, notation, axiom, sorry.
-/
import Derived.Test.YtdafaibhiobpaabDoorRows
import GoSem.ClaimSeven
namespace Go.Proofs.YtdafaibhiobpaabDoor
namespace Rows

/-- THE TIED CARD OF 'insolvencylaw15.CollateralMore'. -/
def collateralMoreCard : Claim7 := { stood := { row := collateralMoreRow, standIns := [], harness := (true, "3d1d096a69ada5ba7794aebed622ad0499ef0b53ce88b4830ea02e8842ad2188"), looks := false }, kinds := [], alts := [], laidByText := true, laidKinds := [.data, .pinned], laidTests := true, laidLooks := .later }
def CollateralMoreCardSaid : Prop := Claim7.holds Tryd.pinned (.plain (OpenSpec.ofChange collateralMoreSpec)) collateralMoreCard

/-- THE SECOND FORM's CARD OF 'insolvencylaw15.CollateralMore'. -/
def collateralMoreUptoCard : Claim7 := { stood := { row := collateralMoreUptoRow, standIns := [], harness := (true, "3d1d096a69ada5ba7794aebed622ad0499ef0b53ce88b4830ea02e8842ad2188"), looks := false }, kinds := [], alts := [], laidByText := true, laidKinds := [.data, .pinned], laidTests := true, laidLooks := .later }
def CollateralMoreUptoCardSaid : Prop := Claim7.holds Tryd.pinned (.plain (OpenSpec.upto collateralMoreSpec)) collateralMoreUptoCard
end Rows
end Go.Proofs.YtdafaibhiobpaabDoor
