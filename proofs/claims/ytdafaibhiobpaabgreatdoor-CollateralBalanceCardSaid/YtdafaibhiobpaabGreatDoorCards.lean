/-
  DERIVED. GIVEN WITH THE SEED: THE CARDS: each row of YtdafaibhiobpaabGreatDoorRows.lean that lists a variable, with what it lists TIED to the program's text (the seventh form; the later family's looks); each row that meets fmt, with fmt's text TOLD by the authors' own Lean function (tested against real Go, not proved from fmt's source: count such statements apart). THE CARD IS WHAT COUNTS. Prove the row's statement (the work); the ties are given (YtdafaibhiobpaabGreatDoorTie.lean); close each card by the builder's one call (the guide's Derived/Test/ToyasCard.lean, 'card_holds'). Laid BY PROGRAM, IN A SANDBOX (cutbox-door.mjs). By AI agents, Wed Nov 11 2026. No macro, syntax, notation, axiom, sorry.
-/
import Derived.Test.YtdafaibhiobpaabGreatDoorRows
import GoSem.ClaimSeven
namespace Go.Proofs.YtdafaibhiobpaabGreatDoor
namespace Rows

/-- THE TIED CARD OF 'insolvencylaw15.CollateralBalance'. -/
def collateralBalanceCard : Claim7 := { stood := { row := collateralBalanceRow, standIns := [], harness := (true, "796ad5639ce330ee420b21343b0a9bafbf7b9243316a8153e236f6d7ab85a04c"), looks := false }, kinds := [], alts := [], laidByText := true, laidKinds := [.data, .pinned], laidTests := true, laidLooks := .later }
def CollateralBalanceCardSaid : Prop := Claim7.holds Tryz.pinned (.plain (OpenSpec.ofChange collateralBalanceSpec)) collateralBalanceCard

/-- THE TIED CARD OF 'insolvencylaw15.CollateralRaw'. -/
def collateralRawCard : Claim7 := { stood := { row := collateralRawRow, standIns := [], harness := (true, "796ad5639ce330ee420b21343b0a9bafbf7b9243316a8153e236f6d7ab85a04c"), looks := false }, kinds := [], alts := [], laidByText := true, laidKinds := [.data, .pinned], laidTests := true, laidLooks := .later }
def CollateralRawCardSaid : Prop := Claim7.holds Tryz.pinned (.plain (OpenSpec.ofChange collateralRawSpec)) collateralRawCard

/-- THE TIED CARD OF 'insolvencylaw15.CollateralShare'. -/
def collateralShareCard : Claim7 := { stood := { row := collateralShareRow, standIns := [], harness := (true, "796ad5639ce330ee420b21343b0a9bafbf7b9243316a8153e236f6d7ab85a04c"), looks := false }, kinds := [], alts := [], laidByText := true, laidKinds := [.data, .pinned], laidTests := true, laidLooks := .later }
def CollateralShareCardSaid : Prop := Claim7.holds Tryz.pinned (.plain (OpenSpec.ofChange collateralShareSpec)) collateralShareCard

/-- THE TIED CARD OF 'insolvencylaw15.CollateralTotal'. -/
def collateralTotalCard : Claim7 := { stood := { row := collateralTotalRow, standIns := [], harness := (true, "796ad5639ce330ee420b21343b0a9bafbf7b9243316a8153e236f6d7ab85a04c"), looks := false }, kinds := [], alts := [], laidByText := true, laidKinds := [.data, .pinned], laidTests := true, laidLooks := .later }
def CollateralTotalCardSaid : Prop := Claim7.holds Tryz.pinned (.plain (OpenSpec.ofChange collateralTotalSpec)) collateralTotalCard

/-- THE SECOND FORM's CARD OF 'insolvencylaw15.CollateralBalance'. -/
def collateralBalanceUptoCard : Claim7 := { stood := { row := collateralBalanceUptoRow, standIns := [], harness := (true, "796ad5639ce330ee420b21343b0a9bafbf7b9243316a8153e236f6d7ab85a04c"), looks := false }, kinds := [], alts := [], laidByText := true, laidKinds := [.data, .pinned], laidTests := true, laidLooks := .later }
def CollateralBalanceUptoCardSaid : Prop := Claim7.holds Tryz.pinned (.plain (OpenSpec.upto collateralBalanceSpec)) collateralBalanceUptoCard

/-- THE SECOND FORM's CARD OF 'insolvencylaw15.CollateralRaw'. -/
def collateralRawUptoCard : Claim7 := { stood := { row := collateralRawUptoRow, standIns := [], harness := (true, "796ad5639ce330ee420b21343b0a9bafbf7b9243316a8153e236f6d7ab85a04c"), looks := false }, kinds := [], alts := [], laidByText := true, laidKinds := [.data, .pinned], laidTests := true, laidLooks := .later }
def CollateralRawUptoCardSaid : Prop := Claim7.holds Tryz.pinned (.plain (OpenSpec.upto collateralRawSpec)) collateralRawUptoCard

/-- THE SECOND FORM's CARD OF 'insolvencylaw15.CollateralShare'. -/
def collateralShareUptoCard : Claim7 := { stood := { row := collateralShareUptoRow, standIns := [], harness := (true, "796ad5639ce330ee420b21343b0a9bafbf7b9243316a8153e236f6d7ab85a04c"), looks := false }, kinds := [], alts := [], laidByText := true, laidKinds := [.data, .pinned], laidTests := true, laidLooks := .later }
def CollateralShareUptoCardSaid : Prop := Claim7.holds Tryz.pinned (.plain (OpenSpec.upto collateralShareSpec)) collateralShareUptoCard

/-- THE SECOND FORM's CARD OF 'insolvencylaw15.CollateralTotal'. -/
def collateralTotalUptoCard : Claim7 := { stood := { row := collateralTotalUptoRow, standIns := [], harness := (true, "796ad5639ce330ee420b21343b0a9bafbf7b9243316a8153e236f6d7ab85a04c"), looks := false }, kinds := [], alts := [], laidByText := true, laidKinds := [.data, .pinned], laidTests := true, laidLooks := .later }
def CollateralTotalUptoCardSaid : Prop := Claim7.holds Tryz.pinned (.plain (OpenSpec.upto collateralTotalSpec)) collateralTotalUptoCard
end Rows
end Go.Proofs.YtdafaibhiobpaabGreatDoor
