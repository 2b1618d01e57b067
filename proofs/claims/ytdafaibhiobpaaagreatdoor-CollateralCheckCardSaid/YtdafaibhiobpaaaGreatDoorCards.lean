/-
  DERIVED. GIVEN WITH THE SEED: THE CARDS: each row of YtdafaibhiobpaaaGreatDoorRows.lean that lists a variable, with what it lists TIED to the program's text (the seventh form; the later family's looks); each row that meets fmt, with fmt's text TOLD by the authors' own Lean function (tested against real Go, not proved from fmt's source: count such statements apart). THE CARD IS WHAT COUNTS. Prove the row's statement (the work); the ties are given (YtdafaibhiobpaaaGreatDoorTie.lean); close each card by the builder's one call (the guide's Derived/Test/ToyasCard.lean, 'card_holds'). Laid BY PROGRAM, IN A SANDBOX (cutbox-door.mjs). By AI agents, Wed Nov 11 2026. No macro, syntax, notation, axiom, sorry.
-/
import Derived.Test.YtdafaibhiobpaaaGreatDoorRows
import GoSem.ClaimSeven
namespace Go.Proofs.YtdafaibhiobpaaaGreatDoor
namespace Rows

/-- THE TIED CARD OF 'insolvencylaw14.SetoffApply'. -/
def setoffApplyCard : Claim7 := { stood := { row := setoffApplyRow, standIns := [], harness := (true, "8f7310ad7fee27e7013fa111fc35f9672510ef4ab576694f54e9cede9c50d1fe"), looks := false }, kinds := [], alts := [], laidByText := true, laidKinds := [.data, .pinned], laidTests := true, laidLooks := .later }
def SetoffApplyCardSaid : Prop := Claim7.holds Tryz.pinned (.plain (OpenSpec.ofChange setoffApplySpec)) setoffApplyCard

/-- THE TIED CARD OF 'insolvencylaw14.SetoffRaw'. -/
def setoffRawCard : Claim7 := { stood := { row := setoffRawRow, standIns := [], harness := (true, "8f7310ad7fee27e7013fa111fc35f9672510ef4ab576694f54e9cede9c50d1fe"), looks := false }, kinds := [], alts := [], laidByText := true, laidKinds := [.data, .pinned], laidTests := true, laidLooks := .later }
def SetoffRawCardSaid : Prop := Claim7.holds Tryz.pinned (.plain (OpenSpec.ofChange setoffRawSpec)) setoffRawCard

/-- THE TIED CARD OF 'insolvencylaw15.CollateralCheck'. -/
def collateralCheckCard : Claim7 := { stood := { row := collateralCheckRow, standIns := [], harness := (true, "8f7310ad7fee27e7013fa111fc35f9672510ef4ab576694f54e9cede9c50d1fe"), looks := false }, kinds := [], alts := [], laidByText := true, laidKinds := [.data, .pinned], laidTests := true, laidLooks := .later }
def CollateralCheckCardSaid : Prop := Claim7.holds Tryz.pinned (.plain (OpenSpec.ofChange collateralCheckSpec)) collateralCheckCard

/-- THE TIED CARD OF 'insolvencylaw15.CollateralPriority'. -/
def collateralPriorityCard : Claim7 := { stood := { row := collateralPriorityRow, standIns := [], harness := (true, "8f7310ad7fee27e7013fa111fc35f9672510ef4ab576694f54e9cede9c50d1fe"), looks := false }, kinds := [], alts := [], laidByText := true, laidKinds := [.data, .pinned], laidTests := true, laidLooks := .later }
def CollateralPriorityCardSaid : Prop := Claim7.holds Tryz.pinned (.plain (OpenSpec.ofChange collateralPrioritySpec)) collateralPriorityCard

/-- THE SECOND FORM's CARD OF 'insolvencylaw14.SetoffApply'. -/
def setoffApplyUptoCard : Claim7 := { stood := { row := setoffApplyUptoRow, standIns := [], harness := (true, "8f7310ad7fee27e7013fa111fc35f9672510ef4ab576694f54e9cede9c50d1fe"), looks := false }, kinds := [], alts := [], laidByText := true, laidKinds := [.data, .pinned], laidTests := true, laidLooks := .later }
def SetoffApplyUptoCardSaid : Prop := Claim7.holds Tryz.pinned (.plain (OpenSpec.upto setoffApplySpec)) setoffApplyUptoCard

/-- THE SECOND FORM's CARD OF 'insolvencylaw14.SetoffRaw'. -/
def setoffRawUptoCard : Claim7 := { stood := { row := setoffRawUptoRow, standIns := [], harness := (true, "8f7310ad7fee27e7013fa111fc35f9672510ef4ab576694f54e9cede9c50d1fe"), looks := false }, kinds := [], alts := [], laidByText := true, laidKinds := [.data, .pinned], laidTests := true, laidLooks := .later }
def SetoffRawUptoCardSaid : Prop := Claim7.holds Tryz.pinned (.plain (OpenSpec.upto setoffRawSpec)) setoffRawUptoCard

/-- THE SECOND FORM's CARD OF 'insolvencylaw15.CollateralCheck'. -/
def collateralCheckUptoCard : Claim7 := { stood := { row := collateralCheckUptoRow, standIns := [], harness := (true, "8f7310ad7fee27e7013fa111fc35f9672510ef4ab576694f54e9cede9c50d1fe"), looks := false }, kinds := [], alts := [], laidByText := true, laidKinds := [.data, .pinned], laidTests := true, laidLooks := .later }
def CollateralCheckUptoCardSaid : Prop := Claim7.holds Tryz.pinned (.plain (OpenSpec.upto collateralCheckSpec)) collateralCheckUptoCard

/-- THE SECOND FORM's CARD OF 'insolvencylaw15.CollateralPriority'. -/
def collateralPriorityUptoCard : Claim7 := { stood := { row := collateralPriorityUptoRow, standIns := [], harness := (true, "8f7310ad7fee27e7013fa111fc35f9672510ef4ab576694f54e9cede9c50d1fe"), looks := false }, kinds := [], alts := [], laidByText := true, laidKinds := [.data, .pinned], laidTests := true, laidLooks := .later }
def CollateralPriorityUptoCardSaid : Prop := Claim7.holds Tryz.pinned (.plain (OpenSpec.upto collateralPrioritySpec)) collateralPriorityUptoCard
end Rows
end Go.Proofs.YtdafaibhiobpaaaGreatDoor
