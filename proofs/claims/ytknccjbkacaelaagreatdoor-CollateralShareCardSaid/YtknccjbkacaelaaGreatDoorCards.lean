/-
  DERIVED. GIVEN WITH THE SEED: THE CARDS: each row of YtknccjbkacaelaaGreatDoorRows.lean that lists a variable, with what it lists TIED to the program's text (the seventh form; the later family's looks); each row that meets fmt, with fmt's text TOLD by the authors' own Lean function (tested against real Go, not proved from fmt's source: count such statements apart). THE CARD IS WHAT COUNTS. Prove the row's statement (the work); the ties are given (YtknccjbkacaelaaGreatDoorTie.lean); close each card by the builder's one call (the guide's Derived/Test/ToyasCard.lean, 'card_holds'). Laid BY PROGRAM, IN A SANDBOX (cutbox-door.mjs). By AI agents, Wed Nov 11 2026. No macro, syntax, notation, axiom, sorry.
-/
import Derived.Test.YtknccjbkacaelaaGreatDoorRows
import GoSem.ClaimSeven
namespace Go.Proofs.YtknccjbkacaelaaGreatDoor
namespace Rows

/-- THE TIED CARD OF 'insolvencylaw15.CollateralPriority'. -/
def collateralPriorityCard : Claim7 := { stood := { row := collateralPriorityRow, standIns := [], harness := (true, "857de81476e5d6cb185f80dec6e3ebf382fb242f6bb866bc3d51bda6073c6e53"), looks := false }, kinds := [], alts := [], laidByText := true, laidKinds := [.data, .pinned], laidTests := true, laidLooks := .later }
def CollateralPriorityCardSaid : Prop := Claim7.holds Tryz.pinned (.plain (OpenSpec.ofChange collateralPrioritySpec)) collateralPriorityCard

/-- THE TIED CARD OF 'insolvencylaw15.CollateralRaw'. -/
def collateralRawCard : Claim7 := { stood := { row := collateralRawRow, standIns := [], harness := (true, "857de81476e5d6cb185f80dec6e3ebf382fb242f6bb866bc3d51bda6073c6e53"), looks := false }, kinds := [], alts := [], laidByText := true, laidKinds := [.data, .pinned], laidTests := true, laidLooks := .later }
def CollateralRawCardSaid : Prop := Claim7.holds Tryz.pinned (.plain (OpenSpec.ofChange collateralRawSpec)) collateralRawCard

/-- THE TIED CARD OF 'insolvencylaw15.CollateralShare'. -/
def collateralShareCard : Claim7 := { stood := { row := collateralShareRow, standIns := [], harness := (true, "857de81476e5d6cb185f80dec6e3ebf382fb242f6bb866bc3d51bda6073c6e53"), looks := false }, kinds := [], alts := [], laidByText := true, laidKinds := [.data, .pinned], laidTests := true, laidLooks := .later }
def CollateralShareCardSaid : Prop := Claim7.holds Tryz.pinned (.plain (OpenSpec.ofChange collateralShareSpec)) collateralShareCard

/-- THE TIED CARD OF 'insolvencylaw15.CollateralTotal'. -/
def collateralTotalCard : Claim7 := { stood := { row := collateralTotalRow, standIns := [], harness := (true, "857de81476e5d6cb185f80dec6e3ebf382fb242f6bb866bc3d51bda6073c6e53"), looks := false }, kinds := [], alts := [], laidByText := true, laidKinds := [.data, .pinned], laidTests := true, laidLooks := .later }
def CollateralTotalCardSaid : Prop := Claim7.holds Tryz.pinned (.plain (OpenSpec.ofChange collateralTotalSpec)) collateralTotalCard

/-- THE SECOND FORM's CARD OF 'insolvencylaw15.CollateralPriority'. -/
def collateralPriorityUptoCard : Claim7 := { stood := { row := collateralPriorityUptoRow, standIns := [], harness := (true, "857de81476e5d6cb185f80dec6e3ebf382fb242f6bb866bc3d51bda6073c6e53"), looks := false }, kinds := [], alts := [], laidByText := true, laidKinds := [.data, .pinned], laidTests := true, laidLooks := .later }
def CollateralPriorityUptoCardSaid : Prop := Claim7.holds Tryz.pinned (.plain (OpenSpec.upto collateralPrioritySpec)) collateralPriorityUptoCard

/-- THE SECOND FORM's CARD OF 'insolvencylaw15.CollateralRaw'. -/
def collateralRawUptoCard : Claim7 := { stood := { row := collateralRawUptoRow, standIns := [], harness := (true, "857de81476e5d6cb185f80dec6e3ebf382fb242f6bb866bc3d51bda6073c6e53"), looks := false }, kinds := [], alts := [], laidByText := true, laidKinds := [.data, .pinned], laidTests := true, laidLooks := .later }
def CollateralRawUptoCardSaid : Prop := Claim7.holds Tryz.pinned (.plain (OpenSpec.upto collateralRawSpec)) collateralRawUptoCard

/-- THE SECOND FORM's CARD OF 'insolvencylaw15.CollateralShare'. -/
def collateralShareUptoCard : Claim7 := { stood := { row := collateralShareUptoRow, standIns := [], harness := (true, "857de81476e5d6cb185f80dec6e3ebf382fb242f6bb866bc3d51bda6073c6e53"), looks := false }, kinds := [], alts := [], laidByText := true, laidKinds := [.data, .pinned], laidTests := true, laidLooks := .later }
def CollateralShareUptoCardSaid : Prop := Claim7.holds Tryz.pinned (.plain (OpenSpec.upto collateralShareSpec)) collateralShareUptoCard

/-- THE SECOND FORM's CARD OF 'insolvencylaw15.CollateralTotal'. -/
def collateralTotalUptoCard : Claim7 := { stood := { row := collateralTotalUptoRow, standIns := [], harness := (true, "857de81476e5d6cb185f80dec6e3ebf382fb242f6bb866bc3d51bda6073c6e53"), looks := false }, kinds := [], alts := [], laidByText := true, laidKinds := [.data, .pinned], laidTests := true, laidLooks := .later }
def CollateralTotalUptoCardSaid : Prop := Claim7.holds Tryz.pinned (.plain (OpenSpec.upto collateralTotalSpec)) collateralTotalUptoCard
end Rows
end Go.Proofs.YtknccjbkacaelaaGreatDoor
