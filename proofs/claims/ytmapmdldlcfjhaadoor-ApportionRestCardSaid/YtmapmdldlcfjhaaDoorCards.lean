/-
  DERIVED. GIVEN WITH THE SEED: THE CARDS: each row of YtmapmdldlcfjhaaDoorRows.lean that lists a variable, with what it lists TIED to the program's text (the seventh form; the later family's looks); each row that meets fmt, with fmt's text TOLD by the authors' own Lean function (tested against real Go, not proved from fmt's source: count such statements apart). THE CARD IS WHAT COUNTS. Prove the row's statement (the work); the ties are given (YtmapmdldlcfjhaaDoorTie.lean); close each card by the builder's one call (the guide's Derived/Test/ToyasCard.lean, 'card_holds'). Laid BY PROGRAM, IN A SANDBOX (cutbox-door.mjs). By AI agents, Wed Nov 11 2026. No macro, syntax, notation, axiom, sorry.
-/
import Derived.Test.YtmapmdldlcfjhaaDoorRows
import GoSem.ClaimSeven
namespace Go.Proofs.YtmapmdldlcfjhaaDoor
namespace Rows

/-- THE TIED CARD OF 'insolvencylaw4.ApportionExact'. -/
def apportionExactCard : Claim7 := { stood := { row := apportionExactRow, standIns := [], harness := (true, "502af70e5e339f057bc221967b558b1eedf2d95424f7778726b6ba52cbe7fdcf"), looks := false }, kinds := [], alts := [], laidByText := true, laidKinds := [.data, .pinned], laidTests := true, laidLooks := .later }
def ApportionExactCardSaid : Prop := Claim7.holds Tryd.pinned (.plain (OpenSpec.ofChange apportionExactSpec)) apportionExactCard

/-- THE TIED CARD OF 'insolvencylaw4.ApportionOrder'. -/
def apportionOrderCard : Claim7 := { stood := { row := apportionOrderRow, standIns := [], harness := (true, "502af70e5e339f057bc221967b558b1eedf2d95424f7778726b6ba52cbe7fdcf"), looks := false }, kinds := [], alts := [], laidByText := true, laidKinds := [.data, .pinned], laidTests := true, laidLooks := .later }
def ApportionOrderCardSaid : Prop := Claim7.holds Tryd.pinned (.plain (OpenSpec.ofChange apportionOrderSpec)) apportionOrderCard

/-- THE TIED CARD OF 'insolvencylaw4.ApportionScale'. -/
def apportionScaleCard : Claim7 := { stood := { row := apportionScaleRow, standIns := [], harness := (true, "502af70e5e339f057bc221967b558b1eedf2d95424f7778726b6ba52cbe7fdcf"), looks := false }, kinds := [], alts := [], laidByText := true, laidKinds := [.data, .pinned], laidTests := true, laidLooks := .later }
def ApportionScaleCardSaid : Prop := Claim7.holds Tryd.pinned (.plain (OpenSpec.ofChange apportionScaleSpec)) apportionScaleCard

/-- THE TIED CARD OF 'insolvencylaw4.ApportionRest'. -/
def apportionRestCard : Claim7 := { stood := { row := apportionRestRow, standIns := [], harness := (true, "502af70e5e339f057bc221967b558b1eedf2d95424f7778726b6ba52cbe7fdcf"), looks := false }, kinds := [], alts := [], laidByText := true, laidKinds := [.data, .pinned], laidTests := true, laidLooks := .later }
def ApportionRestCardSaid : Prop := Claim7.holds Tryd.pinned (.plain (OpenSpec.ofChange apportionRestSpec)) apportionRestCard

/-- THE SECOND FORM's CARD OF 'insolvencylaw4.ApportionExact'. -/
def apportionExactUptoCard : Claim7 := { stood := { row := apportionExactUptoRow, standIns := [], harness := (true, "502af70e5e339f057bc221967b558b1eedf2d95424f7778726b6ba52cbe7fdcf"), looks := false }, kinds := [], alts := [], laidByText := true, laidKinds := [.data, .pinned], laidTests := true, laidLooks := .later }
def ApportionExactUptoCardSaid : Prop := Claim7.holds Tryd.pinned (.plain (OpenSpec.upto apportionExactSpec)) apportionExactUptoCard

/-- THE SECOND FORM's CARD OF 'insolvencylaw4.ApportionOrder'. -/
def apportionOrderUptoCard : Claim7 := { stood := { row := apportionOrderUptoRow, standIns := [], harness := (true, "502af70e5e339f057bc221967b558b1eedf2d95424f7778726b6ba52cbe7fdcf"), looks := false }, kinds := [], alts := [], laidByText := true, laidKinds := [.data, .pinned], laidTests := true, laidLooks := .later }
def ApportionOrderUptoCardSaid : Prop := Claim7.holds Tryd.pinned (.plain (OpenSpec.upto apportionOrderSpec)) apportionOrderUptoCard

/-- THE SECOND FORM's CARD OF 'insolvencylaw4.ApportionScale'. -/
def apportionScaleUptoCard : Claim7 := { stood := { row := apportionScaleUptoRow, standIns := [], harness := (true, "502af70e5e339f057bc221967b558b1eedf2d95424f7778726b6ba52cbe7fdcf"), looks := false }, kinds := [], alts := [], laidByText := true, laidKinds := [.data, .pinned], laidTests := true, laidLooks := .later }
def ApportionScaleUptoCardSaid : Prop := Claim7.holds Tryd.pinned (.plain (OpenSpec.upto apportionScaleSpec)) apportionScaleUptoCard

/-- THE SECOND FORM's CARD OF 'insolvencylaw4.ApportionRest'. -/
def apportionRestUptoCard : Claim7 := { stood := { row := apportionRestUptoRow, standIns := [], harness := (true, "502af70e5e339f057bc221967b558b1eedf2d95424f7778726b6ba52cbe7fdcf"), looks := false }, kinds := [], alts := [], laidByText := true, laidKinds := [.data, .pinned], laidTests := true, laidLooks := .later }
def ApportionRestUptoCardSaid : Prop := Claim7.holds Tryd.pinned (.plain (OpenSpec.upto apportionRestSpec)) apportionRestUptoCard
end Rows
end Go.Proofs.YtmapmdldlcfjhaaDoor
