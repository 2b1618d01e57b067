/-
  DERIVED. GIVEN WITH THE SEED: THE CARDS: each row of YtfocimgpahjkmaaGreatDoorRows.lean that lists a variable, with what it lists TIED to the program's text (the seventh form; the later family's looks); each row that meets fmt, with fmt's text TOLD by the authors' own Lean function (tested against real Go, not proved from fmt's source: count such statements apart). THE CARD IS WHAT COUNTS. Prove the row's statement (the work); the ties are given (YtfocimgpahjkmaaGreatDoorTie.lean); close each card by the builder's one call (the guide's Derived/Test/ToyasCard.lean, 'card_holds'). Laid BY PROGRAM, IN A SANDBOX (cutbox-door.mjs). By AI agents, Wed Nov 11 2026. No macro, syntax, notation, axiom, sorry.
-/
import Derived.Test.YtfocimgpahjkmaaGreatDoorRows
import GoSem.ClaimSeven
namespace Go.Proofs.YtfocimgpahjkmaaGreatDoor
namespace Rows

/-- THE TIED CARD OF 'insolvencylaw16.MarshalTotals'. -/
def marshalTotalsCard : Claim7 := { stood := { row := marshalTotalsRow, standIns := [], harness := (true, "0ee06cfeec55d39842426603277484ad49ccfea1a0f777917e14af3ee60495c6"), looks := false }, kinds := [], alts := [], laidByText := true, laidKinds := [.data, .data, .data, .pinned], laidTests := true, laidLooks := .later }
def MarshalTotalsCardSaid : Prop := Claim7.holds Tryz.pinned (.plain (OpenSpec.ofChange marshalTotalsSpec)) marshalTotalsCard

/-- THE TIED CARD OF 'insolvencylaw16.MarshalCapacity'. -/
def marshalCapacityCard : Claim7 := { stood := { row := marshalCapacityRow, standIns := [], harness := (true, "0ee06cfeec55d39842426603277484ad49ccfea1a0f777917e14af3ee60495c6"), looks := false }, kinds := [], alts := [], laidByText := true, laidKinds := [.data, .data, .data, .pinned], laidTests := true, laidLooks := .later }
def MarshalCapacityCardSaid : Prop := Claim7.holds Tryz.pinned (.plain (OpenSpec.ofChange marshalCapacitySpec)) marshalCapacityCard

/-- THE TIED CARD OF 'insolvencylaw16.MarshalDistribute'. -/
def marshalDistributeCard : Claim7 := { stood := { row := marshalDistributeRow, standIns := [], harness := (true, "0ee06cfeec55d39842426603277484ad49ccfea1a0f777917e14af3ee60495c6"), looks := false }, kinds := [], alts := [], laidByText := true, laidKinds := [.data, .data, .data, .pinned], laidTests := true, laidLooks := .later }
def MarshalDistributeCardSaid : Prop := Claim7.holds Tryz.pinned (.plain (OpenSpec.ofChange marshalDistributeSpec)) marshalDistributeCard

/-- THE TIED CARD OF 'insolvencylaw16.MarshalRaw'. -/
def marshalRawCard : Claim7 := { stood := { row := marshalRawRow, standIns := [], harness := (true, "0ee06cfeec55d39842426603277484ad49ccfea1a0f777917e14af3ee60495c6"), looks := false }, kinds := [], alts := [], laidByText := true, laidKinds := [.data, .data, .data, .pinned], laidTests := true, laidLooks := .later }
def MarshalRawCardSaid : Prop := Claim7.holds Tryz.pinned (.plain (OpenSpec.ofChange marshalRawSpec)) marshalRawCard

/-- THE SECOND FORM's CARD OF 'insolvencylaw16.MarshalTotals'. -/
def marshalTotalsUptoCard : Claim7 := { stood := { row := marshalTotalsUptoRow, standIns := [], harness := (true, "0ee06cfeec55d39842426603277484ad49ccfea1a0f777917e14af3ee60495c6"), looks := false }, kinds := [], alts := [], laidByText := true, laidKinds := [.data, .data, .data, .pinned], laidTests := true, laidLooks := .later }
def MarshalTotalsUptoCardSaid : Prop := Claim7.holds Tryz.pinned (.plain (OpenSpec.upto marshalTotalsSpec)) marshalTotalsUptoCard

/-- THE SECOND FORM's CARD OF 'insolvencylaw16.MarshalCapacity'. -/
def marshalCapacityUptoCard : Claim7 := { stood := { row := marshalCapacityUptoRow, standIns := [], harness := (true, "0ee06cfeec55d39842426603277484ad49ccfea1a0f777917e14af3ee60495c6"), looks := false }, kinds := [], alts := [], laidByText := true, laidKinds := [.data, .data, .data, .pinned], laidTests := true, laidLooks := .later }
def MarshalCapacityUptoCardSaid : Prop := Claim7.holds Tryz.pinned (.plain (OpenSpec.upto marshalCapacitySpec)) marshalCapacityUptoCard

/-- THE SECOND FORM's CARD OF 'insolvencylaw16.MarshalDistribute'. -/
def marshalDistributeUptoCard : Claim7 := { stood := { row := marshalDistributeUptoRow, standIns := [], harness := (true, "0ee06cfeec55d39842426603277484ad49ccfea1a0f777917e14af3ee60495c6"), looks := false }, kinds := [], alts := [], laidByText := true, laidKinds := [.data, .data, .data, .pinned], laidTests := true, laidLooks := .later }
def MarshalDistributeUptoCardSaid : Prop := Claim7.holds Tryz.pinned (.plain (OpenSpec.upto marshalDistributeSpec)) marshalDistributeUptoCard

/-- THE SECOND FORM's CARD OF 'insolvencylaw16.MarshalRaw'. -/
def marshalRawUptoCard : Claim7 := { stood := { row := marshalRawUptoRow, standIns := [], harness := (true, "0ee06cfeec55d39842426603277484ad49ccfea1a0f777917e14af3ee60495c6"), looks := false }, kinds := [], alts := [], laidByText := true, laidKinds := [.data, .data, .data, .pinned], laidTests := true, laidLooks := .later }
def MarshalRawUptoCardSaid : Prop := Claim7.holds Tryz.pinned (.plain (OpenSpec.upto marshalRawSpec)) marshalRawUptoCard
end Rows
end Go.Proofs.YtfocimgpahjkmaaGreatDoor
