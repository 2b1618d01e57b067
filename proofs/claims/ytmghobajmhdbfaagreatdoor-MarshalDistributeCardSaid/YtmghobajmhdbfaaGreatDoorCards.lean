/-
  DERIVED. GIVEN WITH THE SEED: THE CARDS: each row of YtmghobajmhdbfaaGreatDoorRows.lean that lists a variable, with what it lists TIED to the program's text (the seventh form; the later family's looks); each row that meets fmt, with fmt's text TOLD by the authors' own Lean function (tested against real Go, not proved from fmt's source: count such statements apart). THE CARD IS WHAT COUNTS. Prove the row's statement (the work); the ties are given (YtmghobajmhdbfaaGreatDoorTie.lean); close each card by the builder's one call (the guide's Derived/Test/ToyasCard.lean, 'card_holds'). Laid BY PROGRAM, IN A SANDBOX (cutbox-door.mjs). By AI agents, Wed Nov 11 2026. No macro, syntax, notation, axiom, sorry.
-/
import Derived.Test.YtmghobajmhdbfaaGreatDoorRows
import GoSem.ClaimSeven
namespace Go.Proofs.YtmghobajmhdbfaaGreatDoor
namespace Rows

/-- THE TIED CARD OF 'insolvencylaw16.MarshalDistribute'. -/
def marshalDistributeCard : Claim7 := { stood := { row := marshalDistributeRow, standIns := [], harness := (true, "c020b96e3837c8bb69e02ed51b25f21ca70c41adebfd94865117f11def0a6aef"), looks := false }, kinds := [], alts := [], laidByText := true, laidKinds := [.data, .data, .data, .pinned], laidTests := true, laidLooks := .later }
def MarshalDistributeCardSaid : Prop := Claim7.holds Tryz.pinned (.plain (OpenSpec.ofChange marshalDistributeSpec)) marshalDistributeCard

/-- THE TIED CARD OF 'insolvencylaw16.MarshalRaw'. -/
def marshalRawCard : Claim7 := { stood := { row := marshalRawRow, standIns := [], harness := (true, "c020b96e3837c8bb69e02ed51b25f21ca70c41adebfd94865117f11def0a6aef"), looks := false }, kinds := [], alts := [], laidByText := true, laidKinds := [.data, .data, .data, .pinned], laidTests := true, laidLooks := .later }
def MarshalRawCardSaid : Prop := Claim7.holds Tryz.pinned (.plain (OpenSpec.ofChange marshalRawSpec)) marshalRawCard

/-- THE SECOND FORM's CARD OF 'insolvencylaw16.MarshalDistribute'. -/
def marshalDistributeUptoCard : Claim7 := { stood := { row := marshalDistributeUptoRow, standIns := [], harness := (true, "c020b96e3837c8bb69e02ed51b25f21ca70c41adebfd94865117f11def0a6aef"), looks := false }, kinds := [], alts := [], laidByText := true, laidKinds := [.data, .data, .data, .pinned], laidTests := true, laidLooks := .later }
def MarshalDistributeUptoCardSaid : Prop := Claim7.holds Tryz.pinned (.plain (OpenSpec.upto marshalDistributeSpec)) marshalDistributeUptoCard

/-- THE SECOND FORM's CARD OF 'insolvencylaw16.MarshalRaw'. -/
def marshalRawUptoCard : Claim7 := { stood := { row := marshalRawUptoRow, standIns := [], harness := (true, "c020b96e3837c8bb69e02ed51b25f21ca70c41adebfd94865117f11def0a6aef"), looks := false }, kinds := [], alts := [], laidByText := true, laidKinds := [.data, .data, .data, .pinned], laidTests := true, laidLooks := .later }
def MarshalRawUptoCardSaid : Prop := Claim7.holds Tryz.pinned (.plain (OpenSpec.upto marshalRawSpec)) marshalRawUptoCard
end Rows
end Go.Proofs.YtmghobajmhdbfaaGreatDoor
