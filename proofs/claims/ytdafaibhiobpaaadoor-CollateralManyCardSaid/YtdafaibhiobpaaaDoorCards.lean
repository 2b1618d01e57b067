/-
  DERIVED. GIVEN WITH THE SEED: THE CARDS: each row of YtdafaibhiobpaaaDoorRows.lean that lists a variable, with what it lists TIED to the program's text (the seventh form; the later family's looks); each row that meets fmt, with fmt's text TOLD by the authors' own Lean function (tested against real Go, not proved from fmt's source: count such statements apart). THE CARD IS WHAT COUNTS. Prove the row's statement (the work); the ties are given (YtdafaibhiobpaaaDoorTie.lean); close each card by the builder's one call (the guide's Derived/Test/ToyasCard.lean, 'card_holds'). Laid BY PROGRAM, IN A SANDBOX (cutbox-door.mjs). By AI agents, Wed Nov 11 2026. No macro, syntax, notation, axiom, sorry.
-/
import Derived.Test.YtdafaibhiobpaaaDoorRows
import GoSem.ClaimSeven
namespace Go.Proofs.YtdafaibhiobpaaaDoor
namespace Rows

/-- THE TIED CARD OF 'insolvencylaw14.SetoffCheck'. -/
def setoffCheckCard : Claim7 := { stood := { row := setoffCheckRow, standIns := [], harness := (true, "2214c92a534b3915568dc2ac712d7b0549b20b59f98067752ae8ef0a274b82a7"), looks := false }, kinds := [], alts := [], laidByText := true, laidKinds := [.data, .pinned], laidTests := true, laidLooks := .later }
def SetoffCheckCardSaid : Prop := Claim7.holds Tryd.pinned (.plain (OpenSpec.ofChange setoffCheckSpec)) setoffCheckCard

/-- THE TIED CARD OF 'insolvencylaw14.SetoffMany'. -/
def setoffManyCard : Claim7 := { stood := { row := setoffManyRow, standIns := [], harness := (true, "2214c92a534b3915568dc2ac712d7b0549b20b59f98067752ae8ef0a274b82a7"), looks := false }, kinds := [], alts := [], laidByText := true, laidKinds := [.data, .pinned], laidTests := true, laidLooks := .later }
def SetoffManyCardSaid : Prop := Claim7.holds Tryd.pinned (.plain (OpenSpec.ofChange setoffManySpec)) setoffManyCard

/-- THE TIED CARD OF 'insolvencylaw14.SetoffBalance'. -/
def setoffBalanceCard : Claim7 := { stood := { row := setoffBalanceRow, standIns := [], harness := (true, "2214c92a534b3915568dc2ac712d7b0549b20b59f98067752ae8ef0a274b82a7"), looks := false }, kinds := [], alts := [], laidByText := true, laidKinds := [.data, .pinned], laidTests := true, laidLooks := .later }
def SetoffBalanceCardSaid : Prop := Claim7.holds Tryd.pinned (.plain (OpenSpec.ofChange setoffBalanceSpec)) setoffBalanceCard

/-- THE TIED CARD OF 'insolvencylaw14.SetoffTwice'. -/
def setoffTwiceCard : Claim7 := { stood := { row := setoffTwiceRow, standIns := [], harness := (true, "2214c92a534b3915568dc2ac712d7b0549b20b59f98067752ae8ef0a274b82a7"), looks := false }, kinds := [], alts := [], laidByText := true, laidKinds := [.data, .pinned], laidTests := true, laidLooks := .later }
def SetoffTwiceCardSaid : Prop := Claim7.holds Tryd.pinned (.plain (OpenSpec.ofChange setoffTwiceSpec)) setoffTwiceCard

/-- THE TIED CARD OF 'insolvencylaw14.SetoffOldest'. -/
def setoffOldestCard : Claim7 := { stood := { row := setoffOldestRow, standIns := [], harness := (true, "2214c92a534b3915568dc2ac712d7b0549b20b59f98067752ae8ef0a274b82a7"), looks := false }, kinds := [], alts := [], laidByText := true, laidKinds := [.data, .pinned], laidTests := true, laidLooks := .later }
def SetoffOldestCardSaid : Prop := Claim7.holds Tryd.pinned (.plain (OpenSpec.ofChange setoffOldestSpec)) setoffOldestCard

/-- THE TIED CARD OF 'insolvencylaw14.SetoffWindow'. -/
def setoffWindowCard : Claim7 := { stood := { row := setoffWindowRow, standIns := [], harness := (true, "2214c92a534b3915568dc2ac712d7b0549b20b59f98067752ae8ef0a274b82a7"), looks := false }, kinds := [], alts := [], laidByText := true, laidKinds := [.data, .pinned], laidTests := true, laidLooks := .later }
def SetoffWindowCardSaid : Prop := Claim7.holds Tryd.pinned (.plain (OpenSpec.ofChange setoffWindowSpec)) setoffWindowCard

/-- THE TIED CARD OF 'insolvencylaw14.SetoffOneSided'. -/
def setoffOneSidedCard : Claim7 := { stood := { row := setoffOneSidedRow, standIns := [], harness := (true, "2214c92a534b3915568dc2ac712d7b0549b20b59f98067752ae8ef0a274b82a7"), looks := false }, kinds := [], alts := [], laidByText := true, laidKinds := [.data, .pinned], laidTests := true, laidLooks := .later }
def SetoffOneSidedCardSaid : Prop := Claim7.holds Tryd.pinned (.plain (OpenSpec.ofChange setoffOneSidedSpec)) setoffOneSidedCard

/-- THE TIED CARD OF 'insolvencylaw15.CollateralMany'. -/
def collateralManyCard : Claim7 := { stood := { row := collateralManyRow, standIns := [], harness := (true, "2214c92a534b3915568dc2ac712d7b0549b20b59f98067752ae8ef0a274b82a7"), looks := false }, kinds := [], alts := [], laidByText := true, laidKinds := [.data, .pinned], laidTests := true, laidLooks := .later }
def CollateralManyCardSaid : Prop := Claim7.holds Tryd.pinned (.plain (OpenSpec.ofChange collateralManySpec)) collateralManyCard

/-- THE SECOND FORM's CARD OF 'insolvencylaw14.SetoffCheck'. -/
def setoffCheckUptoCard : Claim7 := { stood := { row := setoffCheckUptoRow, standIns := [], harness := (true, "2214c92a534b3915568dc2ac712d7b0549b20b59f98067752ae8ef0a274b82a7"), looks := false }, kinds := [], alts := [], laidByText := true, laidKinds := [.data, .pinned], laidTests := true, laidLooks := .later }
def SetoffCheckUptoCardSaid : Prop := Claim7.holds Tryd.pinned (.plain (OpenSpec.upto setoffCheckSpec)) setoffCheckUptoCard

/-- THE SECOND FORM's CARD OF 'insolvencylaw14.SetoffMany'. -/
def setoffManyUptoCard : Claim7 := { stood := { row := setoffManyUptoRow, standIns := [], harness := (true, "2214c92a534b3915568dc2ac712d7b0549b20b59f98067752ae8ef0a274b82a7"), looks := false }, kinds := [], alts := [], laidByText := true, laidKinds := [.data, .pinned], laidTests := true, laidLooks := .later }
def SetoffManyUptoCardSaid : Prop := Claim7.holds Tryd.pinned (.plain (OpenSpec.upto setoffManySpec)) setoffManyUptoCard

/-- THE SECOND FORM's CARD OF 'insolvencylaw14.SetoffBalance'. -/
def setoffBalanceUptoCard : Claim7 := { stood := { row := setoffBalanceUptoRow, standIns := [], harness := (true, "2214c92a534b3915568dc2ac712d7b0549b20b59f98067752ae8ef0a274b82a7"), looks := false }, kinds := [], alts := [], laidByText := true, laidKinds := [.data, .pinned], laidTests := true, laidLooks := .later }
def SetoffBalanceUptoCardSaid : Prop := Claim7.holds Tryd.pinned (.plain (OpenSpec.upto setoffBalanceSpec)) setoffBalanceUptoCard

/-- THE SECOND FORM's CARD OF 'insolvencylaw14.SetoffTwice'. -/
def setoffTwiceUptoCard : Claim7 := { stood := { row := setoffTwiceUptoRow, standIns := [], harness := (true, "2214c92a534b3915568dc2ac712d7b0549b20b59f98067752ae8ef0a274b82a7"), looks := false }, kinds := [], alts := [], laidByText := true, laidKinds := [.data, .pinned], laidTests := true, laidLooks := .later }
def SetoffTwiceUptoCardSaid : Prop := Claim7.holds Tryd.pinned (.plain (OpenSpec.upto setoffTwiceSpec)) setoffTwiceUptoCard

/-- THE SECOND FORM's CARD OF 'insolvencylaw14.SetoffOldest'. -/
def setoffOldestUptoCard : Claim7 := { stood := { row := setoffOldestUptoRow, standIns := [], harness := (true, "2214c92a534b3915568dc2ac712d7b0549b20b59f98067752ae8ef0a274b82a7"), looks := false }, kinds := [], alts := [], laidByText := true, laidKinds := [.data, .pinned], laidTests := true, laidLooks := .later }
def SetoffOldestUptoCardSaid : Prop := Claim7.holds Tryd.pinned (.plain (OpenSpec.upto setoffOldestSpec)) setoffOldestUptoCard

/-- THE SECOND FORM's CARD OF 'insolvencylaw14.SetoffWindow'. -/
def setoffWindowUptoCard : Claim7 := { stood := { row := setoffWindowUptoRow, standIns := [], harness := (true, "2214c92a534b3915568dc2ac712d7b0549b20b59f98067752ae8ef0a274b82a7"), looks := false }, kinds := [], alts := [], laidByText := true, laidKinds := [.data, .pinned], laidTests := true, laidLooks := .later }
def SetoffWindowUptoCardSaid : Prop := Claim7.holds Tryd.pinned (.plain (OpenSpec.upto setoffWindowSpec)) setoffWindowUptoCard

/-- THE SECOND FORM's CARD OF 'insolvencylaw14.SetoffOneSided'. -/
def setoffOneSidedUptoCard : Claim7 := { stood := { row := setoffOneSidedUptoRow, standIns := [], harness := (true, "2214c92a534b3915568dc2ac712d7b0549b20b59f98067752ae8ef0a274b82a7"), looks := false }, kinds := [], alts := [], laidByText := true, laidKinds := [.data, .pinned], laidTests := true, laidLooks := .later }
def SetoffOneSidedUptoCardSaid : Prop := Claim7.holds Tryd.pinned (.plain (OpenSpec.upto setoffOneSidedSpec)) setoffOneSidedUptoCard

/-- THE SECOND FORM's CARD OF 'insolvencylaw15.CollateralMany'. -/
def collateralManyUptoCard : Claim7 := { stood := { row := collateralManyUptoRow, standIns := [], harness := (true, "2214c92a534b3915568dc2ac712d7b0549b20b59f98067752ae8ef0a274b82a7"), looks := false }, kinds := [], alts := [], laidByText := true, laidKinds := [.data, .pinned], laidTests := true, laidLooks := .later }
def CollateralManyUptoCardSaid : Prop := Claim7.holds Tryd.pinned (.plain (OpenSpec.upto collateralManySpec)) collateralManyUptoCard
end Rows
end Go.Proofs.YtdafaibhiobpaaaDoor
