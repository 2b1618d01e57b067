/-
  DERIVED. GIVEN WITH THE SEED: THE CARDS: each row of YtblfipdfklpmmaaDoorRows.lean that lists a variable, with what it lists TIED to the program's text (the seventh form; the later family's looks); each row that meets fmt, with fmt's text TOLD by the authors' own Lean function (tested against real Go, not proved from fmt's source: count such statements apart). THE CARD IS WHAT COUNTS. Prove the row's statement (the work); the ties are given (YtblfipdfklpmmaaDoorTie.lean); close each card by the builder's one call (the guide's Derived/Test/ToyasCard.lean, 'card_holds'). Laid BY PROGRAM, IN A SANDBOX (cutbox-door.mjs). By AI agents, Wed Nov 11 2026. No macro, syntax, notation, axiom, sorry.
-/
import Derived.Test.YtblfipdfklpmmaaDoorRows
import GoSem.ClaimSeven
namespace Go.Proofs.YtblfipdfklpmmaaDoor
namespace Rows

/-- THE TIED CARD OF 'insolvencylaw3.LinearRows'. -/
def linearRowsCard : Claim7 := { stood := { row := linearRowsRow, standIns := [], harness := (true, "3a4619a05de6910f0ed04f9e0d203a8a91cd56f39489225d71e2cf4ff9a67c7f"), looks := false }, kinds := [], alts := [], laidByText := true, laidKinds := [.data, .pinned], laidTests := true, laidLooks := .later }
def LinearRowsCardSaid : Prop := Claim7.holds Tryd.pinned (.plain (OpenSpec.ofChange linearRowsSpec)) linearRowsCard

/-- THE TIED CARD OF 'insolvencylaw3.LinearScale'. -/
def linearScaleCard : Claim7 := { stood := { row := linearScaleRow, standIns := [], harness := (true, "3a4619a05de6910f0ed04f9e0d203a8a91cd56f39489225d71e2cf4ff9a67c7f"), looks := false }, kinds := [], alts := [], laidByText := true, laidKinds := [.data, .pinned], laidTests := true, laidLooks := .later }
def LinearScaleCardSaid : Prop := Claim7.holds Tryd.pinned (.plain (OpenSpec.ofChange linearScaleSpec)) linearScaleCard

/-- THE TIED CARD OF 'insolvencylaw3.LinearLimits'. -/
def linearLimitsCard : Claim7 := { stood := { row := linearLimitsRow, standIns := [], harness := (true, "3a4619a05de6910f0ed04f9e0d203a8a91cd56f39489225d71e2cf4ff9a67c7f"), looks := false }, kinds := [], alts := [], laidByText := true, laidKinds := [.data, .pinned], laidTests := true, laidLooks := .later }
def LinearLimitsCardSaid : Prop := Claim7.holds Tryd.pinned (.plain (OpenSpec.ofChange linearLimitsSpec)) linearLimitsCard

/-- THE TIED CARD OF 'insolvencylaw3.LinearNull'. -/
def linearNullCard : Claim7 := { stood := { row := linearNullRow, standIns := [], harness := (true, "3a4619a05de6910f0ed04f9e0d203a8a91cd56f39489225d71e2cf4ff9a67c7f"), looks := false }, kinds := [], alts := [], laidByText := true, laidKinds := [.data, .pinned], laidTests := true, laidLooks := .later }
def LinearNullCardSaid : Prop := Claim7.holds Tryd.pinned (.plain (OpenSpec.ofChange linearNullSpec)) linearNullCard

/-- THE SECOND FORM's CARD OF 'insolvencylaw3.LinearRows'. -/
def linearRowsUptoCard : Claim7 := { stood := { row := linearRowsUptoRow, standIns := [], harness := (true, "3a4619a05de6910f0ed04f9e0d203a8a91cd56f39489225d71e2cf4ff9a67c7f"), looks := false }, kinds := [], alts := [], laidByText := true, laidKinds := [.data, .pinned], laidTests := true, laidLooks := .later }
def LinearRowsUptoCardSaid : Prop := Claim7.holds Tryd.pinned (.plain (OpenSpec.upto linearRowsSpec)) linearRowsUptoCard

/-- THE SECOND FORM's CARD OF 'insolvencylaw3.LinearScale'. -/
def linearScaleUptoCard : Claim7 := { stood := { row := linearScaleUptoRow, standIns := [], harness := (true, "3a4619a05de6910f0ed04f9e0d203a8a91cd56f39489225d71e2cf4ff9a67c7f"), looks := false }, kinds := [], alts := [], laidByText := true, laidKinds := [.data, .pinned], laidTests := true, laidLooks := .later }
def LinearScaleUptoCardSaid : Prop := Claim7.holds Tryd.pinned (.plain (OpenSpec.upto linearScaleSpec)) linearScaleUptoCard

/-- THE SECOND FORM's CARD OF 'insolvencylaw3.LinearLimits'. -/
def linearLimitsUptoCard : Claim7 := { stood := { row := linearLimitsUptoRow, standIns := [], harness := (true, "3a4619a05de6910f0ed04f9e0d203a8a91cd56f39489225d71e2cf4ff9a67c7f"), looks := false }, kinds := [], alts := [], laidByText := true, laidKinds := [.data, .pinned], laidTests := true, laidLooks := .later }
def LinearLimitsUptoCardSaid : Prop := Claim7.holds Tryd.pinned (.plain (OpenSpec.upto linearLimitsSpec)) linearLimitsUptoCard

/-- THE SECOND FORM's CARD OF 'insolvencylaw3.LinearNull'. -/
def linearNullUptoCard : Claim7 := { stood := { row := linearNullUptoRow, standIns := [], harness := (true, "3a4619a05de6910f0ed04f9e0d203a8a91cd56f39489225d71e2cf4ff9a67c7f"), looks := false }, kinds := [], alts := [], laidByText := true, laidKinds := [.data, .pinned], laidTests := true, laidLooks := .later }
def LinearNullUptoCardSaid : Prop := Claim7.holds Tryd.pinned (.plain (OpenSpec.upto linearNullSpec)) linearNullUptoCard
end Rows
end Go.Proofs.YtblfipdfklpmmaaDoor
