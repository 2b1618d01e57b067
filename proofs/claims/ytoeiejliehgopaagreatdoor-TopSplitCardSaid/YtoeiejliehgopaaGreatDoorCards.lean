/-
  DERIVED. GIVEN WITH THE SEED: THE CARDS: each row of YtoeiejliehgopaaGreatDoorRows.lean that lists a variable, with what it lists TIED to the program's text (the seventh form; the later family's looks); each row that meets fmt, with fmt's text TOLD by the authors' own Lean function (tested against real Go, not proved from fmt's source: count such statements apart). THE CARD IS WHAT COUNTS. Prove the row's statement (the work); the ties are given (YtoeiejliehgopaaGreatDoorTie.lean); close each card by the builder's one call (the guide's Derived/Test/ToyasCard.lean, 'card_holds'). Laid BY PROGRAM, IN A SANDBOX (cutbox-door.mjs). By AI agents, Wed Nov 11 2026. No macro, syntax, notation, axiom, sorry.
-/
import Derived.Test.YtoeiejliehgopaaGreatDoorRows
import GoSem.ClaimSeven
namespace Go.Proofs.YtoeiejliehgopaaGreatDoor
namespace Rows

/-- THE TIED CARD OF 'insolvencytop.TopScale'. -/
def topScaleCard : Claim7 := { stood := { row := topScaleRow, standIns := [], harness := (true, "3d5f1be4a81db646bbdcf0ea0f812e17d392a971610f8303a5bae2de420b2a51"), looks := false }, kinds := [], alts := [], laidByText := true, laidKinds := [.data, .pinned], laidTests := true, laidLooks := .later }
def TopScaleCardSaid : Prop := Claim7.holds Tryz.pinned (.plain (OpenSpec.ofChange topScaleSpec)) topScaleCard

/-- THE TIED CARD OF 'insolvencytop.TopRanks'. -/
def topRanksCard : Claim7 := { stood := { row := topRanksRow, standIns := [], harness := (true, "3d5f1be4a81db646bbdcf0ea0f812e17d392a971610f8303a5bae2de420b2a51"), looks := false }, kinds := [], alts := [], laidByText := true, laidKinds := [.data, .pinned], laidTests := true, laidLooks := .later }
def TopRanksCardSaid : Prop := Claim7.holds Tryz.pinned (.plain (OpenSpec.ofChange topRanksSpec)) topRanksCard

/-- THE TIED CARD OF 'insolvencytop.TopSplit'. -/
def topSplitCard : Claim7 := { stood := { row := topSplitRow, standIns := [], harness := (true, "3d5f1be4a81db646bbdcf0ea0f812e17d392a971610f8303a5bae2de420b2a51"), looks := false }, kinds := [], alts := [], laidByText := true, laidKinds := [.data, .pinned], laidTests := true, laidLooks := .later }
def TopSplitCardSaid : Prop := Claim7.holds Tryz.pinned (.plain (OpenSpec.ofChange topSplitSpec)) topSplitCard

/-- THE TIED CARD OF 'insolvencytop.TopUnion'. -/
def topUnionCard : Claim7 := { stood := { row := topUnionRow, standIns := [], harness := (true, "3d5f1be4a81db646bbdcf0ea0f812e17d392a971610f8303a5bae2de420b2a51"), looks := false }, kinds := [], alts := [], laidByText := true, laidKinds := [.data, .pinned], laidTests := true, laidLooks := .later }
def TopUnionCardSaid : Prop := Claim7.holds Tryz.pinned (.plain (OpenSpec.ofChange topUnionSpec)) topUnionCard

/-- THE SECOND FORM's CARD OF 'insolvencytop.TopScale'. -/
def topScaleUptoCard : Claim7 := { stood := { row := topScaleUptoRow, standIns := [], harness := (true, "3d5f1be4a81db646bbdcf0ea0f812e17d392a971610f8303a5bae2de420b2a51"), looks := false }, kinds := [], alts := [], laidByText := true, laidKinds := [.data, .pinned], laidTests := true, laidLooks := .later }
def TopScaleUptoCardSaid : Prop := Claim7.holds Tryz.pinned (.plain (OpenSpec.upto topScaleSpec)) topScaleUptoCard

/-- THE SECOND FORM's CARD OF 'insolvencytop.TopRanks'. -/
def topRanksUptoCard : Claim7 := { stood := { row := topRanksUptoRow, standIns := [], harness := (true, "3d5f1be4a81db646bbdcf0ea0f812e17d392a971610f8303a5bae2de420b2a51"), looks := false }, kinds := [], alts := [], laidByText := true, laidKinds := [.data, .pinned], laidTests := true, laidLooks := .later }
def TopRanksUptoCardSaid : Prop := Claim7.holds Tryz.pinned (.plain (OpenSpec.upto topRanksSpec)) topRanksUptoCard

/-- THE SECOND FORM's CARD OF 'insolvencytop.TopSplit'. -/
def topSplitUptoCard : Claim7 := { stood := { row := topSplitUptoRow, standIns := [], harness := (true, "3d5f1be4a81db646bbdcf0ea0f812e17d392a971610f8303a5bae2de420b2a51"), looks := false }, kinds := [], alts := [], laidByText := true, laidKinds := [.data, .pinned], laidTests := true, laidLooks := .later }
def TopSplitUptoCardSaid : Prop := Claim7.holds Tryz.pinned (.plain (OpenSpec.upto topSplitSpec)) topSplitUptoCard

/-- THE SECOND FORM's CARD OF 'insolvencytop.TopUnion'. -/
def topUnionUptoCard : Claim7 := { stood := { row := topUnionUptoRow, standIns := [], harness := (true, "3d5f1be4a81db646bbdcf0ea0f812e17d392a971610f8303a5bae2de420b2a51"), looks := false }, kinds := [], alts := [], laidByText := true, laidKinds := [.data, .pinned], laidTests := true, laidLooks := .later }
def TopUnionUptoCardSaid : Prop := Claim7.holds Tryz.pinned (.plain (OpenSpec.upto topUnionSpec)) topUnionUptoCard
end Rows
end Go.Proofs.YtoeiejliehgopaaGreatDoor
