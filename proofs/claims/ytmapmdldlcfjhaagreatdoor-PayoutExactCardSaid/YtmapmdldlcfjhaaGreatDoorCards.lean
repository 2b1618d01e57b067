/-
  DERIVED. GIVEN WITH THE SEED: THE CARDS: each row of YtmapmdldlcfjhaaGreatDoorRows.lean that lists a variable, with what it lists TIED to the program's text (the seventh form; the later family's looks); each row that meets fmt, with fmt's text TOLD by the authors' own Lean function (tested against real Go, not proved from fmt's source: count such statements apart). THE CARD IS WHAT COUNTS. Prove the row's statement (the work); the ties are given (YtmapmdldlcfjhaaGreatDoorTie.lean); close each card by the builder's one call (the guide's Derived/Test/ToyasCard.lean, 'card_holds'). Laid BY PROGRAM, IN A SANDBOX (cutbox-door.mjs). By AI agents, Wed Nov 11 2026. No macro, syntax, notation, axiom, sorry.
-/
import Derived.Test.YtmapmdldlcfjhaaGreatDoorRows
import GoSem.ClaimSeven
namespace Go.Proofs.YtmapmdldlcfjhaaGreatDoor
namespace Rows

/-- THE TIED CARD OF 'insolvencylaw4.ApportionLargest'. -/
def apportionLargestCard : Claim7 := { stood := { row := apportionLargestRow, standIns := [], harness := (true, "d8bef88e8f38c7d6e5a1f7b1e7a5deb5cc93ed4e86259d20dc624cf221897df7"), looks := false }, kinds := [], alts := [], laidByText := true, laidKinds := [.data, .pinned], laidTests := true, laidLooks := .later }
def ApportionLargestCardSaid : Prop := Claim7.holds Tryz.pinned (.plain (OpenSpec.ofChange apportionLargestSpec)) apportionLargestCard

/-- THE TIED CARD OF 'insolvencylaw4.ApportionSplit'. -/
def apportionSplitCard : Claim7 := { stood := { row := apportionSplitRow, standIns := [], harness := (true, "d8bef88e8f38c7d6e5a1f7b1e7a5deb5cc93ed4e86259d20dc624cf221897df7"), looks := false }, kinds := [], alts := [], laidByText := true, laidKinds := [.data, .pinned], laidTests := true, laidLooks := .later }
def ApportionSplitCardSaid : Prop := Claim7.holds Tryz.pinned (.plain (OpenSpec.ofChange apportionSplitSpec)) apportionSplitCard

/-- THE TIED CARD OF 'insolvencylaw24.PayoutCents'. -/
def payoutCentsCard : Claim7 := { stood := { row := payoutCentsRow, standIns := [], harness := (true, "d8bef88e8f38c7d6e5a1f7b1e7a5deb5cc93ed4e86259d20dc624cf221897df7"), looks := false }, kinds := [], alts := [], laidByText := true, laidKinds := [.data, .pinned], laidTests := true, laidLooks := .later }
def PayoutCentsCardSaid : Prop := Claim7.holds Tryz.pinned (.plain (OpenSpec.ofChange payoutCentsSpec)) payoutCentsCard

/-- THE TIED CARD OF 'insolvencylaw24.PayoutRound'. -/
def payoutRoundCard : Claim7 := { stood := { row := payoutRoundRow, standIns := [], harness := (true, "d8bef88e8f38c7d6e5a1f7b1e7a5deb5cc93ed4e86259d20dc624cf221897df7"), looks := false }, kinds := [], alts := [], laidByText := true, laidKinds := [.data, .pinned], laidTests := true, laidLooks := .later }
def PayoutRoundCardSaid : Prop := Claim7.holds Tryz.pinned (.plain (OpenSpec.ofChange payoutRoundSpec)) payoutRoundCard

/-- THE TIED CARD OF 'insolvencylaw24.PayoutExact'. -/
def payoutExactCard : Claim7 := { stood := { row := payoutExactRow, standIns := [], harness := (true, "d8bef88e8f38c7d6e5a1f7b1e7a5deb5cc93ed4e86259d20dc624cf221897df7"), looks := false }, kinds := [], alts := [], laidByText := true, laidKinds := [.data, .pinned], laidTests := true, laidLooks := .later }
def PayoutExactCardSaid : Prop := Claim7.holds Tryz.pinned (.plain (OpenSpec.ofChange payoutExactSpec)) payoutExactCard

/-- THE TIED CARD OF 'insolvencylaw24.PayoutLast'. -/
def payoutLastCard : Claim7 := { stood := { row := payoutLastRow, standIns := [], harness := (true, "d8bef88e8f38c7d6e5a1f7b1e7a5deb5cc93ed4e86259d20dc624cf221897df7"), looks := false }, kinds := [], alts := [], laidByText := true, laidKinds := [.data, .pinned], laidTests := true, laidLooks := .later }
def PayoutLastCardSaid : Prop := Claim7.holds Tryz.pinned (.plain (OpenSpec.ofChange payoutLastSpec)) payoutLastCard

/-- THE TIED CARD OF 'insolvencylaw24.PayoutInterim'. -/
def payoutInterimCard : Claim7 := { stood := { row := payoutInterimRow, standIns := [], harness := (true, "d8bef88e8f38c7d6e5a1f7b1e7a5deb5cc93ed4e86259d20dc624cf221897df7"), looks := false }, kinds := [], alts := [], laidByText := true, laidKinds := [.data, .pinned], laidTests := true, laidLooks := .later }
def PayoutInterimCardSaid : Prop := Claim7.holds Tryz.pinned (.plain (OpenSpec.ofChange payoutInterimSpec)) payoutInterimCard

/-- THE TIED CARD OF 'insolvencylaw24.PayoutNever'. -/
def payoutNeverCard : Claim7 := { stood := { row := payoutNeverRow, standIns := [], harness := (true, "d8bef88e8f38c7d6e5a1f7b1e7a5deb5cc93ed4e86259d20dc624cf221897df7"), looks := false }, kinds := [], alts := [], laidByText := true, laidKinds := [.data, .pinned], laidTests := true, laidLooks := .later }
def PayoutNeverCardSaid : Prop := Claim7.holds Tryz.pinned (.plain (OpenSpec.ofChange payoutNeverSpec)) payoutNeverCard

/-- THE SECOND FORM's CARD OF 'insolvencylaw4.ApportionLargest'. -/
def apportionLargestUptoCard : Claim7 := { stood := { row := apportionLargestUptoRow, standIns := [], harness := (true, "d8bef88e8f38c7d6e5a1f7b1e7a5deb5cc93ed4e86259d20dc624cf221897df7"), looks := false }, kinds := [], alts := [], laidByText := true, laidKinds := [.data, .pinned], laidTests := true, laidLooks := .later }
def ApportionLargestUptoCardSaid : Prop := Claim7.holds Tryz.pinned (.plain (OpenSpec.upto apportionLargestSpec)) apportionLargestUptoCard

/-- THE SECOND FORM's CARD OF 'insolvencylaw4.ApportionSplit'. -/
def apportionSplitUptoCard : Claim7 := { stood := { row := apportionSplitUptoRow, standIns := [], harness := (true, "d8bef88e8f38c7d6e5a1f7b1e7a5deb5cc93ed4e86259d20dc624cf221897df7"), looks := false }, kinds := [], alts := [], laidByText := true, laidKinds := [.data, .pinned], laidTests := true, laidLooks := .later }
def ApportionSplitUptoCardSaid : Prop := Claim7.holds Tryz.pinned (.plain (OpenSpec.upto apportionSplitSpec)) apportionSplitUptoCard

/-- THE SECOND FORM's CARD OF 'insolvencylaw24.PayoutCents'. -/
def payoutCentsUptoCard : Claim7 := { stood := { row := payoutCentsUptoRow, standIns := [], harness := (true, "d8bef88e8f38c7d6e5a1f7b1e7a5deb5cc93ed4e86259d20dc624cf221897df7"), looks := false }, kinds := [], alts := [], laidByText := true, laidKinds := [.data, .pinned], laidTests := true, laidLooks := .later }
def PayoutCentsUptoCardSaid : Prop := Claim7.holds Tryz.pinned (.plain (OpenSpec.upto payoutCentsSpec)) payoutCentsUptoCard

/-- THE SECOND FORM's CARD OF 'insolvencylaw24.PayoutRound'. -/
def payoutRoundUptoCard : Claim7 := { stood := { row := payoutRoundUptoRow, standIns := [], harness := (true, "d8bef88e8f38c7d6e5a1f7b1e7a5deb5cc93ed4e86259d20dc624cf221897df7"), looks := false }, kinds := [], alts := [], laidByText := true, laidKinds := [.data, .pinned], laidTests := true, laidLooks := .later }
def PayoutRoundUptoCardSaid : Prop := Claim7.holds Tryz.pinned (.plain (OpenSpec.upto payoutRoundSpec)) payoutRoundUptoCard

/-- THE SECOND FORM's CARD OF 'insolvencylaw24.PayoutExact'. -/
def payoutExactUptoCard : Claim7 := { stood := { row := payoutExactUptoRow, standIns := [], harness := (true, "d8bef88e8f38c7d6e5a1f7b1e7a5deb5cc93ed4e86259d20dc624cf221897df7"), looks := false }, kinds := [], alts := [], laidByText := true, laidKinds := [.data, .pinned], laidTests := true, laidLooks := .later }
def PayoutExactUptoCardSaid : Prop := Claim7.holds Tryz.pinned (.plain (OpenSpec.upto payoutExactSpec)) payoutExactUptoCard

/-- THE SECOND FORM's CARD OF 'insolvencylaw24.PayoutLast'. -/
def payoutLastUptoCard : Claim7 := { stood := { row := payoutLastUptoRow, standIns := [], harness := (true, "d8bef88e8f38c7d6e5a1f7b1e7a5deb5cc93ed4e86259d20dc624cf221897df7"), looks := false }, kinds := [], alts := [], laidByText := true, laidKinds := [.data, .pinned], laidTests := true, laidLooks := .later }
def PayoutLastUptoCardSaid : Prop := Claim7.holds Tryz.pinned (.plain (OpenSpec.upto payoutLastSpec)) payoutLastUptoCard

/-- THE SECOND FORM's CARD OF 'insolvencylaw24.PayoutInterim'. -/
def payoutInterimUptoCard : Claim7 := { stood := { row := payoutInterimUptoRow, standIns := [], harness := (true, "d8bef88e8f38c7d6e5a1f7b1e7a5deb5cc93ed4e86259d20dc624cf221897df7"), looks := false }, kinds := [], alts := [], laidByText := true, laidKinds := [.data, .pinned], laidTests := true, laidLooks := .later }
def PayoutInterimUptoCardSaid : Prop := Claim7.holds Tryz.pinned (.plain (OpenSpec.upto payoutInterimSpec)) payoutInterimUptoCard

/-- THE SECOND FORM's CARD OF 'insolvencylaw24.PayoutNever'. -/
def payoutNeverUptoCard : Claim7 := { stood := { row := payoutNeverUptoRow, standIns := [], harness := (true, "d8bef88e8f38c7d6e5a1f7b1e7a5deb5cc93ed4e86259d20dc624cf221897df7"), looks := false }, kinds := [], alts := [], laidByText := true, laidKinds := [.data, .pinned], laidTests := true, laidLooks := .later }
def PayoutNeverUptoCardSaid : Prop := Claim7.holds Tryz.pinned (.plain (OpenSpec.upto payoutNeverSpec)) payoutNeverUptoCard
end Rows
end Go.Proofs.YtmapmdldlcfjhaaGreatDoor
