/-
  DERIVED. GIVEN WITH THE SEED: THE CARDS: each row of YtblfipdfklpmmaaGreatDoorRows.lean that lists a variable, with what it lists TIED to the program's text (the seventh form; the later family's looks); each row that meets fmt, with fmt's text TOLD by the authors' own Lean function (tested against real Go, not proved from fmt's source: count such statements apart). THE CARD IS WHAT COUNTS. Prove the row's statement (the work); the ties are given (YtblfipdfklpmmaaGreatDoorTie.lean); close each card by the builder's one call (the guide's Derived/Test/ToyasCard.lean, 'card_holds'). Laid BY PROGRAM, IN A SANDBOX (cutbox-door.mjs). By AI agents, Wed Nov 11 2026. No macro, syntax, notation, axiom, sorry.
-/
import Derived.Test.YtblfipdfklpmmaaGreatDoorRows
import GoSem.ClaimSeven
namespace Go.Proofs.YtblfipdfklpmmaaGreatDoor
namespace Rows

/-- THE TIED CARD OF 'insolvencylaw3.LinearSolve'. -/
def linearSolveCard : Claim7 := { stood := { row := linearSolveRow, standIns := [], harness := (true, "d18bf993799138d8c1bdf47559dda9d26d50c64d47c44562f76f365effb13cf9"), looks := false }, kinds := [], alts := [], laidByText := true, laidKinds := [.data, .pinned], laidTests := true, laidLooks := .later }
def LinearSolveCardSaid : Prop := Claim7.holds Tryz.pinned (.plain (OpenSpec.ofChange linearSolveSpec)) linearSolveCard

/-- THE TIED CARD OF 'insolvencylaw3.LinearKernel'. -/
def linearKernelCard : Claim7 := { stood := { row := linearKernelRow, standIns := [], harness := (true, "d18bf993799138d8c1bdf47559dda9d26d50c64d47c44562f76f365effb13cf9"), looks := false }, kinds := [], alts := [], laidByText := true, laidKinds := [.data, .pinned], laidTests := true, laidLooks := .later }
def LinearKernelCardSaid : Prop := Claim7.holds Tryz.pinned (.plain (OpenSpec.ofChange linearKernelSpec)) linearKernelCard

/-- THE TIED CARD OF 'insolvencylaw3.LinearReduce'. -/
def linearReduceCard : Claim7 := { stood := { row := linearReduceRow, standIns := [], harness := (true, "d18bf993799138d8c1bdf47559dda9d26d50c64d47c44562f76f365effb13cf9"), looks := false }, kinds := [], alts := [], laidByText := true, laidKinds := [.data, .pinned], laidTests := true, laidLooks := .later }
def LinearReduceCardSaid : Prop := Claim7.holds Tryz.pinned (.plain (OpenSpec.ofChange linearReduceSpec)) linearReduceCard

/-- THE TIED CARD OF 'insolvencylaw3.LinearDeterminant'. -/
def linearDeterminantCard : Claim7 := { stood := { row := linearDeterminantRow, standIns := [], harness := (true, "d18bf993799138d8c1bdf47559dda9d26d50c64d47c44562f76f365effb13cf9"), looks := false }, kinds := [], alts := [], laidByText := true, laidKinds := [.data, .pinned], laidTests := true, laidLooks := .later }
def LinearDeterminantCardSaid : Prop := Claim7.holds Tryz.pinned (.plain (OpenSpec.ofChange linearDeterminantSpec)) linearDeterminantCard

/-- THE TIED CARD OF 'insolvencylaw3.LinearApply'. -/
def linearApplyCard : Claim7 := { stood := { row := linearApplyRow, standIns := [], harness := (true, "d18bf993799138d8c1bdf47559dda9d26d50c64d47c44562f76f365effb13cf9"), looks := false }, kinds := [], alts := [], laidByText := true, laidKinds := [.data, .pinned], laidTests := true, laidLooks := .later }
def LinearApplyCardSaid : Prop := Claim7.holds Tryz.pinned (.plain (OpenSpec.ofChange linearApplySpec)) linearApplyCard

/-- THE TIED CARD OF 'insolvencylaw3.LinearSolution'. -/
def linearSolutionCard : Claim7 := { stood := { row := linearSolutionRow, standIns := [], harness := (true, "d18bf993799138d8c1bdf47559dda9d26d50c64d47c44562f76f365effb13cf9"), looks := false }, kinds := [], alts := [], laidByText := true, laidKinds := [.data, .pinned], laidTests := true, laidLooks := .later }
def LinearSolutionCardSaid : Prop := Claim7.holds Tryz.pinned (.plain (OpenSpec.ofChange linearSolutionSpec)) linearSolutionCard

/-- THE SECOND FORM's CARD OF 'insolvencylaw3.LinearSolve'. -/
def linearSolveUptoCard : Claim7 := { stood := { row := linearSolveUptoRow, standIns := [], harness := (true, "d18bf993799138d8c1bdf47559dda9d26d50c64d47c44562f76f365effb13cf9"), looks := false }, kinds := [], alts := [], laidByText := true, laidKinds := [.data, .pinned], laidTests := true, laidLooks := .later }
def LinearSolveUptoCardSaid : Prop := Claim7.holds Tryz.pinned (.plain (OpenSpec.upto linearSolveSpec)) linearSolveUptoCard

/-- THE SECOND FORM's CARD OF 'insolvencylaw3.LinearKernel'. -/
def linearKernelUptoCard : Claim7 := { stood := { row := linearKernelUptoRow, standIns := [], harness := (true, "d18bf993799138d8c1bdf47559dda9d26d50c64d47c44562f76f365effb13cf9"), looks := false }, kinds := [], alts := [], laidByText := true, laidKinds := [.data, .pinned], laidTests := true, laidLooks := .later }
def LinearKernelUptoCardSaid : Prop := Claim7.holds Tryz.pinned (.plain (OpenSpec.upto linearKernelSpec)) linearKernelUptoCard

/-- THE SECOND FORM's CARD OF 'insolvencylaw3.LinearReduce'. -/
def linearReduceUptoCard : Claim7 := { stood := { row := linearReduceUptoRow, standIns := [], harness := (true, "d18bf993799138d8c1bdf47559dda9d26d50c64d47c44562f76f365effb13cf9"), looks := false }, kinds := [], alts := [], laidByText := true, laidKinds := [.data, .pinned], laidTests := true, laidLooks := .later }
def LinearReduceUptoCardSaid : Prop := Claim7.holds Tryz.pinned (.plain (OpenSpec.upto linearReduceSpec)) linearReduceUptoCard

/-- THE SECOND FORM's CARD OF 'insolvencylaw3.LinearDeterminant'. -/
def linearDeterminantUptoCard : Claim7 := { stood := { row := linearDeterminantUptoRow, standIns := [], harness := (true, "d18bf993799138d8c1bdf47559dda9d26d50c64d47c44562f76f365effb13cf9"), looks := false }, kinds := [], alts := [], laidByText := true, laidKinds := [.data, .pinned], laidTests := true, laidLooks := .later }
def LinearDeterminantUptoCardSaid : Prop := Claim7.holds Tryz.pinned (.plain (OpenSpec.upto linearDeterminantSpec)) linearDeterminantUptoCard

/-- THE SECOND FORM's CARD OF 'insolvencylaw3.LinearApply'. -/
def linearApplyUptoCard : Claim7 := { stood := { row := linearApplyUptoRow, standIns := [], harness := (true, "d18bf993799138d8c1bdf47559dda9d26d50c64d47c44562f76f365effb13cf9"), looks := false }, kinds := [], alts := [], laidByText := true, laidKinds := [.data, .pinned], laidTests := true, laidLooks := .later }
def LinearApplyUptoCardSaid : Prop := Claim7.holds Tryz.pinned (.plain (OpenSpec.upto linearApplySpec)) linearApplyUptoCard

/-- THE SECOND FORM's CARD OF 'insolvencylaw3.LinearSolution'. -/
def linearSolutionUptoCard : Claim7 := { stood := { row := linearSolutionUptoRow, standIns := [], harness := (true, "d18bf993799138d8c1bdf47559dda9d26d50c64d47c44562f76f365effb13cf9"), looks := false }, kinds := [], alts := [], laidByText := true, laidKinds := [.data, .pinned], laidTests := true, laidLooks := .later }
def LinearSolutionUptoCardSaid : Prop := Claim7.holds Tryz.pinned (.plain (OpenSpec.upto linearSolutionSpec)) linearSolutionUptoCard
end Rows
end Go.Proofs.YtblfipdfklpmmaaGreatDoor
