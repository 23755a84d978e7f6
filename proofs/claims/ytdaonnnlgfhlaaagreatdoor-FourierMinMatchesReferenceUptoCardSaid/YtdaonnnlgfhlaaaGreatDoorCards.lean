/-
  DERIVED. GIVEN WITH THE SEED: THE CARDS: each row of YtdaonnnlgfhlaaaGreatDoorRows.lean that lists a variable, with what it lists TIED to the program's text (the seventh form; the later family's looks); each row that meets fmt, with fmt's text TOLD by the authors' own Lean function (tested against real Go, not proved from fmt's source: count such statements apart). THE CARD IS WHAT COUNTS. Prove the row's statement (the work); the ties are given (YtdaonnnlgfhlaaaGreatDoorTie.lean); close each card by the builder's one call (the guide's Derived/Test/ToyasCard.lean, 'card_holds'). Laid BY PROGRAM, IN A SANDBOX (cutbox-door.mjs). By AI agents, Wed Nov 11 2026. No macro, syntax, notation, axiom, sorry.
-/
import Derived.Test.YtdaonnnlgfhlaaaGreatDoorRows
import GoSem.ClaimSeven
namespace Go.Proofs.YtdaonnnlgfhlaaaGreatDoor
namespace Rows

/-- THE TIED CARD OF 'relucertlaw31.FourierNormal'. -/
def fourierNormalCard : Claim7 := { stood := { row := fourierNormalRow, standIns := [], harness := (true, "e6f3abb6be948d784db5e1df1ba52079dff191ab2f905261ac18e95440301fe9"), looks := false }, kinds := [], alts := [], laidByText := true, laidKinds := [.data, .data, .data], laidTests := true, laidLooks := .later }
def FourierNormalCardSaid : Prop := Claim7.holds Tryz.pinned (.plain (OpenSpec.ofChange fourierNormalSpec)) fourierNormalCard

/-- THE TIED CARD OF 'relucertlaw31.FourierEliminateMatchesReference'. -/
def fourierEliminateMatchesReferenceCard : Claim7 := { stood := { row := fourierEliminateMatchesReferenceRow, standIns := [], harness := (true, "e6f3abb6be948d784db5e1df1ba52079dff191ab2f905261ac18e95440301fe9"), looks := false }, kinds := [], alts := [], laidByText := true, laidKinds := [.data, .data, .data], laidTests := true, laidLooks := .later }
def FourierEliminateMatchesReferenceCardSaid : Prop := Claim7.holds Tryz.pinned (.plain (OpenSpec.ofChange fourierEliminateMatchesReferenceSpec)) fourierEliminateMatchesReferenceCard

/-- THE TIED CARD OF 'relucertlaw31.FourierProjects'. -/
def fourierProjectsCard : Claim7 := { stood := { row := fourierProjectsRow, standIns := [], harness := (true, "e6f3abb6be948d784db5e1df1ba52079dff191ab2f905261ac18e95440301fe9"), looks := false }, kinds := [], alts := [], laidByText := true, laidKinds := [.data, .data, .data], laidTests := true, laidLooks := .later }
def FourierProjectsCardSaid : Prop := Claim7.holds Tryz.pinned (.plain (OpenSpec.ofChange fourierProjectsSpec)) fourierProjectsCard

/-- THE TIED CARD OF 'relucertlaw31.FourierFeasible'. -/
def fourierFeasibleCard : Claim7 := { stood := { row := fourierFeasibleRow, standIns := [], harness := (true, "e6f3abb6be948d784db5e1df1ba52079dff191ab2f905261ac18e95440301fe9"), looks := false }, kinds := [], alts := [], laidByText := true, laidKinds := [.data, .data, .data], laidTests := true, laidLooks := .later }
def FourierFeasibleCardSaid : Prop := Claim7.holds Tryz.pinned (.plain (OpenSpec.ofChange fourierFeasibleSpec)) fourierFeasibleCard

/-- THE TIED CARD OF 'relucertlaw31.FourierMinMatchesReference'. -/
def fourierMinMatchesReferenceCard : Claim7 := { stood := { row := fourierMinMatchesReferenceRow, standIns := [], harness := (true, "e6f3abb6be948d784db5e1df1ba52079dff191ab2f905261ac18e95440301fe9"), looks := false }, kinds := [], alts := [], laidByText := true, laidKinds := [.data, .data, .data], laidTests := true, laidLooks := .later }
def FourierMinMatchesReferenceCardSaid : Prop := Claim7.holds Tryz.pinned (.plain (OpenSpec.ofChange fourierMinMatchesReferenceSpec)) fourierMinMatchesReferenceCard

/-- THE SECOND FORM's CARD OF 'relucertlaw31.FourierNormal'. -/
def fourierNormalUptoCard : Claim7 := { stood := { row := fourierNormalUptoRow, standIns := [], harness := (true, "e6f3abb6be948d784db5e1df1ba52079dff191ab2f905261ac18e95440301fe9"), looks := false }, kinds := [], alts := [], laidByText := true, laidKinds := [.data, .data, .data], laidTests := true, laidLooks := .later }
def FourierNormalUptoCardSaid : Prop := Claim7.holds Tryz.pinned (.plain (OpenSpec.upto fourierNormalSpec)) fourierNormalUptoCard

/-- THE SECOND FORM's CARD OF 'relucertlaw31.FourierEliminateMatchesReference'. -/
def fourierEliminateMatchesReferenceUptoCard : Claim7 := { stood := { row := fourierEliminateMatchesReferenceUptoRow, standIns := [], harness := (true, "e6f3abb6be948d784db5e1df1ba52079dff191ab2f905261ac18e95440301fe9"), looks := false }, kinds := [], alts := [], laidByText := true, laidKinds := [.data, .data, .data], laidTests := true, laidLooks := .later }
def FourierEliminateMatchesReferenceUptoCardSaid : Prop := Claim7.holds Tryz.pinned (.plain (OpenSpec.upto fourierEliminateMatchesReferenceSpec)) fourierEliminateMatchesReferenceUptoCard

/-- THE SECOND FORM's CARD OF 'relucertlaw31.FourierProjects'. -/
def fourierProjectsUptoCard : Claim7 := { stood := { row := fourierProjectsUptoRow, standIns := [], harness := (true, "e6f3abb6be948d784db5e1df1ba52079dff191ab2f905261ac18e95440301fe9"), looks := false }, kinds := [], alts := [], laidByText := true, laidKinds := [.data, .data, .data], laidTests := true, laidLooks := .later }
def FourierProjectsUptoCardSaid : Prop := Claim7.holds Tryz.pinned (.plain (OpenSpec.upto fourierProjectsSpec)) fourierProjectsUptoCard

/-- THE SECOND FORM's CARD OF 'relucertlaw31.FourierFeasible'. -/
def fourierFeasibleUptoCard : Claim7 := { stood := { row := fourierFeasibleUptoRow, standIns := [], harness := (true, "e6f3abb6be948d784db5e1df1ba52079dff191ab2f905261ac18e95440301fe9"), looks := false }, kinds := [], alts := [], laidByText := true, laidKinds := [.data, .data, .data], laidTests := true, laidLooks := .later }
def FourierFeasibleUptoCardSaid : Prop := Claim7.holds Tryz.pinned (.plain (OpenSpec.upto fourierFeasibleSpec)) fourierFeasibleUptoCard

/-- THE SECOND FORM's CARD OF 'relucertlaw31.FourierMinMatchesReference'. -/
def fourierMinMatchesReferenceUptoCard : Claim7 := { stood := { row := fourierMinMatchesReferenceUptoRow, standIns := [], harness := (true, "e6f3abb6be948d784db5e1df1ba52079dff191ab2f905261ac18e95440301fe9"), looks := false }, kinds := [], alts := [], laidByText := true, laidKinds := [.data, .data, .data], laidTests := true, laidLooks := .later }
def FourierMinMatchesReferenceUptoCardSaid : Prop := Claim7.holds Tryz.pinned (.plain (OpenSpec.upto fourierMinMatchesReferenceSpec)) fourierMinMatchesReferenceUptoCard
end Rows
end Go.Proofs.YtdaonnnlgfhlaaaGreatDoor
