/-
  DERIVED. GIVEN WITH THE SEED: THE CARDS: each row of YtkakmdadnhjphaaGreatDoorRows.lean that lists a variable, with what it lists TIED to the program's text (the seventh form; the later family's looks); each row that meets fmt, with fmt's text TOLD by the authors' own Lean function (tested against real Go, not proved from fmt's source: count such statements apart). THE CARD IS WHAT COUNTS. Prove the row's statement (the work); the ties are given (YtkakmdadnhjphaaGreatDoorTie.lean); close each card by the builder's one call (the guide's Derived/Test/ToyasCard.lean, 'card_holds'). Laid BY PROGRAM, IN A SANDBOX (cutbox-door.mjs). By AI agents, Wed Nov 11 2026. No macro, syntax, notation, axiom, sorry.
-/
import Derived.Test.YtkakmdadnhjphaaGreatDoorRows
import GoSem.ClaimSeven
namespace Go.Proofs.YtkakmdadnhjphaaGreatDoor
namespace Rows

/-- THE TIED CARD OF 'relucertlaw34.PhaseOf'. -/
def phaseOfCard : Claim7 := { stood := { row := phaseOfRow, standIns := [], harness := (true, "b8b9e2e0902edd92f71de2f8d316ab41bb7301db1c05ee9ff0a4f24ad228dea2"), looks := true }, kinds := [], alts := [], laidByText := true, laidKinds := [.data, .data, .data, .data], laidTests := true, laidLooks := .later }
def PhaseOfCardSaid : Prop := Claim7.holds Tryz.pinned (.plain (OpenSpec.ofChange phaseOfSpec)) phaseOfCard

/-- THE TIED CARD OF 'relucertlaw27.ProgramText'. -/
def programTextCard : Claim7 := { stood := { row := programTextRow, standIns := [], harness := (true, "b8b9e2e0902edd92f71de2f8d316ab41bb7301db1c05ee9ff0a4f24ad228dea2"), looks := true }, kinds := [], alts := [], laidByText := true, laidKinds := [.data, .data, .data], laidTests := true, laidLooks := .later }
def ProgramTextCardSaid : Prop := Claim7.holds Tryz.pinned (.plain (OpenSpec.ofChange programTextSpec)) programTextCard

/-- THE TIED CARD OF 'relucertlaw31.FourierNormal'. -/
def fourierNormalCard : Claim7 := { stood := { row := fourierNormalRow, standIns := [], harness := (true, "b8b9e2e0902edd92f71de2f8d316ab41bb7301db1c05ee9ff0a4f24ad228dea2"), looks := true }, kinds := [], alts := [], laidByText := true, laidKinds := [.data, .data, .data], laidTests := true, laidLooks := .later }
def FourierNormalCardSaid : Prop := Claim7.holds Tryz.pinned (.plain (OpenSpec.ofChange fourierNormalSpec)) fourierNormalCard

/-- THE TIED CARD OF 'relucertlaw31.FourierEliminateMatchesReference'. -/
def fourierEliminateMatchesReferenceCard : Claim7 := { stood := { row := fourierEliminateMatchesReferenceRow, standIns := [], harness := (true, "b8b9e2e0902edd92f71de2f8d316ab41bb7301db1c05ee9ff0a4f24ad228dea2"), looks := true }, kinds := [], alts := [], laidByText := true, laidKinds := [.data, .data, .data], laidTests := true, laidLooks := .later }
def FourierEliminateMatchesReferenceCardSaid : Prop := Claim7.holds Tryz.pinned (.plain (OpenSpec.ofChange fourierEliminateMatchesReferenceSpec)) fourierEliminateMatchesReferenceCard

/-- THE TIED CARD OF 'relucertlaw31.FourierProjects'. -/
def fourierProjectsCard : Claim7 := { stood := { row := fourierProjectsRow, standIns := [], harness := (true, "b8b9e2e0902edd92f71de2f8d316ab41bb7301db1c05ee9ff0a4f24ad228dea2"), looks := true }, kinds := [], alts := [], laidByText := true, laidKinds := [.data, .data, .data], laidTests := true, laidLooks := .later }
def FourierProjectsCardSaid : Prop := Claim7.holds Tryz.pinned (.plain (OpenSpec.ofChange fourierProjectsSpec)) fourierProjectsCard

/-- THE TIED CARD OF 'relucertlaw31.FourierFeasible'. -/
def fourierFeasibleCard : Claim7 := { stood := { row := fourierFeasibleRow, standIns := [], harness := (true, "b8b9e2e0902edd92f71de2f8d316ab41bb7301db1c05ee9ff0a4f24ad228dea2"), looks := true }, kinds := [], alts := [], laidByText := true, laidKinds := [.data, .data, .data], laidTests := true, laidLooks := .later }
def FourierFeasibleCardSaid : Prop := Claim7.holds Tryz.pinned (.plain (OpenSpec.ofChange fourierFeasibleSpec)) fourierFeasibleCard

/-- THE TIED CARD OF 'relucertlaw31.FourierMinMatchesReference'. -/
def fourierMinMatchesReferenceCard : Claim7 := { stood := { row := fourierMinMatchesReferenceRow, standIns := [], harness := (true, "b8b9e2e0902edd92f71de2f8d316ab41bb7301db1c05ee9ff0a4f24ad228dea2"), looks := true }, kinds := [], alts := [], laidByText := true, laidKinds := [.data, .data, .data], laidTests := true, laidLooks := .later }
def FourierMinMatchesReferenceCardSaid : Prop := Claim7.holds Tryz.pinned (.plain (OpenSpec.ofChange fourierMinMatchesReferenceSpec)) fourierMinMatchesReferenceCard

/-- THE TIED CARD OF 'relucertlaw31.FourierIsSimplex'. -/
def fourierIsSimplexCard : Claim7 := { stood := { row := fourierIsSimplexRow, standIns := [], harness := (true, "b8b9e2e0902edd92f71de2f8d316ab41bb7301db1c05ee9ff0a4f24ad228dea2"), looks := true }, kinds := [], alts := [], laidByText := true, laidKinds := [.data, .data, .data], laidTests := true, laidLooks := .later }
def FourierIsSimplexCardSaid : Prop := Claim7.holds Tryz.pinned (.plain (OpenSpec.ofChange fourierIsSimplexSpec)) fourierIsSimplexCard

/-- THE TIED CARD OF 'relucertlaw34.PhaseText'. -/
def phaseTextCard : Claim7 := { stood := { row := phaseTextRow, standIns := [], harness := (true, "b8b9e2e0902edd92f71de2f8d316ab41bb7301db1c05ee9ff0a4f24ad228dea2"), looks := true }, kinds := [], alts := [], laidByText := true, laidKinds := [.data, .data, .data, .data, .sentinel, .sentinel, .data, .pinned], laidTests := true, laidLooks := .later }
def PhaseTextCardSaid : Prop := Claim7.holds Tryz.pinned (.plain (OpenSpec.ofChange phaseTextSpec)) phaseTextCard

/-- THE TIED CARD OF 'relucertlaw34.PhaseParse'. -/
def phaseParseCard : Claim7 := { stood := { row := phaseParseRow, standIns := [], harness := (true, "b8b9e2e0902edd92f71de2f8d316ab41bb7301db1c05ee9ff0a4f24ad228dea2"), looks := true }, kinds := [], alts := [], laidByText := true, laidKinds := [.data, .data, .data, .data, .sentinel, .sentinel, .data, .pinned], laidTests := true, laidLooks := .later }
def PhaseParseCardSaid : Prop := Claim7.holds Tryz.pinned (.plain (OpenSpec.ofChange phaseParseSpec)) phaseParseCard

/-- THE SECOND FORM's CARD OF 'relucertlaw34.PhaseOf'. -/
def phaseOfUptoCard : Claim7 := { stood := { row := phaseOfUptoRow, standIns := [], harness := (true, "b8b9e2e0902edd92f71de2f8d316ab41bb7301db1c05ee9ff0a4f24ad228dea2"), looks := true }, kinds := [], alts := [], laidByText := true, laidKinds := [.data, .data, .data, .data], laidTests := true, laidLooks := .later }
def PhaseOfUptoCardSaid : Prop := Claim7.holds Tryz.pinned (.plain (OpenSpec.upto phaseOfSpec)) phaseOfUptoCard

/-- THE SECOND FORM's CARD OF 'relucertlaw27.ProgramText'. -/
def programTextUptoCard : Claim7 := { stood := { row := programTextUptoRow, standIns := [], harness := (true, "b8b9e2e0902edd92f71de2f8d316ab41bb7301db1c05ee9ff0a4f24ad228dea2"), looks := true }, kinds := [], alts := [], laidByText := true, laidKinds := [.data, .data, .data], laidTests := true, laidLooks := .later }
def ProgramTextUptoCardSaid : Prop := Claim7.holds Tryz.pinned (.plain (OpenSpec.upto programTextSpec)) programTextUptoCard

/-- THE SECOND FORM's CARD OF 'relucertlaw31.FourierNormal'. -/
def fourierNormalUptoCard : Claim7 := { stood := { row := fourierNormalUptoRow, standIns := [], harness := (true, "b8b9e2e0902edd92f71de2f8d316ab41bb7301db1c05ee9ff0a4f24ad228dea2"), looks := true }, kinds := [], alts := [], laidByText := true, laidKinds := [.data, .data, .data], laidTests := true, laidLooks := .later }
def FourierNormalUptoCardSaid : Prop := Claim7.holds Tryz.pinned (.plain (OpenSpec.upto fourierNormalSpec)) fourierNormalUptoCard

/-- THE SECOND FORM's CARD OF 'relucertlaw31.FourierEliminateMatchesReference'. -/
def fourierEliminateMatchesReferenceUptoCard : Claim7 := { stood := { row := fourierEliminateMatchesReferenceUptoRow, standIns := [], harness := (true, "b8b9e2e0902edd92f71de2f8d316ab41bb7301db1c05ee9ff0a4f24ad228dea2"), looks := true }, kinds := [], alts := [], laidByText := true, laidKinds := [.data, .data, .data], laidTests := true, laidLooks := .later }
def FourierEliminateMatchesReferenceUptoCardSaid : Prop := Claim7.holds Tryz.pinned (.plain (OpenSpec.upto fourierEliminateMatchesReferenceSpec)) fourierEliminateMatchesReferenceUptoCard

/-- THE SECOND FORM's CARD OF 'relucertlaw31.FourierProjects'. -/
def fourierProjectsUptoCard : Claim7 := { stood := { row := fourierProjectsUptoRow, standIns := [], harness := (true, "b8b9e2e0902edd92f71de2f8d316ab41bb7301db1c05ee9ff0a4f24ad228dea2"), looks := true }, kinds := [], alts := [], laidByText := true, laidKinds := [.data, .data, .data], laidTests := true, laidLooks := .later }
def FourierProjectsUptoCardSaid : Prop := Claim7.holds Tryz.pinned (.plain (OpenSpec.upto fourierProjectsSpec)) fourierProjectsUptoCard

/-- THE SECOND FORM's CARD OF 'relucertlaw31.FourierFeasible'. -/
def fourierFeasibleUptoCard : Claim7 := { stood := { row := fourierFeasibleUptoRow, standIns := [], harness := (true, "b8b9e2e0902edd92f71de2f8d316ab41bb7301db1c05ee9ff0a4f24ad228dea2"), looks := true }, kinds := [], alts := [], laidByText := true, laidKinds := [.data, .data, .data], laidTests := true, laidLooks := .later }
def FourierFeasibleUptoCardSaid : Prop := Claim7.holds Tryz.pinned (.plain (OpenSpec.upto fourierFeasibleSpec)) fourierFeasibleUptoCard

/-- THE SECOND FORM's CARD OF 'relucertlaw31.FourierMinMatchesReference'. -/
def fourierMinMatchesReferenceUptoCard : Claim7 := { stood := { row := fourierMinMatchesReferenceUptoRow, standIns := [], harness := (true, "b8b9e2e0902edd92f71de2f8d316ab41bb7301db1c05ee9ff0a4f24ad228dea2"), looks := true }, kinds := [], alts := [], laidByText := true, laidKinds := [.data, .data, .data], laidTests := true, laidLooks := .later }
def FourierMinMatchesReferenceUptoCardSaid : Prop := Claim7.holds Tryz.pinned (.plain (OpenSpec.upto fourierMinMatchesReferenceSpec)) fourierMinMatchesReferenceUptoCard

/-- THE SECOND FORM's CARD OF 'relucertlaw31.FourierIsSimplex'. -/
def fourierIsSimplexUptoCard : Claim7 := { stood := { row := fourierIsSimplexUptoRow, standIns := [], harness := (true, "b8b9e2e0902edd92f71de2f8d316ab41bb7301db1c05ee9ff0a4f24ad228dea2"), looks := true }, kinds := [], alts := [], laidByText := true, laidKinds := [.data, .data, .data], laidTests := true, laidLooks := .later }
def FourierIsSimplexUptoCardSaid : Prop := Claim7.holds Tryz.pinned (.plain (OpenSpec.upto fourierIsSimplexSpec)) fourierIsSimplexUptoCard

/-- THE SECOND FORM's CARD OF 'relucertlaw34.PhaseText'. -/
def phaseTextUptoCard : Claim7 := { stood := { row := phaseTextUptoRow, standIns := [], harness := (true, "b8b9e2e0902edd92f71de2f8d316ab41bb7301db1c05ee9ff0a4f24ad228dea2"), looks := true }, kinds := [], alts := [], laidByText := true, laidKinds := [.data, .data, .data, .data, .sentinel, .sentinel, .data, .pinned], laidTests := true, laidLooks := .later }
def PhaseTextUptoCardSaid : Prop := Claim7.holds Tryz.pinned (.plain (OpenSpec.upto phaseTextSpec)) phaseTextUptoCard

/-- THE SECOND FORM's CARD OF 'relucertlaw34.PhaseParse'. -/
def phaseParseUptoCard : Claim7 := { stood := { row := phaseParseUptoRow, standIns := [], harness := (true, "b8b9e2e0902edd92f71de2f8d316ab41bb7301db1c05ee9ff0a4f24ad228dea2"), looks := true }, kinds := [], alts := [], laidByText := true, laidKinds := [.data, .data, .data, .data, .sentinel, .sentinel, .data, .pinned], laidTests := true, laidLooks := .later }
def PhaseParseUptoCardSaid : Prop := Claim7.holds Tryz.pinned (.plain (OpenSpec.upto phaseParseSpec)) phaseParseUptoCard
end Rows
end Go.Proofs.YtkakmdadnhjphaaGreatDoor
