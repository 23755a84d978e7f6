/-
  DERIVED. GIVEN WITH THE SEED: THE CARDS: each row of YtnegdhjdienjlaaGreatDoorRows.lean that lists a variable, with what it lists TIED to the program's text (the seventh form; the later family's looks); each row that meets fmt, with fmt's text TOLD by the authors' own Lean function (tested against real Go, not proved from fmt's source: count such statements apart). THE CARD IS WHAT COUNTS. Prove the row's statement (the work); the ties are given (YtnegdhjdienjlaaGreatDoorTie.lean); close each card by the builder's one call (the guide's Derived/Test/ToyasCard.lean, 'card_holds'). Laid BY PROGRAM, IN A SANDBOX (cutbox-door.mjs). By AI agents, Wed Nov 11 2026. No macro, syntax, notation, axiom, sorry.
-/
import Derived.Test.YtnegdhjdienjlaaGreatDoorRows
import GoSem.ClaimSeven
namespace Go.Proofs.YtnegdhjdienjlaaGreatDoor
namespace Rows

/-- THE TIED CARD OF 'relucertlaw34.PhaseText'. -/
def phaseTextCard : Claim7 := { stood := { row := phaseTextRow, standIns := [], harness := (true, "a6d22597e403b3f07856909fc3ebcaae93d02751a7cc7938301325da30a62a2a"), looks := true }, kinds := [], alts := [], laidByText := true, laidKinds := [.data, .data, .data, .data, .sentinel, .sentinel, .data, .pinned], laidTests := true, laidLooks := .later }
def PhaseTextCardSaid : Prop := Claim7.holds Tryz.pinned (.plain (OpenSpec.ofChange phaseTextSpec)) phaseTextCard

/-- THE TIED CARD OF 'relucertlaw34.PhaseParse'. -/
def phaseParseCard : Claim7 := { stood := { row := phaseParseRow, standIns := [], harness := (true, "a6d22597e403b3f07856909fc3ebcaae93d02751a7cc7938301325da30a62a2a"), looks := true }, kinds := [], alts := [], laidByText := true, laidKinds := [.data, .data, .data, .data, .sentinel, .sentinel, .data, .pinned], laidTests := true, laidLooks := .later }
def PhaseParseCardSaid : Prop := Claim7.holds Tryz.pinned (.plain (OpenSpec.ofChange phaseParseSpec)) phaseParseCard

/-- THE TIED CARD OF 'relucertlaw20.ClaimText'. -/
def claimTextCard : Claim7 := { stood := { row := claimTextRow, standIns := [], harness := (true, "a6d22597e403b3f07856909fc3ebcaae93d02751a7cc7938301325da30a62a2a"), looks := true }, kinds := [], alts := [], laidByText := true, laidKinds := [.data, .data, .data, .data, .sentinel, .sentinel, .pinned], laidTests := true, laidLooks := .later }
def ClaimTextCardSaid : Prop := Claim7.holds Tryz.pinned (.plain (OpenSpec.ofChange claimTextSpec)) claimTextCard

/-- THE TIED CARD OF 'relucertlaw20.ClaimParse'. -/
def claimParseCard : Claim7 := { stood := { row := claimParseRow, standIns := [], harness := (true, "a6d22597e403b3f07856909fc3ebcaae93d02751a7cc7938301325da30a62a2a"), looks := true }, kinds := [], alts := [], laidByText := true, laidKinds := [.data, .data, .data, .data, .sentinel, .sentinel, .pinned], laidTests := true, laidLooks := .later }
def ClaimParseCardSaid : Prop := Claim7.holds Tryz.pinned (.plain (OpenSpec.ofChange claimParseSpec)) claimParseCard

/-- THE SECOND FORM's CARD OF 'relucertlaw34.PhaseText'. -/
def phaseTextUptoCard : Claim7 := { stood := { row := phaseTextUptoRow, standIns := [], harness := (true, "a6d22597e403b3f07856909fc3ebcaae93d02751a7cc7938301325da30a62a2a"), looks := true }, kinds := [], alts := [], laidByText := true, laidKinds := [.data, .data, .data, .data, .sentinel, .sentinel, .data, .pinned], laidTests := true, laidLooks := .later }
def PhaseTextUptoCardSaid : Prop := Claim7.holds Tryz.pinned (.plain (OpenSpec.upto phaseTextSpec)) phaseTextUptoCard

/-- THE SECOND FORM's CARD OF 'relucertlaw34.PhaseParse'. -/
def phaseParseUptoCard : Claim7 := { stood := { row := phaseParseUptoRow, standIns := [], harness := (true, "a6d22597e403b3f07856909fc3ebcaae93d02751a7cc7938301325da30a62a2a"), looks := true }, kinds := [], alts := [], laidByText := true, laidKinds := [.data, .data, .data, .data, .sentinel, .sentinel, .data, .pinned], laidTests := true, laidLooks := .later }
def PhaseParseUptoCardSaid : Prop := Claim7.holds Tryz.pinned (.plain (OpenSpec.upto phaseParseSpec)) phaseParseUptoCard

/-- THE SECOND FORM's CARD OF 'relucertlaw20.ClaimText'. -/
def claimTextUptoCard : Claim7 := { stood := { row := claimTextUptoRow, standIns := [], harness := (true, "a6d22597e403b3f07856909fc3ebcaae93d02751a7cc7938301325da30a62a2a"), looks := true }, kinds := [], alts := [], laidByText := true, laidKinds := [.data, .data, .data, .data, .sentinel, .sentinel, .pinned], laidTests := true, laidLooks := .later }
def ClaimTextUptoCardSaid : Prop := Claim7.holds Tryz.pinned (.plain (OpenSpec.upto claimTextSpec)) claimTextUptoCard

/-- THE SECOND FORM's CARD OF 'relucertlaw20.ClaimParse'. -/
def claimParseUptoCard : Claim7 := { stood := { row := claimParseUptoRow, standIns := [], harness := (true, "a6d22597e403b3f07856909fc3ebcaae93d02751a7cc7938301325da30a62a2a"), looks := true }, kinds := [], alts := [], laidByText := true, laidKinds := [.data, .data, .data, .data, .sentinel, .sentinel, .pinned], laidTests := true, laidLooks := .later }
def ClaimParseUptoCardSaid : Prop := Claim7.holds Tryz.pinned (.plain (OpenSpec.upto claimParseSpec)) claimParseUptoCard
end Rows
end Go.Proofs.YtnegdhjdienjlaaGreatDoor
