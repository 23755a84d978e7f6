/-
  DERIVED. GIVEN WITH THE SEED: THE CARDS: each row of YtefdjbknmfeooaaGreatDoorRows.lean that lists a variable, with what it lists TIED to the program's text (the seventh form; the later family's looks); each row that meets fmt, with fmt's text TOLD by the authors' own Lean function (tested against real Go, not proved from fmt's source: count such statements apart). THE CARD IS WHAT COUNTS. Prove the row's statement (the work); the ties are given (YtefdjbknmfeooaaGreatDoorTie.lean); close each card by the builder's one call (the guide's Derived/Test/ToyasCard.lean, 'card_holds'). Laid BY PROGRAM, IN A SANDBOX (cutbox-door.mjs). By AI agents, Wed Nov 11 2026. No macro, syntax, notation, axiom, sorry.
-/
import Derived.Test.YtefdjbknmfeooaaGreatDoorRows
import GoSem.ClaimSeven
namespace Go.Proofs.YtefdjbknmfeooaaGreatDoor
namespace Rows

/-- THE TIED CARD OF 'relucertlaw17.SimplifyConstants'. -/
def simplifyConstantsCard : Claim7 := { stood := { row := simplifyConstantsRow, standIns := [], harness := (true, "dae5cb418716b8297dc919a6fd31df10d3f0bdee211a3159ebb0d48be4613296"), looks := false }, kinds := [], alts := [], laidByText := true, laidKinds := [.data, .data, .data], laidTests := true, laidLooks := .later }
def SimplifyConstantsCardSaid : Prop := Claim7.holds Tryz.pinned (.plain (OpenSpec.ofChange simplifyConstantsSpec)) simplifyConstantsCard

/-- THE TIED CARD OF 'relucertlaw17.SimplifyAll'. -/
def simplifyAllCard : Claim7 := { stood := { row := simplifyAllRow, standIns := [], harness := (true, "dae5cb418716b8297dc919a6fd31df10d3f0bdee211a3159ebb0d48be4613296"), looks := false }, kinds := [], alts := [], laidByText := true, laidKinds := [.data, .data, .data], laidTests := true, laidLooks := .later }
def SimplifyAllCardSaid : Prop := Claim7.holds Tryz.pinned (.plain (OpenSpec.ofChange simplifyAllSpec)) simplifyAllCard

/-- THE TIED CARD OF 'relucertlaw17.SimplifyDuplicates'. -/
def simplifyDuplicatesCard : Claim7 := { stood := { row := simplifyDuplicatesRow, standIns := [], harness := (true, "dae5cb418716b8297dc919a6fd31df10d3f0bdee211a3159ebb0d48be4613296"), looks := false }, kinds := [], alts := [], laidByText := true, laidKinds := [.data, .data, .data], laidTests := true, laidLooks := .later }
def SimplifyDuplicatesCardSaid : Prop := Claim7.holds Tryz.pinned (.plain (OpenSpec.ofChange simplifyDuplicatesSpec)) simplifyDuplicatesCard

/-- THE TIED CARD OF 'relucertlaw17.SimplifyDead'. -/
def simplifyDeadCard : Claim7 := { stood := { row := simplifyDeadRow, standIns := [], harness := (true, "dae5cb418716b8297dc919a6fd31df10d3f0bdee211a3159ebb0d48be4613296"), looks := false }, kinds := [], alts := [], laidByText := true, laidKinds := [.data, .data, .data], laidTests := true, laidLooks := .later }
def SimplifyDeadCardSaid : Prop := Claim7.holds Tryz.pinned (.plain (OpenSpec.ofChange simplifyDeadSpec)) simplifyDeadCard

/-- THE TIED CARD OF 'relucertlaw17.SimplifyOutputs'. -/
def simplifyOutputsCard : Claim7 := { stood := { row := simplifyOutputsRow, standIns := [], harness := (true, "dae5cb418716b8297dc919a6fd31df10d3f0bdee211a3159ebb0d48be4613296"), looks := false }, kinds := [], alts := [], laidByText := true, laidKinds := [.data, .data, .data], laidTests := true, laidLooks := .later }
def SimplifyOutputsCardSaid : Prop := Claim7.holds Tryz.pinned (.plain (OpenSpec.ofChange simplifyOutputsSpec)) simplifyOutputsCard

/-- THE TIED CARD OF 'relucertlaw17.SimplifyComplete'. -/
def simplifyCompleteCard : Claim7 := { stood := { row := simplifyCompleteRow, standIns := [], harness := (true, "dae5cb418716b8297dc919a6fd31df10d3f0bdee211a3159ebb0d48be4613296"), looks := false }, kinds := [], alts := [], laidByText := true, laidKinds := [.data, .data, .data], laidTests := true, laidLooks := .later }
def SimplifyCompleteCardSaid : Prop := Claim7.holds Tryz.pinned (.plain (OpenSpec.ofChange simplifyCompleteSpec)) simplifyCompleteCard

/-- THE TIED CARD OF 'relucertlaw17.SimplifyUnchanged'. -/
def simplifyUnchangedCard : Claim7 := { stood := { row := simplifyUnchangedRow, standIns := [], harness := (true, "dae5cb418716b8297dc919a6fd31df10d3f0bdee211a3159ebb0d48be4613296"), looks := false }, kinds := [], alts := [], laidByText := true, laidKinds := [.data, .data, .data], laidTests := true, laidLooks := .later }
def SimplifyUnchangedCardSaid : Prop := Claim7.holds Tryz.pinned (.plain (OpenSpec.ofChange simplifyUnchangedSpec)) simplifyUnchangedCard

/-- THE SECOND FORM's CARD OF 'relucertlaw17.SimplifyConstants'. -/
def simplifyConstantsUptoCard : Claim7 := { stood := { row := simplifyConstantsUptoRow, standIns := [], harness := (true, "dae5cb418716b8297dc919a6fd31df10d3f0bdee211a3159ebb0d48be4613296"), looks := false }, kinds := [], alts := [], laidByText := true, laidKinds := [.data, .data, .data], laidTests := true, laidLooks := .later }
def SimplifyConstantsUptoCardSaid : Prop := Claim7.holds Tryz.pinned (.plain (OpenSpec.upto simplifyConstantsSpec)) simplifyConstantsUptoCard

/-- THE SECOND FORM's CARD OF 'relucertlaw17.SimplifyAll'. -/
def simplifyAllUptoCard : Claim7 := { stood := { row := simplifyAllUptoRow, standIns := [], harness := (true, "dae5cb418716b8297dc919a6fd31df10d3f0bdee211a3159ebb0d48be4613296"), looks := false }, kinds := [], alts := [], laidByText := true, laidKinds := [.data, .data, .data], laidTests := true, laidLooks := .later }
def SimplifyAllUptoCardSaid : Prop := Claim7.holds Tryz.pinned (.plain (OpenSpec.upto simplifyAllSpec)) simplifyAllUptoCard

/-- THE SECOND FORM's CARD OF 'relucertlaw17.SimplifyDuplicates'. -/
def simplifyDuplicatesUptoCard : Claim7 := { stood := { row := simplifyDuplicatesUptoRow, standIns := [], harness := (true, "dae5cb418716b8297dc919a6fd31df10d3f0bdee211a3159ebb0d48be4613296"), looks := false }, kinds := [], alts := [], laidByText := true, laidKinds := [.data, .data, .data], laidTests := true, laidLooks := .later }
def SimplifyDuplicatesUptoCardSaid : Prop := Claim7.holds Tryz.pinned (.plain (OpenSpec.upto simplifyDuplicatesSpec)) simplifyDuplicatesUptoCard

/-- THE SECOND FORM's CARD OF 'relucertlaw17.SimplifyDead'. -/
def simplifyDeadUptoCard : Claim7 := { stood := { row := simplifyDeadUptoRow, standIns := [], harness := (true, "dae5cb418716b8297dc919a6fd31df10d3f0bdee211a3159ebb0d48be4613296"), looks := false }, kinds := [], alts := [], laidByText := true, laidKinds := [.data, .data, .data], laidTests := true, laidLooks := .later }
def SimplifyDeadUptoCardSaid : Prop := Claim7.holds Tryz.pinned (.plain (OpenSpec.upto simplifyDeadSpec)) simplifyDeadUptoCard

/-- THE SECOND FORM's CARD OF 'relucertlaw17.SimplifyOutputs'. -/
def simplifyOutputsUptoCard : Claim7 := { stood := { row := simplifyOutputsUptoRow, standIns := [], harness := (true, "dae5cb418716b8297dc919a6fd31df10d3f0bdee211a3159ebb0d48be4613296"), looks := false }, kinds := [], alts := [], laidByText := true, laidKinds := [.data, .data, .data], laidTests := true, laidLooks := .later }
def SimplifyOutputsUptoCardSaid : Prop := Claim7.holds Tryz.pinned (.plain (OpenSpec.upto simplifyOutputsSpec)) simplifyOutputsUptoCard

/-- THE SECOND FORM's CARD OF 'relucertlaw17.SimplifyComplete'. -/
def simplifyCompleteUptoCard : Claim7 := { stood := { row := simplifyCompleteUptoRow, standIns := [], harness := (true, "dae5cb418716b8297dc919a6fd31df10d3f0bdee211a3159ebb0d48be4613296"), looks := false }, kinds := [], alts := [], laidByText := true, laidKinds := [.data, .data, .data], laidTests := true, laidLooks := .later }
def SimplifyCompleteUptoCardSaid : Prop := Claim7.holds Tryz.pinned (.plain (OpenSpec.upto simplifyCompleteSpec)) simplifyCompleteUptoCard

/-- THE SECOND FORM's CARD OF 'relucertlaw17.SimplifyUnchanged'. -/
def simplifyUnchangedUptoCard : Claim7 := { stood := { row := simplifyUnchangedUptoRow, standIns := [], harness := (true, "dae5cb418716b8297dc919a6fd31df10d3f0bdee211a3159ebb0d48be4613296"), looks := false }, kinds := [], alts := [], laidByText := true, laidKinds := [.data, .data, .data], laidTests := true, laidLooks := .later }
def SimplifyUnchangedUptoCardSaid : Prop := Claim7.holds Tryz.pinned (.plain (OpenSpec.upto simplifyUnchangedSpec)) simplifyUnchangedUptoCard
end Rows
end Go.Proofs.YtefdjbknmfeooaaGreatDoor
