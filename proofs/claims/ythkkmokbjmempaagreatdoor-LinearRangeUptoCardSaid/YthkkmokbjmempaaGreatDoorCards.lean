/-
  DERIVED. GIVEN WITH THE SEED: THE CARDS: each row of YthkkmokbjmempaaGreatDoorRows.lean that lists a variable, with what it lists TIED to the program's text (the seventh form; the later family's looks); each row that meets fmt, with fmt's text TOLD by the authors' own Lean function (tested against real Go, not proved from fmt's source: count such statements apart). THE CARD IS WHAT COUNTS. Prove the row's statement (the work); the ties are given (YthkkmokbjmempaaGreatDoorTie.lean); close each card by the builder's one call (the guide's Derived/Test/ToyasCard.lean, 'card_holds'). Laid BY PROGRAM, IN A SANDBOX (cutbox-door.mjs). By AI agents, Wed Nov 11 2026. No macro, syntax, notation, axiom, sorry.
-/
import Derived.Test.YthkkmokbjmempaaGreatDoorRows
import GoSem.ClaimSeven
namespace Go.Proofs.YthkkmokbjmempaaGreatDoor
namespace Rows

/-- THE TIED CARD OF 'relucertlaw27.ProgramText'. -/
def programTextCard : Claim7 := { stood := { row := programTextRow, standIns := [], harness := (true, "a7192763c1420e6f4d9c32de63078626c1f72a8bf69ce3aec0a3822f21396ca6"), looks := true }, kinds := [], alts := [], laidByText := true, laidKinds := [.data, .data, .data], laidTests := true, laidLooks := .later }
def ProgramTextCardSaid : Prop := Claim7.holds Tryz.pinned (.plain (OpenSpec.ofChange programTextSpec)) programTextCard

/-- THE TIED CARD OF 'relucertlaw07.LinearText'. -/
def linearTextCard : Claim7 := { stood := { row := linearTextRow, standIns := [], harness := (true, "a7192763c1420e6f4d9c32de63078626c1f72a8bf69ce3aec0a3822f21396ca6"), looks := true }, kinds := [], alts := [], laidByText := true, laidKinds := [.data, .data, .data, .sentinel, .sentinel], laidTests := true, laidLooks := .later }
def LinearTextCardSaid : Prop := Claim7.holds Tryz.pinned (.plain (OpenSpec.ofChange linearTextSpec)) linearTextCard

/-- THE TIED CARD OF 'relucertlaw07.LinearParse'. -/
def linearParseCard : Claim7 := { stood := { row := linearParseRow, standIns := [], harness := (true, "a7192763c1420e6f4d9c32de63078626c1f72a8bf69ce3aec0a3822f21396ca6"), looks := true }, kinds := [], alts := [], laidByText := true, laidKinds := [.data, .data, .data, .sentinel, .sentinel], laidTests := true, laidLooks := .later }
def LinearParseCardSaid : Prop := Claim7.holds Tryz.pinned (.plain (OpenSpec.ofChange linearParseSpec)) linearParseCard

/-- THE TIED CARD OF 'relucertlaw07.LinearSubstitute'. -/
def linearSubstituteCard : Claim7 := { stood := { row := linearSubstituteRow, standIns := [], harness := (true, "a7192763c1420e6f4d9c32de63078626c1f72a8bf69ce3aec0a3822f21396ca6"), looks := true }, kinds := [], alts := [], laidByText := true, laidKinds := [.data, .data, .data, .sentinel, .sentinel], laidTests := true, laidLooks := .later }
def LinearSubstituteCardSaid : Prop := Claim7.holds Tryz.pinned (.plain (OpenSpec.ofChange linearSubstituteSpec)) linearSubstituteCard

/-- THE TIED CARD OF 'relucertlaw07.LinearAdd'. -/
def linearAddCard : Claim7 := { stood := { row := linearAddRow, standIns := [], harness := (true, "a7192763c1420e6f4d9c32de63078626c1f72a8bf69ce3aec0a3822f21396ca6"), looks := true }, kinds := [], alts := [], laidByText := true, laidKinds := [.data, .data, .data, .sentinel, .sentinel], laidTests := true, laidLooks := .later }
def LinearAddCardSaid : Prop := Claim7.holds Tryz.pinned (.plain (OpenSpec.ofChange linearAddSpec)) linearAddCard

/-- THE TIED CARD OF 'relucertlaw07.LinearScale'. -/
def linearScaleCard : Claim7 := { stood := { row := linearScaleRow, standIns := [], harness := (true, "a7192763c1420e6f4d9c32de63078626c1f72a8bf69ce3aec0a3822f21396ca6"), looks := true }, kinds := [], alts := [], laidByText := true, laidKinds := [.data, .data, .data, .sentinel, .sentinel], laidTests := true, laidLooks := .later }
def LinearScaleCardSaid : Prop := Claim7.holds Tryz.pinned (.plain (OpenSpec.ofChange linearScaleSpec)) linearScaleCard

/-- THE TIED CARD OF 'relucertlaw07.LinearRange'. -/
def linearRangeCard : Claim7 := { stood := { row := linearRangeRow, standIns := [], harness := (true, "a7192763c1420e6f4d9c32de63078626c1f72a8bf69ce3aec0a3822f21396ca6"), looks := true }, kinds := [], alts := [], laidByText := true, laidKinds := [.data, .data, .data, .sentinel, .sentinel], laidTests := true, laidLooks := .later }
def LinearRangeCardSaid : Prop := Claim7.holds Tryz.pinned (.plain (OpenSpec.ofChange linearRangeSpec)) linearRangeCard

/-- THE TIED CARD OF 'relucertlaw07.LinearEval'. -/
def linearEvalCard : Claim7 := { stood := { row := linearEvalRow, standIns := [], harness := (true, "a7192763c1420e6f4d9c32de63078626c1f72a8bf69ce3aec0a3822f21396ca6"), looks := true }, kinds := [], alts := [], laidByText := true, laidKinds := [.data, .data, .data, .sentinel, .sentinel], laidTests := true, laidLooks := .later }
def LinearEvalCardSaid : Prop := Claim7.holds Tryz.pinned (.plain (OpenSpec.ofChange linearEvalSpec)) linearEvalCard

/-- THE TIED CARD OF 'relucertlaw07.LinearMake'. -/
def linearMakeCard : Claim7 := { stood := { row := linearMakeRow, standIns := [], harness := (true, "a7192763c1420e6f4d9c32de63078626c1f72a8bf69ce3aec0a3822f21396ca6"), looks := true }, kinds := [], alts := [], laidByText := true, laidKinds := [.data, .data, .data, .sentinel, .sentinel], laidTests := true, laidLooks := .later }
def LinearMakeCardSaid : Prop := Claim7.holds Tryz.pinned (.plain (OpenSpec.ofChange linearMakeSpec)) linearMakeCard

/-- THE SECOND FORM's CARD OF 'relucertlaw27.ProgramText'. -/
def programTextUptoCard : Claim7 := { stood := { row := programTextUptoRow, standIns := [], harness := (true, "a7192763c1420e6f4d9c32de63078626c1f72a8bf69ce3aec0a3822f21396ca6"), looks := true }, kinds := [], alts := [], laidByText := true, laidKinds := [.data, .data, .data], laidTests := true, laidLooks := .later }
def ProgramTextUptoCardSaid : Prop := Claim7.holds Tryz.pinned (.plain (OpenSpec.upto programTextSpec)) programTextUptoCard

/-- THE SECOND FORM's CARD OF 'relucertlaw07.LinearText'. -/
def linearTextUptoCard : Claim7 := { stood := { row := linearTextUptoRow, standIns := [], harness := (true, "a7192763c1420e6f4d9c32de63078626c1f72a8bf69ce3aec0a3822f21396ca6"), looks := true }, kinds := [], alts := [], laidByText := true, laidKinds := [.data, .data, .data, .sentinel, .sentinel], laidTests := true, laidLooks := .later }
def LinearTextUptoCardSaid : Prop := Claim7.holds Tryz.pinned (.plain (OpenSpec.upto linearTextSpec)) linearTextUptoCard

/-- THE SECOND FORM's CARD OF 'relucertlaw07.LinearParse'. -/
def linearParseUptoCard : Claim7 := { stood := { row := linearParseUptoRow, standIns := [], harness := (true, "a7192763c1420e6f4d9c32de63078626c1f72a8bf69ce3aec0a3822f21396ca6"), looks := true }, kinds := [], alts := [], laidByText := true, laidKinds := [.data, .data, .data, .sentinel, .sentinel], laidTests := true, laidLooks := .later }
def LinearParseUptoCardSaid : Prop := Claim7.holds Tryz.pinned (.plain (OpenSpec.upto linearParseSpec)) linearParseUptoCard

/-- THE SECOND FORM's CARD OF 'relucertlaw07.LinearSubstitute'. -/
def linearSubstituteUptoCard : Claim7 := { stood := { row := linearSubstituteUptoRow, standIns := [], harness := (true, "a7192763c1420e6f4d9c32de63078626c1f72a8bf69ce3aec0a3822f21396ca6"), looks := true }, kinds := [], alts := [], laidByText := true, laidKinds := [.data, .data, .data, .sentinel, .sentinel], laidTests := true, laidLooks := .later }
def LinearSubstituteUptoCardSaid : Prop := Claim7.holds Tryz.pinned (.plain (OpenSpec.upto linearSubstituteSpec)) linearSubstituteUptoCard

/-- THE SECOND FORM's CARD OF 'relucertlaw07.LinearAdd'. -/
def linearAddUptoCard : Claim7 := { stood := { row := linearAddUptoRow, standIns := [], harness := (true, "a7192763c1420e6f4d9c32de63078626c1f72a8bf69ce3aec0a3822f21396ca6"), looks := true }, kinds := [], alts := [], laidByText := true, laidKinds := [.data, .data, .data, .sentinel, .sentinel], laidTests := true, laidLooks := .later }
def LinearAddUptoCardSaid : Prop := Claim7.holds Tryz.pinned (.plain (OpenSpec.upto linearAddSpec)) linearAddUptoCard

/-- THE SECOND FORM's CARD OF 'relucertlaw07.LinearScale'. -/
def linearScaleUptoCard : Claim7 := { stood := { row := linearScaleUptoRow, standIns := [], harness := (true, "a7192763c1420e6f4d9c32de63078626c1f72a8bf69ce3aec0a3822f21396ca6"), looks := true }, kinds := [], alts := [], laidByText := true, laidKinds := [.data, .data, .data, .sentinel, .sentinel], laidTests := true, laidLooks := .later }
def LinearScaleUptoCardSaid : Prop := Claim7.holds Tryz.pinned (.plain (OpenSpec.upto linearScaleSpec)) linearScaleUptoCard

/-- THE SECOND FORM's CARD OF 'relucertlaw07.LinearRange'. -/
def linearRangeUptoCard : Claim7 := { stood := { row := linearRangeUptoRow, standIns := [], harness := (true, "a7192763c1420e6f4d9c32de63078626c1f72a8bf69ce3aec0a3822f21396ca6"), looks := true }, kinds := [], alts := [], laidByText := true, laidKinds := [.data, .data, .data, .sentinel, .sentinel], laidTests := true, laidLooks := .later }
def LinearRangeUptoCardSaid : Prop := Claim7.holds Tryz.pinned (.plain (OpenSpec.upto linearRangeSpec)) linearRangeUptoCard

/-- THE SECOND FORM's CARD OF 'relucertlaw07.LinearEval'. -/
def linearEvalUptoCard : Claim7 := { stood := { row := linearEvalUptoRow, standIns := [], harness := (true, "a7192763c1420e6f4d9c32de63078626c1f72a8bf69ce3aec0a3822f21396ca6"), looks := true }, kinds := [], alts := [], laidByText := true, laidKinds := [.data, .data, .data, .sentinel, .sentinel], laidTests := true, laidLooks := .later }
def LinearEvalUptoCardSaid : Prop := Claim7.holds Tryz.pinned (.plain (OpenSpec.upto linearEvalSpec)) linearEvalUptoCard

/-- THE SECOND FORM's CARD OF 'relucertlaw07.LinearMake'. -/
def linearMakeUptoCard : Claim7 := { stood := { row := linearMakeUptoRow, standIns := [], harness := (true, "a7192763c1420e6f4d9c32de63078626c1f72a8bf69ce3aec0a3822f21396ca6"), looks := true }, kinds := [], alts := [], laidByText := true, laidKinds := [.data, .data, .data, .sentinel, .sentinel], laidTests := true, laidLooks := .later }
def LinearMakeUptoCardSaid : Prop := Claim7.holds Tryz.pinned (.plain (OpenSpec.upto linearMakeSpec)) linearMakeUptoCard
end Rows
end Go.Proofs.YthkkmokbjmempaaGreatDoor
