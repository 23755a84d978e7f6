/-
  DERIVED. GIVEN WITH THE SEED: THE CARDS: each row of YtlpmemelhlnfbaaGreatDoorRows.lean that lists a variable, with what it lists TIED to the program's text (the seventh form; the later family's looks); each row that meets fmt, with fmt's text TOLD by the authors' own Lean function (tested against real Go, not proved from fmt's source: count such statements apart). THE CARD IS WHAT COUNTS. Prove the row's statement (the work); the ties are given (YtlpmemelhlnfbaaGreatDoorTie.lean); close each card by the builder's one call (the guide's Derived/Test/ToyasCard.lean, 'card_holds'). Laid BY PROGRAM, IN A SANDBOX (cutbox-door.mjs). By AI agents, Wed Nov 11 2026. No macro, syntax, notation, axiom, sorry.
-/
import Derived.Test.YtlpmemelhlnfbaaGreatDoorRows
import GoSem.ClaimSeven
namespace Go.Proofs.YtlpmemelhlnfbaaGreatDoor
namespace Rows

/-- THE TIED CARD OF 'relucertlaw27.ProgramText'. -/
def programTextCard : Claim7 := { stood := { row := programTextRow, standIns := [], harness := (true, "80ba3c0fa2e4eab6b54a5bfda9f334b1af76bf6df78febca5c1888137f60b5a6"), looks := true }, kinds := [], alts := [], laidByText := true, laidKinds := [.data, .data, .data], laidTests := true, laidLooks := .later }
def ProgramTextCardSaid : Prop := Claim7.holds Tryz.pinned (.plain (OpenSpec.ofChange programTextSpec)) programTextCard

/-- THE TIED CARD OF 'relucertlaw15.GraphScale'. -/
def graphScaleCard : Claim7 := { stood := { row := graphScaleRow, standIns := [], harness := (true, "80ba3c0fa2e4eab6b54a5bfda9f334b1af76bf6df78febca5c1888137f60b5a6"), looks := true }, kinds := [], alts := [], laidByText := true, laidKinds := [.data, .data, .data], laidTests := true, laidLooks := .later }
def GraphScaleCardSaid : Prop := Claim7.holds Tryz.pinned (.plain (OpenSpec.ofChange graphScaleSpec)) graphScaleCard

/-- THE TIED CARD OF 'relucertlaw15.GraphText'. -/
def graphTextCard : Claim7 := { stood := { row := graphTextRow, standIns := [], harness := (true, "80ba3c0fa2e4eab6b54a5bfda9f334b1af76bf6df78febca5c1888137f60b5a6"), looks := true }, kinds := [], alts := [], laidByText := true, laidKinds := [.data, .data, .data], laidTests := true, laidLooks := .later }
def GraphTextCardSaid : Prop := Claim7.holds Tryz.pinned (.plain (OpenSpec.ofChange graphTextSpec)) graphTextCard

/-- THE TIED CARD OF 'relucertlaw15.GraphValues'. -/
def graphValuesCard : Claim7 := { stood := { row := graphValuesRow, standIns := [], harness := (true, "80ba3c0fa2e4eab6b54a5bfda9f334b1af76bf6df78febca5c1888137f60b5a6"), looks := true }, kinds := [], alts := [], laidByText := true, laidKinds := [.data, .data, .data], laidTests := true, laidLooks := .later }
def GraphValuesCardSaid : Prop := Claim7.holds Tryz.pinned (.plain (OpenSpec.ofChange graphValuesSpec)) graphValuesCard

/-- THE TIED CARD OF 'relucertlaw15.GraphUnits'. -/
def graphUnitsCard : Claim7 := { stood := { row := graphUnitsRow, standIns := [], harness := (true, "80ba3c0fa2e4eab6b54a5bfda9f334b1af76bf6df78febca5c1888137f60b5a6"), looks := true }, kinds := [], alts := [], laidByText := true, laidKinds := [.data, .data, .data], laidTests := true, laidLooks := .later }
def GraphUnitsCardSaid : Prop := Claim7.holds Tryz.pinned (.plain (OpenSpec.ofChange graphUnitsSpec)) graphUnitsCard

/-- THE TIED CARD OF 'relucertlaw15.GraphValid'. -/
def graphValidCard : Claim7 := { stood := { row := graphValidRow, standIns := [], harness := (true, "80ba3c0fa2e4eab6b54a5bfda9f334b1af76bf6df78febca5c1888137f60b5a6"), looks := true }, kinds := [], alts := [], laidByText := true, laidKinds := [.data, .data, .data], laidTests := true, laidLooks := .later }
def GraphValidCardSaid : Prop := Claim7.holds Tryz.pinned (.plain (OpenSpec.ofChange graphValidSpec)) graphValidCard

/-- THE TIED CARD OF 'relucertlaw15.GraphPermute'. -/
def graphPermuteCard : Claim7 := { stood := { row := graphPermuteRow, standIns := [], harness := (true, "80ba3c0fa2e4eab6b54a5bfda9f334b1af76bf6df78febca5c1888137f60b5a6"), looks := true }, kinds := [], alts := [], laidByText := true, laidKinds := [.data, .data, .data], laidTests := true, laidLooks := .later }
def GraphPermuteCardSaid : Prop := Claim7.holds Tryz.pinned (.plain (OpenSpec.ofChange graphPermuteSpec)) graphPermuteCard

/-- THE TIED CARD OF 'relucertlaw15.GraphHalve'. -/
def graphHalveCard : Claim7 := { stood := { row := graphHalveRow, standIns := [], harness := (true, "80ba3c0fa2e4eab6b54a5bfda9f334b1af76bf6df78febca5c1888137f60b5a6"), looks := true }, kinds := [], alts := [], laidByText := true, laidKinds := [.data, .data, .data], laidTests := true, laidLooks := .later }
def GraphHalveCardSaid : Prop := Claim7.holds Tryz.pinned (.plain (OpenSpec.ofChange graphHalveSpec)) graphHalveCard

/-- THE TIED CARD OF 'relucertlaw07.LinearText'. -/
def linearTextCard : Claim7 := { stood := { row := linearTextRow, standIns := [], harness := (true, "80ba3c0fa2e4eab6b54a5bfda9f334b1af76bf6df78febca5c1888137f60b5a6"), looks := true }, kinds := [], alts := [], laidByText := true, laidKinds := [.data, .data, .data, .sentinel, .sentinel], laidTests := true, laidLooks := .later }
def LinearTextCardSaid : Prop := Claim7.holds Tryz.pinned (.plain (OpenSpec.ofChange linearTextSpec)) linearTextCard

/-- THE TIED CARD OF 'relucertlaw07.LinearParse'. -/
def linearParseCard : Claim7 := { stood := { row := linearParseRow, standIns := [], harness := (true, "80ba3c0fa2e4eab6b54a5bfda9f334b1af76bf6df78febca5c1888137f60b5a6"), looks := true }, kinds := [], alts := [], laidByText := true, laidKinds := [.data, .data, .data, .sentinel, .sentinel], laidTests := true, laidLooks := .later }
def LinearParseCardSaid : Prop := Claim7.holds Tryz.pinned (.plain (OpenSpec.ofChange linearParseSpec)) linearParseCard

/-- THE TIED CARD OF 'relucertlaw07.LinearMake'. -/
def linearMakeCard : Claim7 := { stood := { row := linearMakeRow, standIns := [], harness := (true, "80ba3c0fa2e4eab6b54a5bfda9f334b1af76bf6df78febca5c1888137f60b5a6"), looks := true }, kinds := [], alts := [], laidByText := true, laidKinds := [.data, .data, .data, .sentinel, .sentinel], laidTests := true, laidLooks := .later }
def LinearMakeCardSaid : Prop := Claim7.holds Tryz.pinned (.plain (OpenSpec.ofChange linearMakeSpec)) linearMakeCard

/-- THE SECOND FORM's CARD OF 'relucertlaw27.ProgramText'. -/
def programTextUptoCard : Claim7 := { stood := { row := programTextUptoRow, standIns := [], harness := (true, "80ba3c0fa2e4eab6b54a5bfda9f334b1af76bf6df78febca5c1888137f60b5a6"), looks := true }, kinds := [], alts := [], laidByText := true, laidKinds := [.data, .data, .data], laidTests := true, laidLooks := .later }
def ProgramTextUptoCardSaid : Prop := Claim7.holds Tryz.pinned (.plain (OpenSpec.upto programTextSpec)) programTextUptoCard

/-- THE SECOND FORM's CARD OF 'relucertlaw15.GraphScale'. -/
def graphScaleUptoCard : Claim7 := { stood := { row := graphScaleUptoRow, standIns := [], harness := (true, "80ba3c0fa2e4eab6b54a5bfda9f334b1af76bf6df78febca5c1888137f60b5a6"), looks := true }, kinds := [], alts := [], laidByText := true, laidKinds := [.data, .data, .data], laidTests := true, laidLooks := .later }
def GraphScaleUptoCardSaid : Prop := Claim7.holds Tryz.pinned (.plain (OpenSpec.upto graphScaleSpec)) graphScaleUptoCard

/-- THE SECOND FORM's CARD OF 'relucertlaw15.GraphText'. -/
def graphTextUptoCard : Claim7 := { stood := { row := graphTextUptoRow, standIns := [], harness := (true, "80ba3c0fa2e4eab6b54a5bfda9f334b1af76bf6df78febca5c1888137f60b5a6"), looks := true }, kinds := [], alts := [], laidByText := true, laidKinds := [.data, .data, .data], laidTests := true, laidLooks := .later }
def GraphTextUptoCardSaid : Prop := Claim7.holds Tryz.pinned (.plain (OpenSpec.upto graphTextSpec)) graphTextUptoCard

/-- THE SECOND FORM's CARD OF 'relucertlaw15.GraphValues'. -/
def graphValuesUptoCard : Claim7 := { stood := { row := graphValuesUptoRow, standIns := [], harness := (true, "80ba3c0fa2e4eab6b54a5bfda9f334b1af76bf6df78febca5c1888137f60b5a6"), looks := true }, kinds := [], alts := [], laidByText := true, laidKinds := [.data, .data, .data], laidTests := true, laidLooks := .later }
def GraphValuesUptoCardSaid : Prop := Claim7.holds Tryz.pinned (.plain (OpenSpec.upto graphValuesSpec)) graphValuesUptoCard

/-- THE SECOND FORM's CARD OF 'relucertlaw15.GraphUnits'. -/
def graphUnitsUptoCard : Claim7 := { stood := { row := graphUnitsUptoRow, standIns := [], harness := (true, "80ba3c0fa2e4eab6b54a5bfda9f334b1af76bf6df78febca5c1888137f60b5a6"), looks := true }, kinds := [], alts := [], laidByText := true, laidKinds := [.data, .data, .data], laidTests := true, laidLooks := .later }
def GraphUnitsUptoCardSaid : Prop := Claim7.holds Tryz.pinned (.plain (OpenSpec.upto graphUnitsSpec)) graphUnitsUptoCard

/-- THE SECOND FORM's CARD OF 'relucertlaw15.GraphValid'. -/
def graphValidUptoCard : Claim7 := { stood := { row := graphValidUptoRow, standIns := [], harness := (true, "80ba3c0fa2e4eab6b54a5bfda9f334b1af76bf6df78febca5c1888137f60b5a6"), looks := true }, kinds := [], alts := [], laidByText := true, laidKinds := [.data, .data, .data], laidTests := true, laidLooks := .later }
def GraphValidUptoCardSaid : Prop := Claim7.holds Tryz.pinned (.plain (OpenSpec.upto graphValidSpec)) graphValidUptoCard

/-- THE SECOND FORM's CARD OF 'relucertlaw15.GraphPermute'. -/
def graphPermuteUptoCard : Claim7 := { stood := { row := graphPermuteUptoRow, standIns := [], harness := (true, "80ba3c0fa2e4eab6b54a5bfda9f334b1af76bf6df78febca5c1888137f60b5a6"), looks := true }, kinds := [], alts := [], laidByText := true, laidKinds := [.data, .data, .data], laidTests := true, laidLooks := .later }
def GraphPermuteUptoCardSaid : Prop := Claim7.holds Tryz.pinned (.plain (OpenSpec.upto graphPermuteSpec)) graphPermuteUptoCard

/-- THE SECOND FORM's CARD OF 'relucertlaw15.GraphHalve'. -/
def graphHalveUptoCard : Claim7 := { stood := { row := graphHalveUptoRow, standIns := [], harness := (true, "80ba3c0fa2e4eab6b54a5bfda9f334b1af76bf6df78febca5c1888137f60b5a6"), looks := true }, kinds := [], alts := [], laidByText := true, laidKinds := [.data, .data, .data], laidTests := true, laidLooks := .later }
def GraphHalveUptoCardSaid : Prop := Claim7.holds Tryz.pinned (.plain (OpenSpec.upto graphHalveSpec)) graphHalveUptoCard

/-- THE SECOND FORM's CARD OF 'relucertlaw07.LinearText'. -/
def linearTextUptoCard : Claim7 := { stood := { row := linearTextUptoRow, standIns := [], harness := (true, "80ba3c0fa2e4eab6b54a5bfda9f334b1af76bf6df78febca5c1888137f60b5a6"), looks := true }, kinds := [], alts := [], laidByText := true, laidKinds := [.data, .data, .data, .sentinel, .sentinel], laidTests := true, laidLooks := .later }
def LinearTextUptoCardSaid : Prop := Claim7.holds Tryz.pinned (.plain (OpenSpec.upto linearTextSpec)) linearTextUptoCard

/-- THE SECOND FORM's CARD OF 'relucertlaw07.LinearParse'. -/
def linearParseUptoCard : Claim7 := { stood := { row := linearParseUptoRow, standIns := [], harness := (true, "80ba3c0fa2e4eab6b54a5bfda9f334b1af76bf6df78febca5c1888137f60b5a6"), looks := true }, kinds := [], alts := [], laidByText := true, laidKinds := [.data, .data, .data, .sentinel, .sentinel], laidTests := true, laidLooks := .later }
def LinearParseUptoCardSaid : Prop := Claim7.holds Tryz.pinned (.plain (OpenSpec.upto linearParseSpec)) linearParseUptoCard

/-- THE SECOND FORM's CARD OF 'relucertlaw07.LinearMake'. -/
def linearMakeUptoCard : Claim7 := { stood := { row := linearMakeUptoRow, standIns := [], harness := (true, "80ba3c0fa2e4eab6b54a5bfda9f334b1af76bf6df78febca5c1888137f60b5a6"), looks := true }, kinds := [], alts := [], laidByText := true, laidKinds := [.data, .data, .data, .sentinel, .sentinel], laidTests := true, laidLooks := .later }
def LinearMakeUptoCardSaid : Prop := Claim7.holds Tryz.pinned (.plain (OpenSpec.upto linearMakeSpec)) linearMakeUptoCard
end Rows
end Go.Proofs.YtlpmemelhlnfbaaGreatDoor
