/-
  DERIVED. GIVEN WITH THE SEED: THE CARDS: each row of YtjpoanaoaeaneaaGreatDoorRows.lean that lists a variable, with what it lists TIED to the program's text (the seventh form; the later family's looks); each row that meets fmt, with fmt's text TOLD by the authors' own Lean function (tested against real Go, not proved from fmt's source: count such statements apart). THE CARD IS WHAT COUNTS. Prove the row's statement (the work); the ties are given (YtjpoanaoaeaneaaGreatDoorTie.lean); close each card by the builder's one call (the guide's Derived/Test/ToyasCard.lean, 'card_holds'). Laid BY PROGRAM, IN A SANDBOX (cutbox-door.mjs). By AI agents, Wed Nov 11 2026. No macro, syntax, notation, axiom, sorry.
-/
import Derived.Test.YtjpoanaoaeaneaaGreatDoorRows
import GoSem.ClaimSeven
namespace Go.Proofs.YtjpoanaoaeaneaaGreatDoor
namespace Rows

/-- THE TIED CARD OF 'relucertlaw07.LinearText'. -/
def linearTextCard : Claim7 := { stood := { row := linearTextRow, standIns := [], harness := (true, "8ab8ed89ea9a368bffba99a3141b3c60df67f82f9bc3a9089846b98ff8e6e1cd"), looks := true }, kinds := [], alts := [], laidByText := true, laidKinds := [.data, .data, .data, .sentinel, .sentinel], laidTests := true, laidLooks := .later }
def LinearTextCardSaid : Prop := Claim7.holds Tryz.pinned (.plain (OpenSpec.ofChange linearTextSpec)) linearTextCard

/-- THE TIED CARD OF 'relucertlaw07.LinearParse'. -/
def linearParseCard : Claim7 := { stood := { row := linearParseRow, standIns := [], harness := (true, "8ab8ed89ea9a368bffba99a3141b3c60df67f82f9bc3a9089846b98ff8e6e1cd"), looks := true }, kinds := [], alts := [], laidByText := true, laidKinds := [.data, .data, .data, .sentinel, .sentinel], laidTests := true, laidLooks := .later }
def LinearParseCardSaid : Prop := Claim7.holds Tryz.pinned (.plain (OpenSpec.ofChange linearParseSpec)) linearParseCard

/-- THE TIED CARD OF 'relucertlaw34.PhaseText'. -/
def phaseTextCard : Claim7 := { stood := { row := phaseTextRow, standIns := [], harness := (true, "8ab8ed89ea9a368bffba99a3141b3c60df67f82f9bc3a9089846b98ff8e6e1cd"), looks := true }, kinds := [], alts := [], laidByText := true, laidKinds := [.data, .data, .data, .data, .sentinel, .sentinel, .data, .pinned], laidTests := true, laidLooks := .later }
def PhaseTextCardSaid : Prop := Claim7.holds Tryz.pinned (.plain (OpenSpec.ofChange phaseTextSpec)) phaseTextCard

/-- THE TIED CARD OF 'relucertlaw34.PhaseParse'. -/
def phaseParseCard : Claim7 := { stood := { row := phaseParseRow, standIns := [], harness := (true, "8ab8ed89ea9a368bffba99a3141b3c60df67f82f9bc3a9089846b98ff8e6e1cd"), looks := true }, kinds := [], alts := [], laidByText := true, laidKinds := [.data, .data, .data, .data, .sentinel, .sentinel, .data, .pinned], laidTests := true, laidLooks := .later }
def PhaseParseCardSaid : Prop := Claim7.holds Tryz.pinned (.plain (OpenSpec.ofChange phaseParseSpec)) phaseParseCard

/-- THE TIED CARD OF 'relucertlaw07.LinearMake'. -/
def linearMakeCard : Claim7 := { stood := { row := linearMakeRow, standIns := [], harness := (true, "8ab8ed89ea9a368bffba99a3141b3c60df67f82f9bc3a9089846b98ff8e6e1cd"), looks := true }, kinds := [], alts := [], laidByText := true, laidKinds := [.data, .data, .data, .sentinel, .sentinel], laidTests := true, laidLooks := .later }
def LinearMakeCardSaid : Prop := Claim7.holds Tryz.pinned (.plain (OpenSpec.ofChange linearMakeSpec)) linearMakeCard

/-- THE TIED CARD OF 'relucertlaw20.ClaimGoals'. -/
def claimGoalsCard : Claim7 := { stood := { row := claimGoalsRow, standIns := [], harness := (true, "8ab8ed89ea9a368bffba99a3141b3c60df67f82f9bc3a9089846b98ff8e6e1cd"), looks := true }, kinds := [], alts := [], laidByText := true, laidKinds := [.data, .data, .data, .data, .sentinel, .sentinel, .pinned], laidTests := true, laidLooks := .later }
def ClaimGoalsCardSaid : Prop := Claim7.holds Tryz.pinned (.plain (OpenSpec.ofChange claimGoalsSpec)) claimGoalsCard

/-- THE TIED CARD OF 'relucertlaw20.ClaimHolds'. -/
def claimHoldsCard : Claim7 := { stood := { row := claimHoldsRow, standIns := [], harness := (true, "8ab8ed89ea9a368bffba99a3141b3c60df67f82f9bc3a9089846b98ff8e6e1cd"), looks := true }, kinds := [], alts := [], laidByText := true, laidKinds := [.data, .data, .data, .data, .sentinel, .sentinel, .pinned], laidTests := true, laidLooks := .later }
def ClaimHoldsCardSaid : Prop := Claim7.holds Tryz.pinned (.plain (OpenSpec.ofChange claimHoldsSpec)) claimHoldsCard

/-- THE TIED CARD OF 'relucertlaw20.ClaimMargin'. -/
def claimMarginCard : Claim7 := { stood := { row := claimMarginRow, standIns := [], harness := (true, "8ab8ed89ea9a368bffba99a3141b3c60df67f82f9bc3a9089846b98ff8e6e1cd"), looks := true }, kinds := [], alts := [], laidByText := true, laidKinds := [.data, .data, .data, .data, .sentinel, .sentinel, .pinned], laidTests := true, laidLooks := .later }
def ClaimMarginCardSaid : Prop := Claim7.holds Tryz.pinned (.plain (OpenSpec.ofChange claimMarginSpec)) claimMarginCard

/-- THE TIED CARD OF 'relucertlaw20.ClaimTop'. -/
def claimTopCard : Claim7 := { stood := { row := claimTopRow, standIns := [], harness := (true, "8ab8ed89ea9a368bffba99a3141b3c60df67f82f9bc3a9089846b98ff8e6e1cd"), looks := true }, kinds := [], alts := [], laidByText := true, laidKinds := [.data, .data, .data, .data, .sentinel, .sentinel, .pinned], laidTests := true, laidLooks := .later }
def ClaimTopCardSaid : Prop := Claim7.holds Tryz.pinned (.plain (OpenSpec.ofChange claimTopSpec)) claimTopCard

/-- THE TIED CARD OF 'relucertlaw20.ClaimText'. -/
def claimTextCard : Claim7 := { stood := { row := claimTextRow, standIns := [], harness := (true, "8ab8ed89ea9a368bffba99a3141b3c60df67f82f9bc3a9089846b98ff8e6e1cd"), looks := true }, kinds := [], alts := [], laidByText := true, laidKinds := [.data, .data, .data, .data, .sentinel, .sentinel, .pinned], laidTests := true, laidLooks := .later }
def ClaimTextCardSaid : Prop := Claim7.holds Tryz.pinned (.plain (OpenSpec.ofChange claimTextSpec)) claimTextCard

/-- THE TIED CARD OF 'relucertlaw20.ClaimParse'. -/
def claimParseCard : Claim7 := { stood := { row := claimParseRow, standIns := [], harness := (true, "8ab8ed89ea9a368bffba99a3141b3c60df67f82f9bc3a9089846b98ff8e6e1cd"), looks := true }, kinds := [], alts := [], laidByText := true, laidKinds := [.data, .data, .data, .data, .sentinel, .sentinel, .pinned], laidTests := true, laidLooks := .later }
def ClaimParseCardSaid : Prop := Claim7.holds Tryz.pinned (.plain (OpenSpec.ofChange claimParseSpec)) claimParseCard

/-- THE TIED CARD OF 'relucertlaw20.ClaimRows'. -/
def claimRowsCard : Claim7 := { stood := { row := claimRowsRow, standIns := [], harness := (true, "8ab8ed89ea9a368bffba99a3141b3c60df67f82f9bc3a9089846b98ff8e6e1cd"), looks := true }, kinds := [], alts := [], laidByText := true, laidKinds := [.data, .data, .data, .data, .sentinel, .sentinel, .pinned], laidTests := true, laidLooks := .later }
def ClaimRowsCardSaid : Prop := Claim7.holds Tryz.pinned (.plain (OpenSpec.ofChange claimRowsSpec)) claimRowsCard

/-- THE SECOND FORM's CARD OF 'relucertlaw07.LinearText'. -/
def linearTextUptoCard : Claim7 := { stood := { row := linearTextUptoRow, standIns := [], harness := (true, "8ab8ed89ea9a368bffba99a3141b3c60df67f82f9bc3a9089846b98ff8e6e1cd"), looks := true }, kinds := [], alts := [], laidByText := true, laidKinds := [.data, .data, .data, .sentinel, .sentinel], laidTests := true, laidLooks := .later }
def LinearTextUptoCardSaid : Prop := Claim7.holds Tryz.pinned (.plain (OpenSpec.upto linearTextSpec)) linearTextUptoCard

/-- THE SECOND FORM's CARD OF 'relucertlaw07.LinearParse'. -/
def linearParseUptoCard : Claim7 := { stood := { row := linearParseUptoRow, standIns := [], harness := (true, "8ab8ed89ea9a368bffba99a3141b3c60df67f82f9bc3a9089846b98ff8e6e1cd"), looks := true }, kinds := [], alts := [], laidByText := true, laidKinds := [.data, .data, .data, .sentinel, .sentinel], laidTests := true, laidLooks := .later }
def LinearParseUptoCardSaid : Prop := Claim7.holds Tryz.pinned (.plain (OpenSpec.upto linearParseSpec)) linearParseUptoCard

/-- THE SECOND FORM's CARD OF 'relucertlaw34.PhaseText'. -/
def phaseTextUptoCard : Claim7 := { stood := { row := phaseTextUptoRow, standIns := [], harness := (true, "8ab8ed89ea9a368bffba99a3141b3c60df67f82f9bc3a9089846b98ff8e6e1cd"), looks := true }, kinds := [], alts := [], laidByText := true, laidKinds := [.data, .data, .data, .data, .sentinel, .sentinel, .data, .pinned], laidTests := true, laidLooks := .later }
def PhaseTextUptoCardSaid : Prop := Claim7.holds Tryz.pinned (.plain (OpenSpec.upto phaseTextSpec)) phaseTextUptoCard

/-- THE SECOND FORM's CARD OF 'relucertlaw34.PhaseParse'. -/
def phaseParseUptoCard : Claim7 := { stood := { row := phaseParseUptoRow, standIns := [], harness := (true, "8ab8ed89ea9a368bffba99a3141b3c60df67f82f9bc3a9089846b98ff8e6e1cd"), looks := true }, kinds := [], alts := [], laidByText := true, laidKinds := [.data, .data, .data, .data, .sentinel, .sentinel, .data, .pinned], laidTests := true, laidLooks := .later }
def PhaseParseUptoCardSaid : Prop := Claim7.holds Tryz.pinned (.plain (OpenSpec.upto phaseParseSpec)) phaseParseUptoCard

/-- THE SECOND FORM's CARD OF 'relucertlaw07.LinearMake'. -/
def linearMakeUptoCard : Claim7 := { stood := { row := linearMakeUptoRow, standIns := [], harness := (true, "8ab8ed89ea9a368bffba99a3141b3c60df67f82f9bc3a9089846b98ff8e6e1cd"), looks := true }, kinds := [], alts := [], laidByText := true, laidKinds := [.data, .data, .data, .sentinel, .sentinel], laidTests := true, laidLooks := .later }
def LinearMakeUptoCardSaid : Prop := Claim7.holds Tryz.pinned (.plain (OpenSpec.upto linearMakeSpec)) linearMakeUptoCard

/-- THE SECOND FORM's CARD OF 'relucertlaw20.ClaimGoals'. -/
def claimGoalsUptoCard : Claim7 := { stood := { row := claimGoalsUptoRow, standIns := [], harness := (true, "8ab8ed89ea9a368bffba99a3141b3c60df67f82f9bc3a9089846b98ff8e6e1cd"), looks := true }, kinds := [], alts := [], laidByText := true, laidKinds := [.data, .data, .data, .data, .sentinel, .sentinel, .pinned], laidTests := true, laidLooks := .later }
def ClaimGoalsUptoCardSaid : Prop := Claim7.holds Tryz.pinned (.plain (OpenSpec.upto claimGoalsSpec)) claimGoalsUptoCard

/-- THE SECOND FORM's CARD OF 'relucertlaw20.ClaimHolds'. -/
def claimHoldsUptoCard : Claim7 := { stood := { row := claimHoldsUptoRow, standIns := [], harness := (true, "8ab8ed89ea9a368bffba99a3141b3c60df67f82f9bc3a9089846b98ff8e6e1cd"), looks := true }, kinds := [], alts := [], laidByText := true, laidKinds := [.data, .data, .data, .data, .sentinel, .sentinel, .pinned], laidTests := true, laidLooks := .later }
def ClaimHoldsUptoCardSaid : Prop := Claim7.holds Tryz.pinned (.plain (OpenSpec.upto claimHoldsSpec)) claimHoldsUptoCard

/-- THE SECOND FORM's CARD OF 'relucertlaw20.ClaimMargin'. -/
def claimMarginUptoCard : Claim7 := { stood := { row := claimMarginUptoRow, standIns := [], harness := (true, "8ab8ed89ea9a368bffba99a3141b3c60df67f82f9bc3a9089846b98ff8e6e1cd"), looks := true }, kinds := [], alts := [], laidByText := true, laidKinds := [.data, .data, .data, .data, .sentinel, .sentinel, .pinned], laidTests := true, laidLooks := .later }
def ClaimMarginUptoCardSaid : Prop := Claim7.holds Tryz.pinned (.plain (OpenSpec.upto claimMarginSpec)) claimMarginUptoCard

/-- THE SECOND FORM's CARD OF 'relucertlaw20.ClaimTop'. -/
def claimTopUptoCard : Claim7 := { stood := { row := claimTopUptoRow, standIns := [], harness := (true, "8ab8ed89ea9a368bffba99a3141b3c60df67f82f9bc3a9089846b98ff8e6e1cd"), looks := true }, kinds := [], alts := [], laidByText := true, laidKinds := [.data, .data, .data, .data, .sentinel, .sentinel, .pinned], laidTests := true, laidLooks := .later }
def ClaimTopUptoCardSaid : Prop := Claim7.holds Tryz.pinned (.plain (OpenSpec.upto claimTopSpec)) claimTopUptoCard

/-- THE SECOND FORM's CARD OF 'relucertlaw20.ClaimText'. -/
def claimTextUptoCard : Claim7 := { stood := { row := claimTextUptoRow, standIns := [], harness := (true, "8ab8ed89ea9a368bffba99a3141b3c60df67f82f9bc3a9089846b98ff8e6e1cd"), looks := true }, kinds := [], alts := [], laidByText := true, laidKinds := [.data, .data, .data, .data, .sentinel, .sentinel, .pinned], laidTests := true, laidLooks := .later }
def ClaimTextUptoCardSaid : Prop := Claim7.holds Tryz.pinned (.plain (OpenSpec.upto claimTextSpec)) claimTextUptoCard

/-- THE SECOND FORM's CARD OF 'relucertlaw20.ClaimParse'. -/
def claimParseUptoCard : Claim7 := { stood := { row := claimParseUptoRow, standIns := [], harness := (true, "8ab8ed89ea9a368bffba99a3141b3c60df67f82f9bc3a9089846b98ff8e6e1cd"), looks := true }, kinds := [], alts := [], laidByText := true, laidKinds := [.data, .data, .data, .data, .sentinel, .sentinel, .pinned], laidTests := true, laidLooks := .later }
def ClaimParseUptoCardSaid : Prop := Claim7.holds Tryz.pinned (.plain (OpenSpec.upto claimParseSpec)) claimParseUptoCard

/-- THE SECOND FORM's CARD OF 'relucertlaw20.ClaimRows'. -/
def claimRowsUptoCard : Claim7 := { stood := { row := claimRowsUptoRow, standIns := [], harness := (true, "8ab8ed89ea9a368bffba99a3141b3c60df67f82f9bc3a9089846b98ff8e6e1cd"), looks := true }, kinds := [], alts := [], laidByText := true, laidKinds := [.data, .data, .data, .data, .sentinel, .sentinel, .pinned], laidTests := true, laidLooks := .later }
def ClaimRowsUptoCardSaid : Prop := Claim7.holds Tryz.pinned (.plain (OpenSpec.upto claimRowsSpec)) claimRowsUptoCard
end Rows
end Go.Proofs.YtjpoanaoaeaneaaGreatDoor
