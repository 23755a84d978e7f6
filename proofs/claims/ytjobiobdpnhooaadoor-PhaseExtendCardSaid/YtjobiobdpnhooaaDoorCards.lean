/-
  DERIVED. GIVEN WITH THE SEED: THE CARDS: each row of YtjobiobdpnhooaaDoorRows.lean that lists a variable, with what it lists TIED to the program's text (the seventh form; the later family's looks); each row that meets fmt, with fmt's text TOLD by the authors' own Lean function (tested against real Go, not proved from fmt's source: count such statements apart). THE CARD IS WHAT COUNTS. Prove the row's statement (the work); the ties are given (YtjobiobdpnhooaaDoorTie.lean); close each card by the builder's one call (the guide's Derived/Test/ToyasCard.lean, 'card_holds'). Laid BY PROGRAM, IN A SANDBOX (cutbox-door.mjs). By AI agents, Wed Nov 11 2026. No macro, syntax, notation, axiom, sorry.
-/
import Derived.Test.YtjobiobdpnhooaaDoorRows
import GoSem.ClaimSeven
namespace Go.Proofs.YtjobiobdpnhooaaDoor
namespace Rows

/-- THE TIED CARD OF 'relucertlaw34.PhasePath'. -/
def phasePathCard : Claim7 := { stood := { row := phasePathRow, standIns := [], harness := (true, "1a30d7ca52591b8ef2fb426498c2e424117e77a27c7c8166142b0f2c96e106b8"), looks := false }, kinds := [], alts := [], laidByText := true, laidKinds := [.data, .data, .data, .data], laidTests := true, laidLooks := .later }
def PhasePathCardSaid : Prop := Claim7.holds Tryd.pinned (.plain (OpenSpec.ofChange phasePathSpec)) phasePathCard

/-- THE TIED CARD OF 'relucertlaw34.PhaseExtend'. -/
def phaseExtendCard : Claim7 := { stood := { row := phaseExtendRow, standIns := [], harness := (true, "1a30d7ca52591b8ef2fb426498c2e424117e77a27c7c8166142b0f2c96e106b8"), looks := false }, kinds := [], alts := [], laidByText := true, laidKinds := [.data, .data, .data, .data], laidTests := true, laidLooks := .later }
def PhaseExtendCardSaid : Prop := Claim7.holds Tryd.pinned (.plain (OpenSpec.ofChange phaseExtendSpec)) phaseExtendCard

/-- THE TIED CARD OF 'relucertlaw34.PhaseLong'. -/
def phaseLongCard : Claim7 := { stood := { row := phaseLongRow, standIns := [], harness := (true, "1a30d7ca52591b8ef2fb426498c2e424117e77a27c7c8166142b0f2c96e106b8"), looks := false }, kinds := [], alts := [], laidByText := true, laidKinds := [.data, .data, .data, .data], laidTests := true, laidLooks := .later }
def PhaseLongCardSaid : Prop := Claim7.holds Tryd.pinned (.plain (OpenSpec.ofChange phaseLongSpec)) phaseLongCard

/-- THE SECOND FORM's CARD OF 'relucertlaw34.PhasePath'. -/
def phasePathUptoCard : Claim7 := { stood := { row := phasePathUptoRow, standIns := [], harness := (true, "1a30d7ca52591b8ef2fb426498c2e424117e77a27c7c8166142b0f2c96e106b8"), looks := false }, kinds := [], alts := [], laidByText := true, laidKinds := [.data, .data, .data, .data], laidTests := true, laidLooks := .later }
def PhasePathUptoCardSaid : Prop := Claim7.holds Tryd.pinned (.plain (OpenSpec.upto phasePathSpec)) phasePathUptoCard

/-- THE SECOND FORM's CARD OF 'relucertlaw34.PhaseExtend'. -/
def phaseExtendUptoCard : Claim7 := { stood := { row := phaseExtendUptoRow, standIns := [], harness := (true, "1a30d7ca52591b8ef2fb426498c2e424117e77a27c7c8166142b0f2c96e106b8"), looks := false }, kinds := [], alts := [], laidByText := true, laidKinds := [.data, .data, .data, .data], laidTests := true, laidLooks := .later }
def PhaseExtendUptoCardSaid : Prop := Claim7.holds Tryd.pinned (.plain (OpenSpec.upto phaseExtendSpec)) phaseExtendUptoCard

/-- THE SECOND FORM's CARD OF 'relucertlaw34.PhaseLong'. -/
def phaseLongUptoCard : Claim7 := { stood := { row := phaseLongUptoRow, standIns := [], harness := (true, "1a30d7ca52591b8ef2fb426498c2e424117e77a27c7c8166142b0f2c96e106b8"), looks := false }, kinds := [], alts := [], laidByText := true, laidKinds := [.data, .data, .data, .data], laidTests := true, laidLooks := .later }
def PhaseLongUptoCardSaid : Prop := Claim7.holds Tryd.pinned (.plain (OpenSpec.upto phaseLongSpec)) phaseLongUptoCard
end Rows
end Go.Proofs.YtjobiobdpnhooaaDoor
