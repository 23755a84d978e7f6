/-
  DERIVED. GIVEN WITH THE SEED: THE CARDS: each row of YtjobiobdpnhooaaGreatDoorRows.lean that lists a variable, with what it lists TIED to the program's text (the seventh form; the later family's looks); each row that meets fmt, with fmt's text TOLD by the authors' own Lean function (tested against real Go, not proved from fmt's source: count such statements apart). THE CARD IS WHAT COUNTS. Prove the row's statement (the work); the ties are given (YtjobiobdpnhooaaGreatDoorTie.lean); close each card by the builder's one call (the guide's Derived/Test/ToyasCard.lean, 'card_holds'). Laid BY PROGRAM, IN A SANDBOX (cutbox-door.mjs). By AI agents, Wed Nov 11 2026. No macro, syntax, notation, axiom, sorry.
-/
import Derived.Test.YtjobiobdpnhooaaGreatDoorRows
import GoSem.ClaimSeven
namespace Go.Proofs.YtjobiobdpnhooaaGreatDoor
namespace Rows

/-- THE TIED CARD OF 'relucertlaw34.PhaseCovers'. -/
def phaseCoversCard : Claim7 := { stood := { row := phaseCoversRow, standIns := [], harness := (true, "5841fa355eb8dee3ef815d451c4466437e2843c2adceba81b4f349ac7fd14eb0"), looks := false }, kinds := [], alts := [], laidByText := true, laidKinds := [.data, .data, .data, .data], laidTests := true, laidLooks := .later }
def PhaseCoversCardSaid : Prop := Claim7.holds Tryz.pinned (.plain (OpenSpec.ofChange phaseCoversSpec)) phaseCoversCard

/-- THE TIED CARD OF 'relucertlaw34.PhaseOf'. -/
def phaseOfCard : Claim7 := { stood := { row := phaseOfRow, standIns := [], harness := (true, "5841fa355eb8dee3ef815d451c4466437e2843c2adceba81b4f349ac7fd14eb0"), looks := false }, kinds := [], alts := [], laidByText := true, laidKinds := [.data, .data, .data, .data], laidTests := true, laidLooks := .later }
def PhaseOfCardSaid : Prop := Claim7.holds Tryz.pinned (.plain (OpenSpec.ofChange phaseOfSpec)) phaseOfCard

/-- THE SECOND FORM's CARD OF 'relucertlaw34.PhaseCovers'. -/
def phaseCoversUptoCard : Claim7 := { stood := { row := phaseCoversUptoRow, standIns := [], harness := (true, "5841fa355eb8dee3ef815d451c4466437e2843c2adceba81b4f349ac7fd14eb0"), looks := false }, kinds := [], alts := [], laidByText := true, laidKinds := [.data, .data, .data, .data], laidTests := true, laidLooks := .later }
def PhaseCoversUptoCardSaid : Prop := Claim7.holds Tryz.pinned (.plain (OpenSpec.upto phaseCoversSpec)) phaseCoversUptoCard

/-- THE SECOND FORM's CARD OF 'relucertlaw34.PhaseOf'. -/
def phaseOfUptoCard : Claim7 := { stood := { row := phaseOfUptoRow, standIns := [], harness := (true, "5841fa355eb8dee3ef815d451c4466437e2843c2adceba81b4f349ac7fd14eb0"), looks := false }, kinds := [], alts := [], laidByText := true, laidKinds := [.data, .data, .data, .data], laidTests := true, laidLooks := .later }
def PhaseOfUptoCardSaid : Prop := Claim7.holds Tryz.pinned (.plain (OpenSpec.upto phaseOfSpec)) phaseOfUptoCard
end Rows
end Go.Proofs.YtjobiobdpnhooaaGreatDoor
