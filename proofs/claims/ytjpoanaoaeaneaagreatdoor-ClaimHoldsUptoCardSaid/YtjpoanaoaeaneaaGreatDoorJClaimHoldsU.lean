/- relucert.relucertlaw20.ClaimHolds: what the row and its card force, part by part. -/
import Derived.Test.YtjpoanaoaeaneaaGreatDoorRows
import Derived.Test.YtjpoanaoaeaneaaGreatDoorCards
import Derived.WalkKit
import Derived.ProofKit
import Derived.Stop.Joined
import Derived.SevenTiedAt
set_option linter.all false
namespace Go.Proofs.YtjpoanaoaeaneaaGreatDoor.lawCH
open Go.Proofs.YtjpoanaoaeaneaaGreatDoor
theorem band_true {a b : Bool} (ha : a = true) (hb : b = true) : (a && b) = true := by rw [ha, hb]; rfl
theorem j0 : (Rows.claimHoldsUptoRow.wf (OpenSpec.ofChange Rows.claimHoldsSpec)) = true := by kernel_rfl
theorem j1 : (laidOutB Tryz.prog) = true := by kernel_rfl
theorem j2 : (mapsRowed Tryz.prog) = true := by kernel_rfl
theorem j3 : (Tryz.f9.params.all (Tryz.prog.readableRec ·)) = true := by kernel_rfl
theorem j4 : (namedTie Tryz.prog Rows.claimHoldsUptoRow.named Rows.claimHoldsSpec.vars) = true := by kernel_rfl
theorem j5 : ((Rows.claimHoldsUptoRow.stops == [])) = true := by kernel_rfl
theorem j6 : ((Tryz.prog.stops == [])) = true := by kernel_rfl
theorem j7 : ((Rows.claimHoldsUptoRow.knobs == [])) = true := by kernel_rfl
theorem j8 : ((Tryz.prog.stopKnobs == [])) = true := by kernel_rfl
theorem j9 : ((Rows.claimHoldsUptoRow.inPlace == Tryz.prog.inPlace 9)) = true := by kernel_rfl
theorem j10 : ((Rows.claimHoldsUptoRow.unfollowed == Tryz.prog.unfollowed 9)) = true := by kernel_rfl
theorem j11 : ((Rows.claimHoldsUptoRow.recurses == Tryz.prog.recurses 9)) = true := by kernel_rfl
theorem j12 : ((Rows.claimHoldsUptoRow.named == Tryz.prog.varsNamed 9)) = true := by kernel_rfl
theorem j13 : ((Rows.claimHoldsUptoRow.maps == (Tryz.f9.params.toList ++ Rows.claimHoldsSpec.plain.varTypes Tryz.prog).any (Tryz.prog.mapsRec ·))) = true := by kernel_rfl
theorem j14 : ((Rows.claimHoldsUptoRow.ifaces == (Tryz.f9.params.toList ++ Rows.claimHoldsSpec.plain.varTypes Tryz.prog).any (Tryz.prog.ifacesRec ·))) = true := by kernel_rfl
theorem j15 : ((Rows.claimHoldsUptoRow.mapsOut == Tryz.prog.mapsAmong Tryz.f9.resultTypes.toList)) = true := by kernel_rfl
theorem j16 : ((Rows.claimHoldsUptoRow.loops == (Tryz.f9.params.toList ++ Rows.claimHoldsSpec.plain.varTypes Tryz.prog).any (Tryz.prog.loopsFrom ·))) = true := by kernel_rfl
theorem j17 : ((Rows.claimHoldsUptoRow.wideKeys == (Tryz.f9.params.toList ++ Rows.claimHoldsSpec.plain.varTypes Tryz.prog ++ Tryz.f9.resultTypes.toList).any (Tryz.prog.wideKeysFrom ·))) = true := by kernel_rfl
theorem j18 : (Rows.claimHoldsSpec.vars.all (Tryz.prog.varReadable ·)) = true := by kernel_rfl
theorem j19 : (Tryz.f9.resultTypes.all (fun t => Tryz.prog.readableRec t && decide (t < Tryz.prog.types.size))) = true := by kernel_rfl
theorem j20 : ((Rows.claimHoldsUptoRow.ifacesOut == Tryz.f9.resultTypes.toList.any (Tryz.prog.ifacesRec ·))) = true := by kernel_rfl
theorem j21 : ((Rows.claimHoldsUptoRow.loopsOut == Tryz.f9.resultTypes.toList.any (Tryz.prog.loopsFrom ·))) = true := by kernel_rfl
theorem j22 : ((Rows.claimHoldsUptoRow.plainKeys == Tryz.prog.plainKeys)) = true := by kernel_rfl
theorem j23 : (Rows.claimHoldsUptoRow.shortTexts.isNone) = true := by kernel_rfl
theorem j24 : (Tryz.prog.stopsHeard) = true := by kernel_rfl
theorem j25 : (Tryz.prog.mayEnter) = true := by kernel_rfl
theorem j26 : ((Rows.claimHoldsUptoRow.lifted == Tryz.prog.liftsFinal)) = true := by kernel_rfl
theorem j27 : ((Tryz.prog.make == some Rows.claimHoldsUptoRow.make)) = true := by kernel_rfl
theorem j28 : ((Rows.claimHoldsUptoRow.kinds == (if Rows.claimHoldsUptoRow.domain.isEmpty then [] else Tryz.f9.params.toList.map fun t => match Tryz.prog.underlying t with | some (.int k) => some k | _ => none))) = true := by kernel_rfl
theorem j29 : ((Rows.claimHoldsUptoRow.pinned == Rows.claimHoldsUptoRow.pinnedBy)) = true := by kernel_rfl
theorem j30 : ((Rows.claimHoldsUptoRow.veiled == (Tryz.f9.params.toList ++ Rows.claimHoldsSpec.plain.varTypes Tryz.prog ++ Tryz.f9.resultTypes.toList).any (Tryz.prog.veiledRec ·))) = true := by kernel_rfl
theorem j31 : (Rows.claimHoldsUptoRow.veiledFits Tryz.prog Tryz.f9.params.toList (Tryz.f9.params.toList ++ Rows.claimHoldsSpec.plain.varTypes Tryz.prog ++ Tryz.f9.resultTypes.toList)) = true := by kernel_rfl
set_option maxRecDepth 100000 in
theorem closed : joinedFacts Tryz.prog 9 Tryz.f9 Rows.claimHoldsSpec Rows.claimHoldsUptoRow = true := by
  unfold joinedFacts
  exact (band_true (band_true (band_true (band_true (band_true (band_true (band_true (band_true (band_true (band_true (band_true (band_true (band_true (band_true (band_true (band_true (band_true (band_true (band_true (band_true (band_true (band_true (band_true (band_true (band_true (band_true (band_true (band_true (band_true (band_true (band_true j0 j1) j2) j3) j4) j5) j6) j7) j8) j9) j10) j11) j12) j13) j14) j15) j16) j17) j18) j19) j20) j21) j22) j23) j24) j25) j26) j27) j28) j29) j30) j31)
theorem hw : Rows.claimHoldsUptoRow.wfByText (Rows.OpenSpec.upto Rows.claimHoldsSpec) = true := by kernel_rfl
theorem hm : Tryz.pinned.checked.prog.mainIs = some (Rows.claimHoldsUptoCard.stood.harness.1, Rows.claimHoldsUptoCard.stood.harness.2.toList) := by kernel_rfl
theorem hlk : true = Tryz.pinned.checked.prog.looks [] := by kernel_rfl
theorem hg : false = Rows.claimHoldsUptoRow.goesBy Tryz.pinned.checked.prog := by kernel_rfl
theorem hall : ([52, 59].all fun u => !Tryz.prog.wantsStandIn u) = true := by kernel_rfl
theorem hnm : Tryz.prog.funcNamed "relucert/relucertlaw20.ClaimHolds" = some 9 := by kernel_rfl
end Go.Proofs.YtjpoanaoaeaneaaGreatDoor.lawCH
