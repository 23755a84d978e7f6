/- relucert.relucertlaw31.FourierEliminateMatchesReference: what the row and its card force, part by part. -/
import Derived.Test.YtdaonnnlgfhlaaaGreatDoorRows
import Derived.Test.YtdaonnnlgfhlaaaGreatDoorCards
import Derived.WalkKit
import Derived.ProofKit
import Derived.Stop.Joined
import Derived.SevenTiedAt
set_option linter.all false
namespace Go.Proofs.YtdaonnnlgfhlaaaGreatDoor.lawFE
open Go.Proofs.YtdaonnnlgfhlaaaGreatDoor
theorem band_true {a b : Bool} (ha : a = true) (hb : b = true) : (a && b) = true := by rw [ha, hb]; rfl
theorem j0 : (Rows.fourierEliminateMatchesReferenceUptoRow.wf (OpenSpec.ofChange Rows.fourierEliminateMatchesReferenceSpec)) = true := by kernel_rfl
theorem j1 : (laidOutB Tryz.prog) = true := by kernel_rfl
theorem j2 : (mapsRowed Tryz.prog) = true := by kernel_rfl
theorem j3 : (Tryz.f4.params.all (Tryz.prog.readableRec ·)) = true := by kernel_rfl
theorem j4 : (namedTie Tryz.prog Rows.fourierEliminateMatchesReferenceUptoRow.named Rows.fourierEliminateMatchesReferenceSpec.vars) = true := by kernel_rfl
theorem j5 : ((Rows.fourierEliminateMatchesReferenceUptoRow.stops == [])) = true := by kernel_rfl
theorem j6 : ((Tryz.prog.stops == [])) = true := by kernel_rfl
theorem j7 : ((Rows.fourierEliminateMatchesReferenceUptoRow.knobs == [])) = true := by kernel_rfl
theorem j8 : ((Tryz.prog.stopKnobs == [])) = true := by kernel_rfl
theorem j9 : ((Rows.fourierEliminateMatchesReferenceUptoRow.inPlace == Tryz.prog.inPlace 4)) = true := by kernel_rfl
theorem j10 : ((Rows.fourierEliminateMatchesReferenceUptoRow.unfollowed == Tryz.prog.unfollowed 4)) = true := by kernel_rfl
theorem j11 : ((Rows.fourierEliminateMatchesReferenceUptoRow.recurses == Tryz.prog.recurses 4)) = true := by kernel_rfl
theorem j12 : ((Rows.fourierEliminateMatchesReferenceUptoRow.named == Tryz.prog.varsNamed 4)) = true := by kernel_rfl
theorem j13 : ((Rows.fourierEliminateMatchesReferenceUptoRow.maps == (Tryz.f4.params.toList ++ Rows.fourierEliminateMatchesReferenceSpec.plain.varTypes Tryz.prog).any (Tryz.prog.mapsRec ·))) = true := by kernel_rfl
theorem j14 : ((Rows.fourierEliminateMatchesReferenceUptoRow.ifaces == (Tryz.f4.params.toList ++ Rows.fourierEliminateMatchesReferenceSpec.plain.varTypes Tryz.prog).any (Tryz.prog.ifacesRec ·))) = true := by kernel_rfl
theorem j15 : ((Rows.fourierEliminateMatchesReferenceUptoRow.mapsOut == Tryz.prog.mapsAmong Tryz.f4.resultTypes.toList)) = true := by kernel_rfl
theorem j16 : ((Rows.fourierEliminateMatchesReferenceUptoRow.loops == (Tryz.f4.params.toList ++ Rows.fourierEliminateMatchesReferenceSpec.plain.varTypes Tryz.prog).any (Tryz.prog.loopsFrom ·))) = true := by kernel_rfl
theorem j17 : ((Rows.fourierEliminateMatchesReferenceUptoRow.wideKeys == (Tryz.f4.params.toList ++ Rows.fourierEliminateMatchesReferenceSpec.plain.varTypes Tryz.prog ++ Tryz.f4.resultTypes.toList).any (Tryz.prog.wideKeysFrom ·))) = true := by kernel_rfl
theorem j18 : (Rows.fourierEliminateMatchesReferenceSpec.vars.all (Tryz.prog.varReadable ·)) = true := by kernel_rfl
theorem j19 : (Tryz.f4.resultTypes.all (fun t => Tryz.prog.readableRec t && decide (t < Tryz.prog.types.size))) = true := by kernel_rfl
theorem j20 : ((Rows.fourierEliminateMatchesReferenceUptoRow.ifacesOut == Tryz.f4.resultTypes.toList.any (Tryz.prog.ifacesRec ·))) = true := by kernel_rfl
theorem j21 : ((Rows.fourierEliminateMatchesReferenceUptoRow.loopsOut == Tryz.f4.resultTypes.toList.any (Tryz.prog.loopsFrom ·))) = true := by kernel_rfl
theorem j22 : ((Rows.fourierEliminateMatchesReferenceUptoRow.plainKeys == Tryz.prog.plainKeys)) = true := by kernel_rfl
theorem j23 : (Rows.fourierEliminateMatchesReferenceUptoRow.shortTexts.isNone) = true := by kernel_rfl
theorem j24 : (Tryz.prog.stopsHeard) = true := by kernel_rfl
theorem j25 : (Tryz.prog.mayEnter) = true := by kernel_rfl
theorem j26 : ((Rows.fourierEliminateMatchesReferenceUptoRow.lifted == Tryz.prog.liftsFinal)) = true := by kernel_rfl
theorem j27 : ((Tryz.prog.make == some Rows.fourierEliminateMatchesReferenceUptoRow.make)) = true := by kernel_rfl
theorem j28 : ((Rows.fourierEliminateMatchesReferenceUptoRow.kinds == (if Rows.fourierEliminateMatchesReferenceUptoRow.domain.isEmpty then [] else Tryz.f4.params.toList.map fun t => match Tryz.prog.underlying t with | some (.int k) => some k | _ => none))) = true := by kernel_rfl
theorem j29 : ((Rows.fourierEliminateMatchesReferenceUptoRow.pinned == Rows.fourierEliminateMatchesReferenceUptoRow.pinnedBy)) = true := by kernel_rfl
theorem j30 : ((Rows.fourierEliminateMatchesReferenceUptoRow.veiled == (Tryz.f4.params.toList ++ Rows.fourierEliminateMatchesReferenceSpec.plain.varTypes Tryz.prog ++ Tryz.f4.resultTypes.toList).any (Tryz.prog.veiledRec ·))) = true := by kernel_rfl
theorem j31 : (Rows.fourierEliminateMatchesReferenceUptoRow.veiledFits Tryz.prog Tryz.f4.params.toList (Tryz.f4.params.toList ++ Rows.fourierEliminateMatchesReferenceSpec.plain.varTypes Tryz.prog ++ Tryz.f4.resultTypes.toList)) = true := by kernel_rfl
set_option maxRecDepth 100000 in
theorem closed : joinedFacts Tryz.prog 4 Tryz.f4 Rows.fourierEliminateMatchesReferenceSpec Rows.fourierEliminateMatchesReferenceUptoRow = true := by
  unfold joinedFacts
  exact (band_true (band_true (band_true (band_true (band_true (band_true (band_true (band_true (band_true (band_true (band_true (band_true (band_true (band_true (band_true (band_true (band_true (band_true (band_true (band_true (band_true (band_true (band_true (band_true (band_true (band_true (band_true (band_true (band_true (band_true (band_true j0 j1) j2) j3) j4) j5) j6) j7) j8) j9) j10) j11) j12) j13) j14) j15) j16) j17) j18) j19) j20) j21) j22) j23) j24) j25) j26) j27) j28) j29) j30) j31)
theorem hw : Rows.fourierEliminateMatchesReferenceUptoRow.wfByText (Rows.OpenSpec.upto Rows.fourierEliminateMatchesReferenceSpec) = true := by kernel_rfl
theorem hm : Tryz.pinned.checked.prog.mainIs = some (Rows.fourierEliminateMatchesReferenceUptoCard.stood.harness.1, Rows.fourierEliminateMatchesReferenceUptoCard.stood.harness.2.toList) := by kernel_rfl
theorem hlk : false = Tryz.pinned.checked.prog.looks [] := by kernel_rfl
theorem hg : false = Rows.fourierEliminateMatchesReferenceUptoRow.goesBy Tryz.pinned.checked.prog := by kernel_rfl
theorem hall : ([40, 3].all fun u => !Tryz.prog.wantsStandIn u) = true := by kernel_rfl
theorem hnm : Tryz.prog.funcNamed "relucert/relucertlaw31.FourierEliminateMatchesReference" = some 4 := by kernel_rfl
end Go.Proofs.YtdaonnnlgfhlaaaGreatDoor.lawFE
