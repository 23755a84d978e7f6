/- relucert.relucertlaw31.FourierProjects: what the row and its card force, part by part. -/
import Derived.Test.YtdaonnnlgfhlaaaGreatDoorRows
import Derived.Test.YtdaonnnlgfhlaaaGreatDoorCards
import Derived.WalkKit
import Derived.ProofKit
import Derived.Stop.Joined
import Derived.SevenTiedAt
set_option linter.all false
namespace Go.Proofs.YtdaonnnlgfhlaaaGreatDoor.lawFP
open Go.Proofs.YtdaonnnlgfhlaaaGreatDoor
theorem band_true {a b : Bool} (ha : a = true) (hb : b = true) : (a && b) = true := by rw [ha, hb]; rfl
theorem j0 : (Rows.fourierProjectsUptoRow.wf (OpenSpec.ofChange Rows.fourierProjectsSpec)) = true := by kernel_rfl
theorem j1 : (laidOutB Tryz.prog) = true := by kernel_rfl
theorem j2 : (mapsRowed Tryz.prog) = true := by kernel_rfl
theorem j3 : (Tryz.f5.params.all (Tryz.prog.readableRec ·)) = true := by kernel_rfl
theorem j4 : (namedTie Tryz.prog Rows.fourierProjectsUptoRow.named Rows.fourierProjectsSpec.vars) = true := by kernel_rfl
theorem j5 : ((Rows.fourierProjectsUptoRow.stops == [])) = true := by kernel_rfl
theorem j6 : ((Tryz.prog.stops == [])) = true := by kernel_rfl
theorem j7 : ((Rows.fourierProjectsUptoRow.knobs == [])) = true := by kernel_rfl
theorem j8 : ((Tryz.prog.stopKnobs == [])) = true := by kernel_rfl
theorem j9 : ((Rows.fourierProjectsUptoRow.inPlace == Tryz.prog.inPlace 5)) = true := by kernel_rfl
theorem j10 : ((Rows.fourierProjectsUptoRow.unfollowed == Tryz.prog.unfollowed 5)) = true := by kernel_rfl
theorem j11 : ((Rows.fourierProjectsUptoRow.recurses == Tryz.prog.recurses 5)) = true := by kernel_rfl
theorem j12 : ((Rows.fourierProjectsUptoRow.named == Tryz.prog.varsNamed 5)) = true := by kernel_rfl
theorem j13 : ((Rows.fourierProjectsUptoRow.maps == (Tryz.f5.params.toList ++ Rows.fourierProjectsSpec.plain.varTypes Tryz.prog).any (Tryz.prog.mapsRec ·))) = true := by kernel_rfl
theorem j14 : ((Rows.fourierProjectsUptoRow.ifaces == (Tryz.f5.params.toList ++ Rows.fourierProjectsSpec.plain.varTypes Tryz.prog).any (Tryz.prog.ifacesRec ·))) = true := by kernel_rfl
theorem j15 : ((Rows.fourierProjectsUptoRow.mapsOut == Tryz.prog.mapsAmong Tryz.f5.resultTypes.toList)) = true := by kernel_rfl
theorem j16 : ((Rows.fourierProjectsUptoRow.loops == (Tryz.f5.params.toList ++ Rows.fourierProjectsSpec.plain.varTypes Tryz.prog).any (Tryz.prog.loopsFrom ·))) = true := by kernel_rfl
theorem j17 : ((Rows.fourierProjectsUptoRow.wideKeys == (Tryz.f5.params.toList ++ Rows.fourierProjectsSpec.plain.varTypes Tryz.prog ++ Tryz.f5.resultTypes.toList).any (Tryz.prog.wideKeysFrom ·))) = true := by kernel_rfl
theorem j18 : (Rows.fourierProjectsSpec.vars.all (Tryz.prog.varReadable ·)) = true := by kernel_rfl
theorem j19 : (Tryz.f5.resultTypes.all (fun t => Tryz.prog.readableRec t && decide (t < Tryz.prog.types.size))) = true := by kernel_rfl
theorem j20 : ((Rows.fourierProjectsUptoRow.ifacesOut == Tryz.f5.resultTypes.toList.any (Tryz.prog.ifacesRec ·))) = true := by kernel_rfl
theorem j21 : ((Rows.fourierProjectsUptoRow.loopsOut == Tryz.f5.resultTypes.toList.any (Tryz.prog.loopsFrom ·))) = true := by kernel_rfl
theorem j22 : ((Rows.fourierProjectsUptoRow.plainKeys == Tryz.prog.plainKeys)) = true := by kernel_rfl
theorem j23 : (Rows.fourierProjectsUptoRow.shortTexts.isNone) = true := by kernel_rfl
theorem j24 : (Tryz.prog.stopsHeard) = true := by kernel_rfl
theorem j25 : (Tryz.prog.mayEnter) = true := by kernel_rfl
theorem j26 : ((Rows.fourierProjectsUptoRow.lifted == Tryz.prog.liftsFinal)) = true := by kernel_rfl
theorem j27 : ((Tryz.prog.make == some Rows.fourierProjectsUptoRow.make)) = true := by kernel_rfl
theorem j28 : ((Rows.fourierProjectsUptoRow.kinds == (if Rows.fourierProjectsUptoRow.domain.isEmpty then [] else Tryz.f5.params.toList.map fun t => match Tryz.prog.underlying t with | some (.int k) => some k | _ => none))) = true := by kernel_rfl
theorem j29 : ((Rows.fourierProjectsUptoRow.pinned == Rows.fourierProjectsUptoRow.pinnedBy)) = true := by kernel_rfl
theorem j30 : ((Rows.fourierProjectsUptoRow.veiled == (Tryz.f5.params.toList ++ Rows.fourierProjectsSpec.plain.varTypes Tryz.prog ++ Tryz.f5.resultTypes.toList).any (Tryz.prog.veiledRec ·))) = true := by kernel_rfl
theorem j31 : (Rows.fourierProjectsUptoRow.veiledFits Tryz.prog Tryz.f5.params.toList (Tryz.f5.params.toList ++ Rows.fourierProjectsSpec.plain.varTypes Tryz.prog ++ Tryz.f5.resultTypes.toList)) = true := by kernel_rfl
set_option maxRecDepth 100000 in
theorem closed : joinedFacts Tryz.prog 5 Tryz.f5 Rows.fourierProjectsSpec Rows.fourierProjectsUptoRow = true := by
  unfold joinedFacts
  exact (band_true (band_true (band_true (band_true (band_true (band_true (band_true (band_true (band_true (band_true (band_true (band_true (band_true (band_true (band_true (band_true (band_true (band_true (band_true (band_true (band_true (band_true (band_true (band_true (band_true (band_true (band_true (band_true (band_true (band_true (band_true j0 j1) j2) j3) j4) j5) j6) j7) j8) j9) j10) j11) j12) j13) j14) j15) j16) j17) j18) j19) j20) j21) j22) j23) j24) j25) j26) j27) j28) j29) j30) j31)
theorem hw : Rows.fourierProjectsUptoRow.wfByText (Rows.OpenSpec.upto Rows.fourierProjectsSpec) = true := by kernel_rfl
theorem hm : Tryz.pinned.checked.prog.mainIs = some (Rows.fourierProjectsUptoCard.stood.harness.1, Rows.fourierProjectsUptoCard.stood.harness.2.toList) := by kernel_rfl
theorem hlk : false = Tryz.pinned.checked.prog.looks [] := by kernel_rfl
theorem hg : false = Rows.fourierProjectsUptoRow.goesBy Tryz.pinned.checked.prog := by kernel_rfl
theorem hall : ([40, 5, 47].all fun u => !Tryz.prog.wantsStandIn u) = true := by kernel_rfl
theorem hnm : Tryz.prog.funcNamed "relucert/relucertlaw31.FourierProjects" = some 5 := by kernel_rfl
end Go.Proofs.YtdaonnnlgfhlaaaGreatDoor.lawFP
