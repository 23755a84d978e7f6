/- relucert.relucertlaw31.FourierMinMatchesReference: what the row and its card force, part by part. -/
import Derived.Test.YtdaonnnlgfhlaaaGreatDoorRows
import Derived.Test.YtdaonnnlgfhlaaaGreatDoorCards
import Derived.WalkKit
import Derived.ProofKit
import Derived.Stop.Joined
import Derived.SevenTiedAt
set_option linter.all false
namespace Go.Proofs.YtdaonnnlgfhlaaaGreatDoor.lawFM
open Go.Proofs.YtdaonnnlgfhlaaaGreatDoor
theorem ZE {a b : Bool} (ha : a = true) (hb : b = true) : (a && b) = true := by rw [ha, hb]; rfl
theorem j0 : (Rows.fourierMinMatchesReferenceUptoRow.wf (OpenSpec.ofChange Rows.fourierMinMatchesReferenceSpec)) = true := by kernel_rfl
theorem j1 : (laidOutB Tryz.prog) = true := by kernel_rfl
theorem j2 : (mapsRowed Tryz.prog) = true := by kernel_rfl
theorem j3 : (Tryz.f7.params.all (Tryz.prog.readableRec ·)) = true := by kernel_rfl
theorem j4 : (namedTie Tryz.prog Rows.fourierMinMatchesReferenceUptoRow.named Rows.fourierMinMatchesReferenceSpec.vars) = true := by kernel_rfl
theorem j5 : ((Rows.fourierMinMatchesReferenceUptoRow.stops == [])) = true := by kernel_rfl
theorem j6 : ((Tryz.prog.stops == [])) = true := by kernel_rfl
theorem j7 : ((Rows.fourierMinMatchesReferenceUptoRow.knobs == [])) = true := by kernel_rfl
theorem j8 : ((Tryz.prog.stopKnobs == [])) = true := by kernel_rfl
theorem j9 : ((Rows.fourierMinMatchesReferenceUptoRow.inPlace == Tryz.prog.inPlace 7)) = true := by kernel_rfl
theorem j10 : ((Rows.fourierMinMatchesReferenceUptoRow.unfollowed == Tryz.prog.unfollowed 7)) = true := by kernel_rfl
theorem j11 : ((Rows.fourierMinMatchesReferenceUptoRow.recurses == Tryz.prog.recurses 7)) = true := by kernel_rfl
theorem j12 : ((Rows.fourierMinMatchesReferenceUptoRow.named == Tryz.prog.varsNamed 7)) = true := by kernel_rfl
theorem j13 : ((Rows.fourierMinMatchesReferenceUptoRow.maps == (Tryz.f7.params.toList ++ Rows.fourierMinMatchesReferenceSpec.plain.varTypes Tryz.prog).any (Tryz.prog.mapsRec ·))) = true := by kernel_rfl
theorem j14 : ((Rows.fourierMinMatchesReferenceUptoRow.ifaces == (Tryz.f7.params.toList ++ Rows.fourierMinMatchesReferenceSpec.plain.varTypes Tryz.prog).any (Tryz.prog.ifacesRec ·))) = true := by kernel_rfl
theorem j15 : ((Rows.fourierMinMatchesReferenceUptoRow.mapsOut == Tryz.prog.mapsAmong Tryz.f7.resultTypes.toList)) = true := by kernel_rfl
theorem j16 : ((Rows.fourierMinMatchesReferenceUptoRow.loops == (Tryz.f7.params.toList ++ Rows.fourierMinMatchesReferenceSpec.plain.varTypes Tryz.prog).any (Tryz.prog.loopsFrom ·))) = true := by kernel_rfl
theorem j17 : ((Rows.fourierMinMatchesReferenceUptoRow.wideKeys == (Tryz.f7.params.toList ++ Rows.fourierMinMatchesReferenceSpec.plain.varTypes Tryz.prog ++ Tryz.f7.resultTypes.toList).any (Tryz.prog.wideKeysFrom ·))) = true := by kernel_rfl
theorem j18 : (Rows.fourierMinMatchesReferenceSpec.vars.all (Tryz.prog.varReadable ·)) = true := by kernel_rfl
theorem j19 : (Tryz.f7.resultTypes.all (fun t => Tryz.prog.readableRec t && decide (t < Tryz.prog.types.size))) = true := by kernel_rfl
theorem j20 : ((Rows.fourierMinMatchesReferenceUptoRow.ifacesOut == Tryz.f7.resultTypes.toList.any (Tryz.prog.ifacesRec ·))) = true := by kernel_rfl
theorem j21 : ((Rows.fourierMinMatchesReferenceUptoRow.loopsOut == Tryz.f7.resultTypes.toList.any (Tryz.prog.loopsFrom ·))) = true := by kernel_rfl
theorem j22 : ((Rows.fourierMinMatchesReferenceUptoRow.plainKeys == Tryz.prog.plainKeys)) = true := by kernel_rfl
theorem j23 : (Rows.fourierMinMatchesReferenceUptoRow.shortTexts.isNone) = true := by kernel_rfl
theorem j24 : (Tryz.prog.stopsHeard) = true := by kernel_rfl
theorem j25 : (Tryz.prog.mayEnter) = true := by kernel_rfl
theorem j26 : ((Rows.fourierMinMatchesReferenceUptoRow.lifted == Tryz.prog.liftsFinal)) = true := by kernel_rfl
theorem j27 : ((Tryz.prog.make == some Rows.fourierMinMatchesReferenceUptoRow.make)) = true := by kernel_rfl
theorem j28 : ((Rows.fourierMinMatchesReferenceUptoRow.kinds == (if Rows.fourierMinMatchesReferenceUptoRow.domain.isEmpty then [] else Tryz.f7.params.toList.map fun t => match Tryz.prog.underlying t with | some (.int k) => some k | _ => none))) = true := by kernel_rfl
theorem j29 : ((Rows.fourierMinMatchesReferenceUptoRow.pinned == Rows.fourierMinMatchesReferenceUptoRow.pinnedBy)) = true := by kernel_rfl
theorem j30 : ((Rows.fourierMinMatchesReferenceUptoRow.veiled == (Tryz.f7.params.toList ++ Rows.fourierMinMatchesReferenceSpec.plain.varTypes Tryz.prog ++ Tryz.f7.resultTypes.toList).any (Tryz.prog.veiledRec ·))) = true := by kernel_rfl
theorem j31 : (Rows.fourierMinMatchesReferenceUptoRow.veiledFits Tryz.prog Tryz.f7.params.toList (Tryz.f7.params.toList ++ Rows.fourierMinMatchesReferenceSpec.plain.varTypes Tryz.prog ++ Tryz.f7.resultTypes.toList)) = true := by kernel_rfl
set_option maxRecDepth 100000 in
theorem Zpe : joinedFacts Tryz.prog 7 Tryz.f7 Rows.fourierMinMatchesReferenceSpec Rows.fourierMinMatchesReferenceUptoRow = true := by
  unfold joinedFacts
  exact (ZE (ZE (ZE (ZE (ZE (ZE (ZE (ZE (ZE (ZE (ZE (ZE (ZE (ZE (ZE (ZE (ZE (ZE (ZE (ZE (ZE (ZE (ZE (ZE (ZE (ZE (ZE (ZE (ZE (ZE (ZE j0 j1) j2) j3) j4) j5) j6) j7) j8) j9) j10) j11) j12) j13) j14) j15) j16) j17) j18) j19) j20) j21) j22) j23) j24) j25) j26) j27) j28) j29) j30) j31)
theorem hw : Rows.fourierMinMatchesReferenceUptoRow.wfByText (Rows.OpenSpec.upto Rows.fourierMinMatchesReferenceSpec) = true := by kernel_rfl
theorem hm : Tryz.pinned.checked.prog.mainIs = some (Rows.fourierMinMatchesReferenceUptoCard.stood.harness.1, Rows.fourierMinMatchesReferenceUptoCard.stood.harness.2.toList) := by kernel_rfl
theorem hlk : false = Tryz.pinned.checked.prog.looks [] := by kernel_rfl
theorem hg : false = Rows.fourierMinMatchesReferenceUptoRow.goesBy Tryz.pinned.checked.prog := by kernel_rfl
theorem Wo : ([28, 40, 3].all fun u => !Tryz.prog.wantsStandIn u) = true := by kernel_rfl
theorem hnm : Tryz.prog.funcNamed "relucert/relucertlaw31.FourierMinMatchesReference" = some 7 := by kernel_rfl
end Go.Proofs.YtdaonnnlgfhlaaaGreatDoor.lawFM
