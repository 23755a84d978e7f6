/- relucert.relucertlaw31.FourierFeasible: what the row and its card force, part by part. -/
import Derived.Test.YtdaonnnlgfhlaaaGreatDoorRows
import Derived.Test.YtdaonnnlgfhlaaaGreatDoorCards
import Derived.WalkKit
import Derived.ProofKit
import Derived.Stop.Joined
import Derived.SevenTiedAt
set_option linter.all false
namespace Go.Proofs.YtdaonnnlgfhlaaaGreatDoor.lawFF
open Go.Proofs.YtdaonnnlgfhlaaaGreatDoor
theorem Zz {a b : Bool} (ha : a = true) (hb : b = true) : (a && b) = true := by rw [ha, hb]; rfl
theorem j0 : (Rows.fourierFeasibleUptoRow.wf (OpenSpec.ofChange Rows.fourierFeasibleSpec)) = true := by kernel_rfl
theorem j1 : (laidOutB Tryz.prog) = true := by kernel_rfl
theorem j2 : (mapsRowed Tryz.prog) = true := by kernel_rfl
theorem j3 : (Tryz.f6.params.all (Tryz.prog.readableRec ·)) = true := by kernel_rfl
theorem j4 : (namedTie Tryz.prog Rows.fourierFeasibleUptoRow.named Rows.fourierFeasibleSpec.vars) = true := by kernel_rfl
theorem j5 : ((Rows.fourierFeasibleUptoRow.stops == [])) = true := by kernel_rfl
theorem j6 : ((Tryz.prog.stops == [])) = true := by kernel_rfl
theorem j7 : ((Rows.fourierFeasibleUptoRow.knobs == [])) = true := by kernel_rfl
theorem j8 : ((Tryz.prog.stopKnobs == [])) = true := by kernel_rfl
theorem j9 : ((Rows.fourierFeasibleUptoRow.inPlace == Tryz.prog.inPlace 6)) = true := by kernel_rfl
theorem j10 : ((Rows.fourierFeasibleUptoRow.unfollowed == Tryz.prog.unfollowed 6)) = true := by kernel_rfl
theorem j11 : ((Rows.fourierFeasibleUptoRow.recurses == Tryz.prog.recurses 6)) = true := by kernel_rfl
theorem j12 : ((Rows.fourierFeasibleUptoRow.named == Tryz.prog.varsNamed 6)) = true := by kernel_rfl
theorem j13 : ((Rows.fourierFeasibleUptoRow.maps == (Tryz.f6.params.toList ++ Rows.fourierFeasibleSpec.plain.varTypes Tryz.prog).any (Tryz.prog.mapsRec ·))) = true := by kernel_rfl
theorem j14 : ((Rows.fourierFeasibleUptoRow.ifaces == (Tryz.f6.params.toList ++ Rows.fourierFeasibleSpec.plain.varTypes Tryz.prog).any (Tryz.prog.ifacesRec ·))) = true := by kernel_rfl
theorem j15 : ((Rows.fourierFeasibleUptoRow.mapsOut == Tryz.prog.mapsAmong Tryz.f6.resultTypes.toList)) = true := by kernel_rfl
theorem j16 : ((Rows.fourierFeasibleUptoRow.loops == (Tryz.f6.params.toList ++ Rows.fourierFeasibleSpec.plain.varTypes Tryz.prog).any (Tryz.prog.loopsFrom ·))) = true := by kernel_rfl
theorem j17 : ((Rows.fourierFeasibleUptoRow.wideKeys == (Tryz.f6.params.toList ++ Rows.fourierFeasibleSpec.plain.varTypes Tryz.prog ++ Tryz.f6.resultTypes.toList).any (Tryz.prog.wideKeysFrom ·))) = true := by kernel_rfl
theorem j18 : (Rows.fourierFeasibleSpec.vars.all (Tryz.prog.varReadable ·)) = true := by kernel_rfl
theorem j19 : (Tryz.f6.resultTypes.all (fun t => Tryz.prog.readableRec t && decide (t < Tryz.prog.types.size))) = true := by kernel_rfl
theorem j20 : ((Rows.fourierFeasibleUptoRow.ifacesOut == Tryz.f6.resultTypes.toList.any (Tryz.prog.ifacesRec ·))) = true := by kernel_rfl
theorem j21 : ((Rows.fourierFeasibleUptoRow.loopsOut == Tryz.f6.resultTypes.toList.any (Tryz.prog.loopsFrom ·))) = true := by kernel_rfl
theorem j22 : ((Rows.fourierFeasibleUptoRow.plainKeys == Tryz.prog.plainKeys)) = true := by kernel_rfl
theorem j23 : (Rows.fourierFeasibleUptoRow.shortTexts.isNone) = true := by kernel_rfl
theorem j24 : (Tryz.prog.stopsHeard) = true := by kernel_rfl
theorem j25 : (Tryz.prog.mayEnter) = true := by kernel_rfl
theorem j26 : ((Rows.fourierFeasibleUptoRow.lifted == Tryz.prog.liftsFinal)) = true := by kernel_rfl
theorem j27 : ((Tryz.prog.make == some Rows.fourierFeasibleUptoRow.make)) = true := by kernel_rfl
theorem j28 : ((Rows.fourierFeasibleUptoRow.kinds == (if Rows.fourierFeasibleUptoRow.domain.isEmpty then [] else Tryz.f6.params.toList.map fun t => match Tryz.prog.underlying t with | some (.int k) => some k | _ => none))) = true := by kernel_rfl
theorem j29 : ((Rows.fourierFeasibleUptoRow.pinned == Rows.fourierFeasibleUptoRow.pinnedBy)) = true := by kernel_rfl
theorem j30 : ((Rows.fourierFeasibleUptoRow.veiled == (Tryz.f6.params.toList ++ Rows.fourierFeasibleSpec.plain.varTypes Tryz.prog ++ Tryz.f6.resultTypes.toList).any (Tryz.prog.veiledRec ·))) = true := by kernel_rfl
theorem j31 : (Rows.fourierFeasibleUptoRow.veiledFits Tryz.prog Tryz.f6.params.toList (Tryz.f6.params.toList ++ Rows.fourierFeasibleSpec.plain.varTypes Tryz.prog ++ Tryz.f6.resultTypes.toList)) = true := by kernel_rfl
set_option maxRecDepth 100000 in
theorem ZoT : joinedFacts Tryz.prog 6 Tryz.f6 Rows.fourierFeasibleSpec Rows.fourierFeasibleUptoRow = true := by
  unfold joinedFacts
  exact (Zz (Zz (Zz (Zz (Zz (Zz (Zz (Zz (Zz (Zz (Zz (Zz (Zz (Zz (Zz (Zz (Zz (Zz (Zz (Zz (Zz (Zz (Zz (Zz (Zz (Zz (Zz (Zz (Zz (Zz (Zz j0 j1) j2) j3) j4) j5) j6) j7) j8) j9) j10) j11) j12) j13) j14) j15) j16) j17) j18) j19) j20) j21) j22) j23) j24) j25) j26) j27) j28) j29) j30) j31)
theorem hw : Rows.fourierFeasibleUptoRow.wfByText (Rows.OpenSpec.upto Rows.fourierFeasibleSpec) = true := by kernel_rfl
theorem hm : Tryz.pinned.checked.prog.mainIs = some (Rows.fourierFeasibleUptoCard.stood.harness.1, Rows.fourierFeasibleUptoCard.stood.harness.2.toList) := by kernel_rfl
theorem hlk : false = Tryz.pinned.checked.prog.looks [] := by kernel_rfl
theorem hg : false = Rows.fourierFeasibleUptoRow.goesBy Tryz.pinned.checked.prog := by kernel_rfl
theorem X8 : ([40, 3].all fun u => !Tryz.prog.wantsStandIn u) = true := by kernel_rfl
theorem hnm : Tryz.prog.funcNamed "relucert/relucertlaw31.FourierFeasible" = some 6 := by kernel_rfl
end Go.Proofs.YtdaonnnlgfhlaaaGreatDoor.lawFF
