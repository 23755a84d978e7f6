/- relucert.relucertlaw07.LinearEval: what the row and its card force, part by part. -/
import Derived.Test.YthkkmokbjmempaaGreatDoorRows
import Derived.Test.YthkkmokbjmempaaGreatDoorCards
import Derived.WalkKit
import Derived.ProofKit
import Derived.Stop.Joined
import Derived.SevenTiedAt
set_option linter.all false
namespace Go.Proofs.YthkkmokbjmempaaGreatDoor.lawLE
open Go.Proofs.YthkkmokbjmempaaGreatDoor
theorem band_true {a b : Bool} (ha : a = true) (hb : b = true) : (a && b) = true := by rw [ha, hb]; rfl
theorem j0 : (Rows.linearEvalRow.wf (OpenSpec.ofChange Rows.linearEvalSpec)) = true := by kernel_rfl
theorem j1 : (laidOutB Tryz.prog) = true := by kernel_rfl
theorem j2 : (mapsRowed Tryz.prog) = true := by kernel_rfl
theorem j3 : (Tryz.f10.params.all (Tryz.prog.readableRec ·)) = true := by kernel_rfl
theorem j4 : (namedTie Tryz.prog Rows.linearEvalRow.named Rows.linearEvalSpec.vars) = true := by kernel_rfl
theorem j5 : ((Rows.linearEvalRow.stops == [])) = true := by kernel_rfl
theorem j6 : ((Tryz.prog.stops == [])) = true := by kernel_rfl
theorem j7 : ((Rows.linearEvalRow.knobs == [])) = true := by kernel_rfl
theorem j8 : ((Tryz.prog.stopKnobs == [])) = true := by kernel_rfl
theorem j9 : ((Rows.linearEvalRow.inPlace == Tryz.prog.inPlace 10)) = true := by kernel_rfl
theorem j10 : ((Rows.linearEvalRow.unfollowed == Tryz.prog.unfollowed 10)) = true := by kernel_rfl
theorem j11 : ((Rows.linearEvalRow.recurses == Tryz.prog.recurses 10)) = true := by kernel_rfl
theorem j12 : ((Rows.linearEvalRow.named == Tryz.prog.varsNamed 10)) = true := by kernel_rfl
theorem j13 : ((Rows.linearEvalRow.maps == (Tryz.f10.params.toList ++ Rows.linearEvalSpec.plain.varTypes Tryz.prog).any (Tryz.prog.mapsRec ·))) = true := by kernel_rfl
theorem j14 : ((Rows.linearEvalRow.ifaces == (Tryz.f10.params.toList ++ Rows.linearEvalSpec.plain.varTypes Tryz.prog).any (Tryz.prog.ifacesRec ·))) = true := by kernel_rfl
theorem j15 : ((Rows.linearEvalRow.mapsOut == Tryz.prog.mapsAmong Tryz.f10.resultTypes.toList)) = true := by kernel_rfl
theorem j16 : ((Rows.linearEvalRow.loops == (Tryz.f10.params.toList ++ Rows.linearEvalSpec.plain.varTypes Tryz.prog).any (Tryz.prog.loopsFrom ·))) = true := by kernel_rfl
theorem j17 : ((Rows.linearEvalRow.wideKeys == (Tryz.f10.params.toList ++ Rows.linearEvalSpec.plain.varTypes Tryz.prog ++ Tryz.f10.resultTypes.toList).any (Tryz.prog.wideKeysFrom ·))) = true := by kernel_rfl
theorem j18 : (Rows.linearEvalSpec.vars.all (Tryz.prog.varReadable ·)) = true := by kernel_rfl
theorem j19 : (Tryz.f10.resultTypes.all (fun t => Tryz.prog.readableRec t && decide (t < Tryz.prog.types.size))) = true := by kernel_rfl
theorem j20 : ((Rows.linearEvalRow.ifacesOut == Tryz.f10.resultTypes.toList.any (Tryz.prog.ifacesRec ·))) = true := by kernel_rfl
theorem j21 : ((Rows.linearEvalRow.loopsOut == Tryz.f10.resultTypes.toList.any (Tryz.prog.loopsFrom ·))) = true := by kernel_rfl
theorem j22 : ((Rows.linearEvalRow.plainKeys == Tryz.prog.plainKeys)) = true := by kernel_rfl
theorem j23 : (Rows.linearEvalRow.shortTexts.isNone) = true := by kernel_rfl
theorem j24 : (Tryz.prog.stopsHeard) = true := by kernel_rfl
theorem j25 : (Tryz.prog.mayEnter) = true := by kernel_rfl
theorem j26 : ((Rows.linearEvalRow.lifted == Tryz.prog.liftsFinal)) = true := by kernel_rfl
theorem j27 : ((Tryz.prog.make == some Rows.linearEvalRow.make)) = true := by kernel_rfl
theorem j28 : ((Rows.linearEvalRow.kinds == (if Rows.linearEvalRow.domain.isEmpty then [] else Tryz.f10.params.toList.map fun t => match Tryz.prog.underlying t with | some (.int k) => some k | _ => none))) = true := by kernel_rfl
theorem j29 : ((Rows.linearEvalRow.pinned == Rows.linearEvalRow.pinnedBy)) = true := by kernel_rfl
theorem j30 : ((Rows.linearEvalRow.veiled == (Tryz.f10.params.toList ++ Rows.linearEvalSpec.plain.varTypes Tryz.prog ++ Tryz.f10.resultTypes.toList).any (Tryz.prog.veiledRec ·))) = true := by kernel_rfl
theorem j31 : (Rows.linearEvalRow.veiledFits Tryz.prog Tryz.f10.params.toList (Tryz.f10.params.toList ++ Rows.linearEvalSpec.plain.varTypes Tryz.prog ++ Tryz.f10.resultTypes.toList)) = true := by kernel_rfl
set_option maxRecDepth 100000 in
theorem closed : joinedFacts Tryz.prog 10 Tryz.f10 Rows.linearEvalSpec Rows.linearEvalRow = true := by
  unfold joinedFacts
  exact (band_true (band_true (band_true (band_true (band_true (band_true (band_true (band_true (band_true (band_true (band_true (band_true (band_true (band_true (band_true (band_true (band_true (band_true (band_true (band_true (band_true (band_true (band_true (band_true (band_true (band_true (band_true (band_true (band_true (band_true (band_true j0 j1) j2) j3) j4) j5) j6) j7) j8) j9) j10) j11) j12) j13) j14) j15) j16) j17) j18) j19) j20) j21) j22) j23) j24) j25) j26) j27) j28) j29) j30) j31)
theorem hw : Rows.linearEvalRow.wfByText (OpenSpec.ofChange Rows.linearEvalSpec) = true := by kernel_rfl
theorem hm : Tryz.pinned.checked.prog.mainIs = some (Rows.linearEvalCard.stood.harness.1, Rows.linearEvalCard.stood.harness.2.toList) := by kernel_rfl
theorem hlk : true = Tryz.pinned.checked.prog.looks [] := by kernel_rfl
theorem hg : false = Rows.linearEvalRow.goesBy Tryz.pinned.checked.prog := by kernel_rfl
theorem hall : ([29, 43, 3].all fun u => !Tryz.prog.wantsStandIn u) = true := by kernel_rfl
theorem hnm : Tryz.prog.funcNamed "relucert/relucertlaw07.LinearEval" = some 10 := by kernel_rfl
end Go.Proofs.YthkkmokbjmempaaGreatDoor.lawLE
