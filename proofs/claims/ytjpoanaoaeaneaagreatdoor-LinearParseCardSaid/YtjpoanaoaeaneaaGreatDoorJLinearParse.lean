/- relucert.relucertlaw07.LinearParse: what the row and its card force, part by part. -/
import Derived.Test.YtjpoanaoaeaneaaGreatDoorRows
import Derived.Test.YtjpoanaoaeaneaaGreatDoorCards
import Derived.WalkKit
import Derived.ProofKit
import Derived.Stop.Joined
import Derived.SevenTiedAt
set_option linter.all false
namespace Go.Proofs.YtjpoanaoaeaneaaGreatDoor.lawLP
open Go.Proofs.YtjpoanaoaeaneaaGreatDoor
theorem band_true {a b : Bool} (ha : a = true) (hb : b = true) : (a && b) = true := by rw [ha, hb]; rfl
theorem j0 : (Rows.linearParseRow.wf (OpenSpec.ofChange Rows.linearParseSpec)) = true := by kernel_rfl
theorem j1 : (laidOutB Tryz.prog) = true := by kernel_rfl
theorem j2 : (mapsRowed Tryz.prog) = true := by kernel_rfl
theorem j3 : (Tryz.f4.params.all (Tryz.prog.readableRec ·)) = true := by kernel_rfl
theorem j4 : (namedTie Tryz.prog Rows.linearParseRow.named Rows.linearParseSpec.vars) = true := by kernel_rfl
theorem j5 : ((Rows.linearParseRow.stops == [])) = true := by kernel_rfl
theorem j6 : ((Tryz.prog.stops == [])) = true := by kernel_rfl
theorem j7 : ((Rows.linearParseRow.knobs == [])) = true := by kernel_rfl
theorem j8 : ((Tryz.prog.stopKnobs == [])) = true := by kernel_rfl
theorem j9 : ((Rows.linearParseRow.inPlace == Tryz.prog.inPlace 4)) = true := by kernel_rfl
theorem j10 : ((Rows.linearParseRow.unfollowed == Tryz.prog.unfollowed 4)) = true := by kernel_rfl
theorem j11 : ((Rows.linearParseRow.recurses == Tryz.prog.recurses 4)) = true := by kernel_rfl
theorem j12 : ((Rows.linearParseRow.named == Tryz.prog.varsNamed 4)) = true := by kernel_rfl
theorem j13 : ((Rows.linearParseRow.maps == (Tryz.f4.params.toList ++ Rows.linearParseSpec.plain.varTypes Tryz.prog).any (Tryz.prog.mapsRec ·))) = true := by kernel_rfl
theorem j14 : ((Rows.linearParseRow.ifaces == (Tryz.f4.params.toList ++ Rows.linearParseSpec.plain.varTypes Tryz.prog).any (Tryz.prog.ifacesRec ·))) = true := by kernel_rfl
theorem j15 : ((Rows.linearParseRow.mapsOut == Tryz.prog.mapsAmong Tryz.f4.resultTypes.toList)) = true := by kernel_rfl
theorem j16 : ((Rows.linearParseRow.loops == (Tryz.f4.params.toList ++ Rows.linearParseSpec.plain.varTypes Tryz.prog).any (Tryz.prog.loopsFrom ·))) = true := by kernel_rfl
theorem j17 : ((Rows.linearParseRow.wideKeys == (Tryz.f4.params.toList ++ Rows.linearParseSpec.plain.varTypes Tryz.prog ++ Tryz.f4.resultTypes.toList).any (Tryz.prog.wideKeysFrom ·))) = true := by kernel_rfl
theorem j18 : (Rows.linearParseSpec.vars.all (Tryz.prog.varReadable ·)) = true := by kernel_rfl
theorem j19 : (Tryz.f4.resultTypes.all (fun t => Tryz.prog.readableRec t && decide (t < Tryz.prog.types.size))) = true := by kernel_rfl
theorem j20 : ((Rows.linearParseRow.ifacesOut == Tryz.f4.resultTypes.toList.any (Tryz.prog.ifacesRec ·))) = true := by kernel_rfl
theorem j21 : ((Rows.linearParseRow.loopsOut == Tryz.f4.resultTypes.toList.any (Tryz.prog.loopsFrom ·))) = true := by kernel_rfl
theorem j22 : ((Rows.linearParseRow.plainKeys == Tryz.prog.plainKeys)) = true := by kernel_rfl
theorem j23 : (Rows.linearParseRow.shortTexts.isNone) = true := by kernel_rfl
theorem j24 : (Tryz.prog.stopsHeard) = true := by kernel_rfl
theorem j25 : (Tryz.prog.mayEnter) = true := by kernel_rfl
theorem j26 : ((Rows.linearParseRow.lifted == Tryz.prog.liftsFinal)) = true := by kernel_rfl
theorem j27 : ((Tryz.prog.make == some Rows.linearParseRow.make)) = true := by kernel_rfl
theorem j28 : ((Rows.linearParseRow.kinds == (if Rows.linearParseRow.domain.isEmpty then [] else Tryz.f4.params.toList.map fun t => match Tryz.prog.underlying t with | some (.int k) => some k | _ => none))) = true := by kernel_rfl
theorem j29 : ((Rows.linearParseRow.pinned == Rows.linearParseRow.pinnedBy)) = true := by kernel_rfl
theorem j30 : ((Rows.linearParseRow.veiled == (Tryz.f4.params.toList ++ Rows.linearParseSpec.plain.varTypes Tryz.prog ++ Tryz.f4.resultTypes.toList).any (Tryz.prog.veiledRec ·))) = true := by kernel_rfl
theorem j31 : (Rows.linearParseRow.veiledFits Tryz.prog Tryz.f4.params.toList (Tryz.f4.params.toList ++ Rows.linearParseSpec.plain.varTypes Tryz.prog ++ Tryz.f4.resultTypes.toList)) = true := by kernel_rfl
set_option maxRecDepth 100000 in
theorem closed : joinedFacts Tryz.prog 4 Tryz.f4 Rows.linearParseSpec Rows.linearParseRow = true := by
  unfold joinedFacts
  exact (band_true (band_true (band_true (band_true (band_true (band_true (band_true (band_true (band_true (band_true (band_true (band_true (band_true (band_true (band_true (band_true (band_true (band_true (band_true (band_true (band_true (band_true (band_true (band_true (band_true (band_true (band_true (band_true (band_true (band_true (band_true j0 j1) j2) j3) j4) j5) j6) j7) j8) j9) j10) j11) j12) j13) j14) j15) j16) j17) j18) j19) j20) j21) j22) j23) j24) j25) j26) j27) j28) j29) j30) j31)
theorem hw : Rows.linearParseRow.wfByText (OpenSpec.ofChange Rows.linearParseSpec) = true := by kernel_rfl
theorem hm : Tryz.pinned.checked.prog.mainIs = some (Rows.linearParseCard.stood.harness.1, Rows.linearParseCard.stood.harness.2.toList) := by kernel_rfl
theorem hlk : true = Tryz.pinned.checked.prog.looks [] := by kernel_rfl
theorem hg : false = Rows.linearParseRow.goesBy Tryz.pinned.checked.prog := by kernel_rfl
theorem hall : ([9].all fun u => !Tryz.prog.wantsStandIn u) = true := by kernel_rfl
theorem hnm : Tryz.prog.funcNamed "relucert/relucertlaw07.LinearParse" = some 4 := by kernel_rfl
end Go.Proofs.YtjpoanaoaeaneaaGreatDoor.lawLP
