/- relucert.relucertlaw20.ClaimRows: what the row and its card force, part by part. -/
import Derived.Test.YtjpoanaoaeaneaaGreatDoorRows
import Derived.Test.YtjpoanaoaeaneaaGreatDoorCards
import Derived.WalkKit
import Derived.ProofKit
import Derived.Stop.Joined
import Derived.SevenTiedAt
set_option linter.all false
namespace Go.Proofs.YtjpoanaoaeaneaaGreatDoor.lawCR
open Go.Proofs.YtjpoanaoaeaneaaGreatDoor
theorem band_true {a b : Bool} (ha : a = true) (hb : b = true) : (a && b) = true := by rw [ha, hb]; rfl
theorem j0 : (Rows.claimRowsUptoRow.wf (OpenSpec.ofChange Rows.claimRowsSpec)) = true := by kernel_rfl
theorem j1 : (laidOutB Tryz.prog) = true := by kernel_rfl
theorem j2 : (mapsRowed Tryz.prog) = true := by kernel_rfl
theorem j3 : (Tryz.f14.params.all (Tryz.prog.readableRec ·)) = true := by kernel_rfl
theorem j4 : (namedTie Tryz.prog Rows.claimRowsUptoRow.named Rows.claimRowsSpec.vars) = true := by kernel_rfl
theorem j5 : ((Rows.claimRowsUptoRow.stops == [])) = true := by kernel_rfl
theorem j6 : ((Tryz.prog.stops == [])) = true := by kernel_rfl
theorem j7 : ((Rows.claimRowsUptoRow.knobs == [])) = true := by kernel_rfl
theorem j8 : ((Tryz.prog.stopKnobs == [])) = true := by kernel_rfl
theorem j9 : ((Rows.claimRowsUptoRow.inPlace == Tryz.prog.inPlace 14)) = true := by kernel_rfl
theorem j10 : ((Rows.claimRowsUptoRow.unfollowed == Tryz.prog.unfollowed 14)) = true := by kernel_rfl
theorem j11 : ((Rows.claimRowsUptoRow.recurses == Tryz.prog.recurses 14)) = true := by kernel_rfl
theorem j12 : ((Rows.claimRowsUptoRow.named == Tryz.prog.varsNamed 14)) = true := by kernel_rfl
theorem j13 : ((Rows.claimRowsUptoRow.maps == (Tryz.f14.params.toList ++ Rows.claimRowsSpec.plain.varTypes Tryz.prog).any (Tryz.prog.mapsRec ·))) = true := by kernel_rfl
theorem j14 : ((Rows.claimRowsUptoRow.ifaces == (Tryz.f14.params.toList ++ Rows.claimRowsSpec.plain.varTypes Tryz.prog).any (Tryz.prog.ifacesRec ·))) = true := by kernel_rfl
theorem j15 : ((Rows.claimRowsUptoRow.mapsOut == Tryz.prog.mapsAmong Tryz.f14.resultTypes.toList)) = true := by kernel_rfl
theorem j16 : ((Rows.claimRowsUptoRow.loops == (Tryz.f14.params.toList ++ Rows.claimRowsSpec.plain.varTypes Tryz.prog).any (Tryz.prog.loopsFrom ·))) = true := by kernel_rfl
theorem j17 : ((Rows.claimRowsUptoRow.wideKeys == (Tryz.f14.params.toList ++ Rows.claimRowsSpec.plain.varTypes Tryz.prog ++ Tryz.f14.resultTypes.toList).any (Tryz.prog.wideKeysFrom ·))) = true := by kernel_rfl
theorem j18 : (Rows.claimRowsSpec.vars.all (Tryz.prog.varReadable ·)) = true := by kernel_rfl
theorem j19 : (Tryz.f14.resultTypes.all (fun t => Tryz.prog.readableRec t && decide (t < Tryz.prog.types.size))) = true := by kernel_rfl
theorem j20 : ((Rows.claimRowsUptoRow.ifacesOut == Tryz.f14.resultTypes.toList.any (Tryz.prog.ifacesRec ·))) = true := by kernel_rfl
theorem j21 : ((Rows.claimRowsUptoRow.loopsOut == Tryz.f14.resultTypes.toList.any (Tryz.prog.loopsFrom ·))) = true := by kernel_rfl
theorem j22 : ((Rows.claimRowsUptoRow.plainKeys == Tryz.prog.plainKeys)) = true := by kernel_rfl
theorem j23 : (Rows.claimRowsUptoRow.shortTexts.isNone) = true := by kernel_rfl
theorem j24 : (Tryz.prog.stopsHeard) = true := by kernel_rfl
theorem j25 : (Tryz.prog.mayEnter) = true := by kernel_rfl
theorem j26 : ((Rows.claimRowsUptoRow.lifted == Tryz.prog.liftsFinal)) = true := by kernel_rfl
theorem j27 : ((Tryz.prog.make == some Rows.claimRowsUptoRow.make)) = true := by kernel_rfl
theorem j28 : ((Rows.claimRowsUptoRow.kinds == (if Rows.claimRowsUptoRow.domain.isEmpty then [] else Tryz.f14.params.toList.map fun t => match Tryz.prog.underlying t with | some (.int k) => some k | _ => none))) = true := by kernel_rfl
theorem j29 : ((Rows.claimRowsUptoRow.pinned == Rows.claimRowsUptoRow.pinnedBy)) = true := by kernel_rfl
theorem j30 : ((Rows.claimRowsUptoRow.veiled == (Tryz.f14.params.toList ++ Rows.claimRowsSpec.plain.varTypes Tryz.prog ++ Tryz.f14.resultTypes.toList).any (Tryz.prog.veiledRec ·))) = true := by kernel_rfl
theorem j31 : (Rows.claimRowsUptoRow.veiledFits Tryz.prog Tryz.f14.params.toList (Tryz.f14.params.toList ++ Rows.claimRowsSpec.plain.varTypes Tryz.prog ++ Tryz.f14.resultTypes.toList)) = true := by kernel_rfl
set_option maxRecDepth 100000 in
theorem closed : joinedFacts Tryz.prog 14 Tryz.f14 Rows.claimRowsSpec Rows.claimRowsUptoRow = true := by
  unfold joinedFacts
  exact (band_true (band_true (band_true (band_true (band_true (band_true (band_true (band_true (band_true (band_true (band_true (band_true (band_true (band_true (band_true (band_true (band_true (band_true (band_true (band_true (band_true (band_true (band_true (band_true (band_true (band_true (band_true (band_true (band_true (band_true (band_true j0 j1) j2) j3) j4) j5) j6) j7) j8) j9) j10) j11) j12) j13) j14) j15) j16) j17) j18) j19) j20) j21) j22) j23) j24) j25) j26) j27) j28) j29) j30) j31)
theorem hw : Rows.claimRowsUptoRow.wfByText (Rows.OpenSpec.upto Rows.claimRowsSpec) = true := by kernel_rfl
theorem hm : Tryz.pinned.checked.prog.mainIs = some (Rows.claimRowsUptoCard.stood.harness.1, Rows.claimRowsUptoCard.stood.harness.2.toList) := by kernel_rfl
theorem hlk : true = Tryz.pinned.checked.prog.looks [] := by kernel_rfl
theorem hg : false = Rows.claimRowsUptoRow.goesBy Tryz.pinned.checked.prog := by kernel_rfl
theorem hall : ([50, 26, 59].all fun u => !Tryz.prog.wantsStandIn u) = true := by kernel_rfl
theorem hnm : Tryz.prog.funcNamed "relucert/relucertlaw20.ClaimRows" = some 14 := by kernel_rfl
end Go.Proofs.YtjpoanaoaeaneaaGreatDoor.lawCR
