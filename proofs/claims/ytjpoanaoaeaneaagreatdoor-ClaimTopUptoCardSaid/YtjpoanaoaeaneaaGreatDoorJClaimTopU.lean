/- relucert.relucertlaw20.ClaimTop: what the row and its card force, part by part. -/
import Derived.Test.YtjpoanaoaeaneaaGreatDoorRows
import Derived.Test.YtjpoanaoaeaneaaGreatDoorCards
import Derived.WalkKit
import Derived.ProofKit
import Derived.Stop.Joined
import Derived.SevenTiedAt
set_option linter.all false
namespace Go.Proofs.YtjpoanaoaeaneaaGreatDoor.lawCT
open Go.Proofs.YtjpoanaoaeaneaaGreatDoor
theorem band_true {a b : Bool} (ha : a = true) (hb : b = true) : (a && b) = true := by rw [ha, hb]; rfl
theorem j0 : (Rows.claimTopUptoRow.wf (OpenSpec.ofChange Rows.claimTopSpec)) = true := by kernel_rfl
theorem j1 : (laidOutB Tryz.prog) = true := by kernel_rfl
theorem j2 : (mapsRowed Tryz.prog) = true := by kernel_rfl
theorem j3 : (Tryz.f11.params.all (Tryz.prog.readableRec ·)) = true := by kernel_rfl
theorem j4 : (namedTie Tryz.prog Rows.claimTopUptoRow.named Rows.claimTopSpec.vars) = true := by kernel_rfl
theorem j5 : ((Rows.claimTopUptoRow.stops == [])) = true := by kernel_rfl
theorem j6 : ((Tryz.prog.stops == [])) = true := by kernel_rfl
theorem j7 : ((Rows.claimTopUptoRow.knobs == [])) = true := by kernel_rfl
theorem j8 : ((Tryz.prog.stopKnobs == [])) = true := by kernel_rfl
theorem j9 : ((Rows.claimTopUptoRow.inPlace == Tryz.prog.inPlace 11)) = true := by kernel_rfl
theorem j10 : ((Rows.claimTopUptoRow.unfollowed == Tryz.prog.unfollowed 11)) = true := by kernel_rfl
theorem j11 : ((Rows.claimTopUptoRow.recurses == Tryz.prog.recurses 11)) = true := by kernel_rfl
theorem j12 : ((Rows.claimTopUptoRow.named == Tryz.prog.varsNamed 11)) = true := by kernel_rfl
theorem j13 : ((Rows.claimTopUptoRow.maps == (Tryz.f11.params.toList ++ Rows.claimTopSpec.plain.varTypes Tryz.prog).any (Tryz.prog.mapsRec ·))) = true := by kernel_rfl
theorem j14 : ((Rows.claimTopUptoRow.ifaces == (Tryz.f11.params.toList ++ Rows.claimTopSpec.plain.varTypes Tryz.prog).any (Tryz.prog.ifacesRec ·))) = true := by kernel_rfl
theorem j15 : ((Rows.claimTopUptoRow.mapsOut == Tryz.prog.mapsAmong Tryz.f11.resultTypes.toList)) = true := by kernel_rfl
theorem j16 : ((Rows.claimTopUptoRow.loops == (Tryz.f11.params.toList ++ Rows.claimTopSpec.plain.varTypes Tryz.prog).any (Tryz.prog.loopsFrom ·))) = true := by kernel_rfl
theorem j17 : ((Rows.claimTopUptoRow.wideKeys == (Tryz.f11.params.toList ++ Rows.claimTopSpec.plain.varTypes Tryz.prog ++ Tryz.f11.resultTypes.toList).any (Tryz.prog.wideKeysFrom ·))) = true := by kernel_rfl
theorem j18 : (Rows.claimTopSpec.vars.all (Tryz.prog.varReadable ·)) = true := by kernel_rfl
theorem j19 : (Tryz.f11.resultTypes.all (fun t => Tryz.prog.readableRec t && decide (t < Tryz.prog.types.size))) = true := by kernel_rfl
theorem j20 : ((Rows.claimTopUptoRow.ifacesOut == Tryz.f11.resultTypes.toList.any (Tryz.prog.ifacesRec ·))) = true := by kernel_rfl
theorem j21 : ((Rows.claimTopUptoRow.loopsOut == Tryz.f11.resultTypes.toList.any (Tryz.prog.loopsFrom ·))) = true := by kernel_rfl
theorem j22 : ((Rows.claimTopUptoRow.plainKeys == Tryz.prog.plainKeys)) = true := by kernel_rfl
theorem j23 : (Rows.claimTopUptoRow.shortTexts.isNone) = true := by kernel_rfl
theorem j24 : (Tryz.prog.stopsHeard) = true := by kernel_rfl
theorem j25 : (Tryz.prog.mayEnter) = true := by kernel_rfl
theorem j26 : ((Rows.claimTopUptoRow.lifted == Tryz.prog.liftsFinal)) = true := by kernel_rfl
theorem j27 : ((Tryz.prog.make == some Rows.claimTopUptoRow.make)) = true := by kernel_rfl
theorem j28 : ((Rows.claimTopUptoRow.kinds == (if Rows.claimTopUptoRow.domain.isEmpty then [] else Tryz.f11.params.toList.map fun t => match Tryz.prog.underlying t with | some (.int k) => some k | _ => none))) = true := by kernel_rfl
theorem j29 : ((Rows.claimTopUptoRow.pinned == Rows.claimTopUptoRow.pinnedBy)) = true := by kernel_rfl
theorem j30 : ((Rows.claimTopUptoRow.veiled == (Tryz.f11.params.toList ++ Rows.claimTopSpec.plain.varTypes Tryz.prog ++ Tryz.f11.resultTypes.toList).any (Tryz.prog.veiledRec ·))) = true := by kernel_rfl
theorem j31 : (Rows.claimTopUptoRow.veiledFits Tryz.prog Tryz.f11.params.toList (Tryz.f11.params.toList ++ Rows.claimTopSpec.plain.varTypes Tryz.prog ++ Tryz.f11.resultTypes.toList)) = true := by kernel_rfl
set_option maxRecDepth 100000 in
theorem closed : joinedFacts Tryz.prog 11 Tryz.f11 Rows.claimTopSpec Rows.claimTopUptoRow = true := by
  unfold joinedFacts
  exact (band_true (band_true (band_true (band_true (band_true (band_true (band_true (band_true (band_true (band_true (band_true (band_true (band_true (band_true (band_true (band_true (band_true (band_true (band_true (band_true (band_true (band_true (band_true (band_true (band_true (band_true (band_true (band_true (band_true (band_true (band_true j0 j1) j2) j3) j4) j5) j6) j7) j8) j9) j10) j11) j12) j13) j14) j15) j16) j17) j18) j19) j20) j21) j22) j23) j24) j25) j26) j27) j28) j29) j30) j31)
theorem hw : Rows.claimTopUptoRow.wfByText (Rows.OpenSpec.upto Rows.claimTopSpec) = true := by kernel_rfl
theorem hm : Tryz.pinned.checked.prog.mainIs = some (Rows.claimTopUptoCard.stood.harness.1, Rows.claimTopUptoCard.stood.harness.2.toList) := by kernel_rfl
theorem hlk : true = Tryz.pinned.checked.prog.looks [] := by kernel_rfl
theorem hg : false = Rows.claimTopUptoRow.goesBy Tryz.pinned.checked.prog := by kernel_rfl
theorem hall : ([59, 5].all fun u => !Tryz.prog.wantsStandIn u) = true := by kernel_rfl
theorem hnm : Tryz.prog.funcNamed "relucert/relucertlaw20.ClaimTop" = some 11 := by kernel_rfl
end Go.Proofs.YtjpoanaoaeaneaaGreatDoor.lawCT
