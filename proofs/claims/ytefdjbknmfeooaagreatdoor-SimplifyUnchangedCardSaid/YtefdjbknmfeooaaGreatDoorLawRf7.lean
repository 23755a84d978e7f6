/- For every graph, relucertlaw17.SimplifyUnchanged returns true and leaves its argument as it was: the argument of each operation is not modified, and the results for invalid graphs are zero graphs. The listed package-level variables hold what the program text lays. -/
import Derived.Test.YtefdjbknmfeooaaGreatDoorRows
import Derived.Test.YtefdjbknmfeooaaGreatDoorCards
import Derived.Test.YtefdjbknmfeooaaGreatDoorTie
import Derived.Test.YtefdjbknmfeooaaGreatDoorJSimplifyUnchanged
import Derived.Test.YtefdjbknmfeooaaGreatDoorGI25
import Derived.WalkKit
import Derived.ProofKit
import Derived.LaidMore
import Derived.OpenShut
import Derived.Stop.Joined
import Derived.ChangeOld
import Derived.Below
import Derived.SevenTiedAt
set_option linter.all false
namespace Go.Proofs.YtefdjbknmfeooaaGreatDoor.lawSG
open Go.ChangeShapes Go.WideShapes Go.ChangeAt Go.RowKit
open Go.Proofs.YtefdjbknmfeooaaGreatDoor
set_option linter.unusedVariables false

theorem own : ownKnob Tryz.prog.godebug = none := by kernel_rfl
theorem laidOut : laidOutB Tryz.prog = true := by kernel_rfl
theorem of_laid {W : World} (h : laidMetH Tryz.prog Rows.simplifyUnchangedRow.laid W) : Glob W okT ∧ True := by
  rw [MakeChecks.laidMetH_plain _ _ _ (by kernel_rfl)] at h
  exact ⟨laid_glob h, trivial⟩
theorem door_met (os : Os) (args : Array Value) : laidMetH Tryz.prog Rows.simplifyUnchangedRow.laid ((World.doorLaid Tryz.prog 400 os).forCall (fun _ _ => 0) ⟨#[], args, []⟩).memory :=
  laidMetH_of_parts3 (fuel := 8) (laidMet_of_run' 8 (by kernel_rfl) (by kernel_rfl)) (by kernel_rfl) (by kernel_rfl)
set_option maxRecDepth 100000 in
theorem lifted (os : Os) (started : os.Started) (H : Type) (enc : TypeId × Value → H) :
    ReturnsInHanded {} Tryz.checked os 9 .any (fun w args => (Rows.simplifyUnchangedSpec.pre enc Tryz.prog Tryz.f9 [] false w args ∧ laidMetH Tryz.prog Rows.simplifyUnchangedRow.laid w) ∧ sizedMet enc Tryz.prog Tryz.f9 (OpenSpec.ofChange Rows.simplifyUnchangedSpec) false w args)
      (Rows.simplifyUnchangedSpec.post enc Tryz.prog Tryz.f9 false true false false) := by
  refine returnsInHanded_of_change_and (C := Tryz.checked) (X := fun w _ => laidMetH Tryz.prog Rows.simplifyUnchangedRow.laid w) (fun _ _ _ hh h => h.of_heap hh) own started (by kernel_rfl) Tryz.func9
    (ChangeSpec.witness_shaped (enc := enc) (C := Tryz.checked) (os := os) (X := fun w _ => laidMetH Tryz.prog Rows.simplifyUnchangedRow.laid w) false (World.doorLaid Tryz.prog 400 os) #[.agg #[.int .i64 0, .slice none 0 0, .slice none 0 0]] 8 rfl (World.shaped_of_RefB (by kernel_rfl) (by kernel_rfl)) (by kernel_rfl) (by kernel_rfl) (by kernel_rfl) (door_met os _)) ?_
  intro W base args ds gs before hval0 hW _ _ hL _
  have hval : ∀ (j : Nat) t v, Tryz.f9.params[j]? = some t → args[j]? = some v → Value.okWide Tryz.prog W .any base t v := hval0
  have hW' := hW
  obtain ⟨p, q, hA0, hV, rfl, hfz, hnd⟩ := hW
  have hA : DataW.TrodAll enc Tryz.prog W 0 (fun _ => true) true Tryz.f9.params.toList args.toList ds p := hA0
  rw [Tryz.params9] at hA hval
  obtain ⟨v0, vs0, d0, ds0, pl0, ql0, hargs, rfl, rfl, h0, r0⟩ := trodAll_cons hA
  obtain ⟨rfl, rfl, rfl⟩ := trodAll_nil r0
  obtain rfl : args = #[v0] := by cases args; simp_all
  obtain ⟨rfl, rfl⟩ := trodVars_none hV
  have k0 := h0
  have lt0 : ∀ x ∈ pl0, x.block < W.heap.size := by obtain ⟨m, hm⟩ := k0; exact DataW.trod_lt m _ _ _ hm
  obtain ⟨q0, rfl, hsz0⟩ := okWide_struct Tryz.underlying24 (hval 0 24 v0 rfl rfl)
  obtain ⟨fu0, hf0⟩ := h0
  obtain ⟨_, ⟨x0, rfl, ok0⟩, rv0⟩ := op_Graph _ _ _ _ _ _ _ _ hf0
  have rp0 := arg_agg rv0
  obtain ⟨hG, hz⟩ := of_laid hL
  clear hA0 hval0
  refine (sun_use W rp0 ok0 hG).mono fun e W' ⟨he, bel⟩ => ?_
  subst he
  exact ⟨_, rfl, _, _, _, [], _, [], hW', trodAll_mk1 (shut_bool Tryz.underlying4 _), (trodAll_cons_mk (Below.trod laidOut (by kernel_rfl) (of_decide_eq_true (by kernel_rfl)) k0 bel lt0) trodAll_mk0), rfl, bel.frame _, fun h => by cases h⟩

theorem over : Rows.simplifyUnchangedRow.holds Tryz.pinned (OpenSpec.ofChange Rows.simplifyUnchangedSpec) :=
  OpenClaim.holds_of_wide 9 Tryz.f9 rfl rfl rfl rfl rfl rfl rfl ⟨rfl, rfl, rfl, rfl, rfl⟩ rfl rfl rfl rfl rfl hnm Tryz.func9 closed
    (of_decide_eq_true (by kernel_rfl)) (by unfold Func.isWrapper; first | (rw [if_pos (by decide +kernel)]; kernel_rfl) | (rw [if_neg (by decide +kernel)]; exact ⟨rfl, rfl⟩))
    (fun os started H enc _ => lifted os started H enc)

theorem proved : Rows.SimplifyUnchangedCardSaid :=
  Claim7.holds_tied_plain_at .later [] [.data, .data, .data] true Rows.simplifyUnchangedCard.stood.harness false
    over (fun _ h => by cases h) hw (fun _ h => by cases h) simplifyUnchanged_row_tie rfl ⟨rfl, rfl⟩ hm rfl
    (fun f fn hf hfn => by
      obtain rfl : f = 9 := Option.some.inj (hnm.symm.trans hf) |>.symm
      obtain rfl : fn = Tryz.f9 := (Option.some.inj (Tryz.func9.symm.trans hfn)).symm
      exact ⟨hlk, fun j t ht => by
        rw [Tryz.params9] at ht
        have hm : t ∈ [24] := by simpa using Array.mem_of_getElem? ht
        exact (show Tryz.prog.wantsStandIn t = false by simpa using List.all_eq_true.1 hall t hm)⟩)
    hg
end Go.Proofs.YtefdjbknmfeooaaGreatDoor.lawSG
