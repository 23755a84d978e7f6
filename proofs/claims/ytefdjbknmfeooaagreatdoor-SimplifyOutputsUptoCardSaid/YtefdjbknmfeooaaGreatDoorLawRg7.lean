/- For every graph and every point that are together of bulk at most 1048576, relucertlaw17.SimplifyOutputs returns true and leaves its arguments as they were: the results for a valid graph are valid graphs of no more units with the same outputs. The listed package-level variables hold what the program text lays. -/
import Derived.Test.YtefdjbknmfeooaaGreatDoorRows
import Derived.Test.YtefdjbknmfeooaaGreatDoorCards
import Derived.Test.YtefdjbknmfeooaaGreatDoorTie
import Derived.Test.YtefdjbknmfeooaaGreatDoorJSimplifyOutputsU
import Derived.Test.YtefdjbknmfeooaaGreatDoorGO26
import Derived.WalkKit
import Derived.ProofKit
import Derived.LaidMore
import Derived.OpenShut
import Derived.Stop.Joined
import Derived.ChangeOld
import Derived.Below
import Derived.SevenTiedAt
import Derived.JoinedCond
import Derived.Deep.DeepHandedRow
import Derived.Deep.DeepWitnessRowRef
set_option linter.all false
namespace Go.Proofs.YtefdjbknmfeooaaGreatDoor.lawSO
open Go.ChangeShapes Go.WideShapes Go.ChangeAt Go.RowKit
open Go.Proofs.YtefdjbknmfeooaaGreatDoor
set_option linter.unusedVariables false
theorem own : ownKnob Tryz.prog.godebug = none := by kernel_rfl
theorem laidOut : laidOutB Tryz.prog = true := by kernel_rfl
theorem of_laid {W : World} (h : laidMetH Tryz.prog Rows.simplifyOutputsUptoRow.laid W) : Glob W okT := by
  rw [MakeChecks.laidMetH_plain _ _ _ (by kernel_rfl)] at h
  exact laid_glob h
theorem door_met (os : Os) (args : Array Value) : laidMetH Tryz.prog Rows.simplifyOutputsUptoRow.laid ((World.doorLaid Tryz.prog 400 os).forCall (fun _ _ => 0) ⟨#[], args, []⟩).memory :=
  laidMetH_of_parts3 (fuel := 8) (laidMet_of_run' 8 (by kernel_rfl) (by kernel_rfl)) (by kernel_rfl) (by kernel_rfl)
set_option maxRecDepth 100000 in
theorem contract (H : Type) (enc : TypeId × Value → H) (W : World) (base : Nat) (args : Array Value) (ds gs : List (DataW H)) (before : List MemPlace)
    (hval0 : ∀ (j : Nat) t v, Tryz.f7.params[j]? = some t → args[j]? = some v → Value.okWide Tryz.prog W .any base t v)
    (hW : DataW.Whole enc Tryz.prog Tryz.f7.params.toList Rows.simplifyOutputsSpec.vars false W args.toList ds gs before) (hb : Rows.uptoSmall H (ds ++ gs) = true) (hL : laidMetH Tryz.prog Rows.simplifyOutputsUptoRow.laid W) :
    Calls Tryz.prog 7 args W fun e W' => ∃ v, e = .returned v ∧ Rows.simplifyOutputsSpec.post enc Tryz.prog Tryz.f7 false true false false W args v W' := by
  have hval : ∀ (j : Nat) t v, Tryz.f7.params[j]? = some t → args[j]? = some v → Value.okWide Tryz.prog W .any base t v := hval0
  have hW' := hW
  obtain ⟨p, q, hA0, hV, rfl, hfz, hnd⟩ := hW
  have hA : DataW.TrodAll enc Tryz.prog W 0 (fun _ => true) true Tryz.f7.params.toList args.toList ds p := hA0
  rw [Tryz.params7] at hA hval
  obtain ⟨v0, vs0, d0, ds0, pl0, ql0, hargs, rfl, rfl, h0, r0⟩ := trodAll_cons hA
  obtain ⟨v1, vs1, d1, ds1, pl1, ql1, rfl, rfl, rfl, h1, r1⟩ := trodAll_cons r0
  obtain ⟨rfl, rfl, rfl⟩ := trodAll_nil r1
  obtain rfl : args = #[v0, v1] := by cases args; simp_all
  obtain ⟨rfl, rfl⟩ := trodVars_none hV
  have hb2 : Rows.uptoBulkAll (H := H) ([d0, d1] ++ []) ≤ 1048576 := of_decide_eq_true hb
  simp only [List.append_nil, Rows.uptoBulkAll] at hb2
  have k0 := h0
  have lt0 : ∀ x ∈ pl0, x.block < W.heap.size := by obtain ⟨m, hm⟩ := k0; exact DataW.trod_lt m _ _ _ hm
  have k1 := h1
  have lt1 : ∀ x ∈ pl1, x.block < W.heap.size := by obtain ⟨m, hm⟩ := k1; exact DataW.trod_lt m _ _ _ hm
  obtain ⟨q0, rfl, hsz0⟩ := okWide_struct Tryz.underlying24 (hval 0 24 v0 rfl rfl)
  obtain ⟨fu0, hf0⟩ := h0
  obtain ⟨_, ⟨x0, rfl, ok0⟩, rv0⟩ := op_Graph _ _ _ _ _ _ _ _ hf0
  have rp0 := arg_agg rv0
  obtain ⟨a1, n1, m1, rfl⟩ := okWide_slice Tryz.underlying29 (hval 1 29 v1 rfl rfl)
  obtain ⟨fu1, hf1⟩ := h1
  obtain ⟨_, ⟨x1, rfl, ok1⟩, rv1⟩ := op_LRat _ _ _ _ _ _ _ _ hf1
  have rp1 := arg_one rfl rv1
  have hG := of_laid hL
  clear hA0 hval0
  refine (sou_use W rp0 rp1 ok0 ok1 (show Rows.uptoBulk d1 ≤ 1048576 by omega) hG).mono fun e W' ⟨he, bel⟩ => ?_
  subst he
  exact ⟨_, rfl, _, _, _, [], _, [], hW', trodAll_mk1 (shut_bool Tryz.underlying4 _), (trodAll_cons_mk (Below.trod laidOut (by kernel_rfl) (of_decide_eq_true (by kernel_rfl)) k0 bel lt0) (trodAll_cons_mk (Below.trod laidOut (by kernel_rfl) (of_decide_eq_true (by kernel_rfl)) k1 bel lt1) trodAll_mk0)), rfl, bel.frame _, fun h => by cases h⟩
theorem reads (os : Os) {H : Type} (enc : TypeId × Value → H) : ∃ places, DataW.whole enc Tryz.prog ((World.doorLaid Tryz.prog 400 os).forCall (fun _ _ => 0) ⟨#[], #[.agg #[.int .i64 0, .slice none 0 0, .slice none 0 0], .slice none 0 0], []⟩).memory Tryz.f7.params.toList Rows.simplifyOutputsSpec.vars false (#[.agg #[.int .i64 0, .slice none 0 0, .slice none 0 0], .slice none 0 0] : Array Value).toList 8 = some ([.agg [.lit (.int .i64 0), .nil, .nil], .nil], [], places) :=
  ⟨[], by kernel_rfl⟩
set_option maxRecDepth 100000 in
theorem lifted (os : Os) (started : os.Started) (H : Type) (enc : TypeId × Value → H) (F : Stop.Interp) :
    ReturnsInHanded {} Tryz.checked os 7 .any ((Rows.OpenSpec.upto Rows.simplifyOutputsSpec).preRow enc Tryz.prog Tryz.f7 Rows.simplifyOutputsUptoRow.domain false Rows.simplifyOutputsUptoRow.laid) (((Rows.OpenSpec.upto Rows.simplifyOutputsSpec).at F).post enc Tryz.prog Tryz.f7 false true false false) := by
  obtain ⟨places, hx⟩ := reads os enc
  refine returnsInHanded_of_row (C := Tryz.checked) (s := Rows.OpenSpec.upto Rows.simplifyOutputsSpec) own started (by kernel_rfl) Tryz.func7
    (witness_row_atRef (enc := enc) (C := Tryz.checked) false (World.doorLaid Tryz.prog 400 os) #[.agg #[.int .i64 0, .slice none 0 0, .slice none 0 0], .slice none 0 0] rfl (by kernel_rfl) (by kernel_rfl) (by kernel_rfl)
      (OpenSpec.preRow_of_cond 8 hx (by kernel_rfl) (fun k hk => by cases hk; kernel_rfl) (by kernel_rfl) (door_met os _))) ?_
  intro W base args ds gs before hval hW _ hcond _ hL _ _
  exact contract H enc W base args ds gs before hval hW (hcond _ rfl) hL
set_option maxRecDepth 100000 in
theorem over : Rows.simplifyOutputsUptoRow.holds Tryz.pinned (Rows.OpenSpec.upto Rows.simplifyOutputsSpec) :=
  OpenClaim.holds_of_cond 7 Tryz.f7 rfl rfl rfl rfl rfl rfl rfl ⟨rfl, rfl, rfl, rfl, rfl⟩ rfl rfl rfl rfl rfl hnm Tryz.func7 closed
    (of_decide_eq_true (by kernel_rfl)) (by unfold Func.isWrapper; first | (rw [if_pos (by decide +kernel)]; kernel_rfl) | (rw [if_neg (by decide +kernel)]; exact ⟨rfl, rfl⟩))
    (fun os started H enc _ F => by rw [OpenClaim.pre_eq_preRow]; exact lifted os started H enc F)
theorem proved : Rows.SimplifyOutputsUptoCardSaid :=
  Claim7.holds_tied_plain_at .later [] [.data, .data, .data] true Rows.simplifyOutputsUptoCard.stood.harness false
    over (fun _ h => by cases h) hw (fun _ h => by cases h) simplifyOutputsUpto_row_tie rfl ⟨rfl, rfl⟩ hm rfl
    (fun f fn hf hfn => by
      obtain rfl : f = 7 := Option.some.inj (hnm.symm.trans hf) |>.symm
      obtain rfl : fn = Tryz.f7 := (Option.some.inj (Tryz.func7.symm.trans hfn)).symm
      exact ⟨hlk, fun j t ht => by
        rw [Tryz.params7] at ht
        have hm : t ∈ [24, 29] := by simpa using Array.mem_of_getElem? ht
        exact (show Tryz.prog.wantsStandIn t = false by simpa using List.all_eq_true.1 hall t hm)⟩)
    hg
end Go.Proofs.YtefdjbknmfeooaaGreatDoor.lawSO
