/- For all rows of bulk at most 1048576 and every number of variables, relucertlaw31.FourierFeasible returns true and leaves its arguments as they were: Feasible agrees with the definition of layer 27, and returns ErrArg for other variables. The listed package-level variables hold what the program text lays. -/
import Derived.Test.YtdaonnnlgfhlaaaGreatDoorRows
import Derived.Test.YtdaonnnlgfhlaaaGreatDoorCards
import Derived.Test.YtdaonnnlgfhlaaaGreatDoorTie
import Derived.Test.YtdaonnnlgfhlaaaGreatDoorJFourierFeasibleU
import Derived.Test.YtdaonnnlgfhlaaaGreatDoorGF27
import Derived.WalkKit
import Derived.ProofKit
import Derived.LaidMore
import Derived.OpenShut
import Derived.Stop.Joined
import Derived.ChangeOld
import Derived.Below
import Derived.SevenTiedAt
import Derived.JoinedCond
import Derived.Deep.DeepHandedRow
import Derived.Deep.DeepWitnessRowRef
set_option linter.all false
namespace Go.Proofs.YtdaonnnlgfhlaaaGreatDoor.lawFF
open Go.ChangeShapes Go.WideShapes Go.ChangeAt Go.RowKit
open Go.Proofs.YtdaonnnlgfhlaaaGreatDoor
set_option linter.unusedVariables false
theorem own : ownKnob Tryz.prog.godebug = none := by kernel_rfl
theorem Ziz : laidOutB Tryz.prog = true := by kernel_rfl
theorem Zsh {W : World} (h : laidMetH Tryz.prog Rows.fourierFeasibleUptoRow.laid W) : Glob W okT := by
  rw [MakeChecks.laidMetH_plain _ _ _ (by kernel_rfl)] at h
  exact ZkL h
theorem ZoZ (os : Os) (args : Array Value) : laidMetH Tryz.prog Rows.fourierFeasibleUptoRow.laid ((World.doorLaid Tryz.prog 400 os).forCall (fun _ _ => 0) ⟨#[], args, []⟩).memory :=
  laidMetH_of_parts3 (fuel := 8) (laidMet_of_run' 8 (by kernel_rfl) (by kernel_rfl)) (by kernel_rfl) (by kernel_rfl)
set_option maxRecDepth 100000 in
theorem Zo1 (H : Type) (enc : TypeId × Value → H) (W : World) (base : Nat) (args : Array Value) (ds gs : List (DataW H)) (before : List MemPlace)
    (hval0 : ∀ (j : Nat) t v, Tryz.f6.params[j]? = some t → args[j]? = some v → Value.okWide Tryz.prog W .any base t v)
    (hW : DataW.Whole enc Tryz.prog Tryz.f6.params.toList Rows.fourierFeasibleSpec.vars false W args.toList ds gs before) (hb : Rows.uptoSmall H (ds ++ gs) = true) (hL : laidMetH Tryz.prog Rows.fourierFeasibleUptoRow.laid W) :
    Calls Tryz.prog 6 args W fun e W' => ∃ v, e = .returned v ∧ Rows.fourierFeasibleSpec.post enc Tryz.prog Tryz.f6 false true false false W args v W' := by
  have hval : ∀ (j : Nat) t v, Tryz.f6.params[j]? = some t → args[j]? = some v → Value.okWide Tryz.prog W .any base t v := hval0
  have hW' := hW
  obtain ⟨p, q, hA0, hV, rfl, hfz, hnd⟩ := hW
  have hA : DataW.TrodAll enc Tryz.prog W 0 (fun _ => true) true Tryz.f6.params.toList args.toList ds p := hA0
  rw [Tryz.params6] at hA hval
  obtain ⟨v0, vs0, d0, ds0, pl0, ql0, hargs, rfl, rfl, h0, r0⟩ := trodAll_cons hA
  obtain ⟨v1, vs1, d1, ds1, pl1, ql1, rfl, rfl, rfl, h1, r1⟩ := trodAll_cons r0
  obtain ⟨rfl, rfl, rfl⟩ := trodAll_nil r1
  obtain rfl : args = #[v0, v1] := by cases args; simp_all
  obtain ⟨rfl, rfl⟩ := trodVars_none hV
  have hb2 : Rows.uptoBulkAll (H := H) ([d0, d1] ++ []) ≤ 1048576 := of_decide_eq_true hb
  simp only [List.append_nil, Rows.uptoBulkAll] at hb2
  have k0 := h0
  have lt0 : ∀ x ∈ pl0, x.block < W.heap.size := by obtain ⟨m, hm⟩ := k0; exact DataW.trod_lt m _ _ _ hm
  have k1 := h1
  have lt1 : ∀ x ∈ pl1, x.block < W.heap.size := by obtain ⟨m, hm⟩ := k1; exact DataW.trod_lt m _ _ _ hm
  obtain ⟨a0, n0, m0, rfl⟩ := okWide_slice Tryz.underlying40 (hval 0 40 v0 rfl rfl)
  obtain ⟨fu0, hf0⟩ := h0
  obtain ⟨_, ⟨x0, rfl, ok0⟩, rv0⟩ := Zhm _ _ _ _ _ _ _ _ hf0
  have rp0 := Zrf rfl rv0
  obtain ⟨z1, rfl, _⟩ := open_int Tryz.underlying3 (hval 1 3 v1 rfl rfl) h1
  have hG := Zsh hL
  clear hA0 hval0
  refine (Zwt W (z := z1) rp0 ok0 (show Rows.uptoBulk d0 ≤ 1048576 by omega) hG).mono fun e W' ⟨he, bel⟩ => ?_
  subst he
  exact ⟨_, rfl, _, _, _, [], _, [], hW', trodAll_mk1 (shut_bool Tryz.underlying4 _), (trodAll_cons_mk (Below.trod Ziz (by kernel_rfl) (of_decide_eq_true (by kernel_rfl)) k0 bel lt0) (trodAll_cons_mk (Below.trod Ziz (by kernel_rfl) (of_decide_eq_true (by kernel_rfl)) k1 bel lt1) trodAll_mk0)), rfl, bel.frame _, fun h => by cases h⟩
theorem ZyM (os : Os) {H : Type} (enc : TypeId × Value → H) : ∃ places, DataW.whole enc Tryz.prog ((World.doorLaid Tryz.prog 400 os).forCall (fun _ _ => 0) ⟨#[], #[.slice none 0 0, .int .i64 0], []⟩).memory Tryz.f6.params.toList Rows.fourierFeasibleSpec.vars false (#[.slice none 0 0, .int .i64 0] : Array Value).toList 8 = some ([.nil, .lit (.int .i64 0)], [], places) :=
  ⟨[], by kernel_rfl⟩
set_option maxRecDepth 100000 in
theorem lifted (os : Os) (started : os.Started) (H : Type) (enc : TypeId × Value → H) (F : Stop.Interp) :
    ReturnsInHanded {} Tryz.checked os 6 .any ((Rows.OpenSpec.upto Rows.fourierFeasibleSpec).preRow enc Tryz.prog Tryz.f6 Rows.fourierFeasibleUptoRow.domain false Rows.fourierFeasibleUptoRow.laid) (((Rows.OpenSpec.upto Rows.fourierFeasibleSpec).at F).post enc Tryz.prog Tryz.f6 false true false false) := by
  obtain ⟨places, hx⟩ := ZyM os enc
  refine returnsInHanded_of_row (C := Tryz.checked) (s := Rows.OpenSpec.upto Rows.fourierFeasibleSpec) own started (by kernel_rfl) Tryz.func6
    (witness_row_atRef (enc := enc) (C := Tryz.checked) false (World.doorLaid Tryz.prog 400 os) #[.slice none 0 0, .int .i64 0] rfl (by kernel_rfl) (by kernel_rfl) (by kernel_rfl)
      (OpenSpec.preRow_of_cond 8 hx (by kernel_rfl) (fun k hk => by cases hk; kernel_rfl) (by kernel_rfl) (ZoZ os _))) ?_
  intro W base args ds gs before hval hW _ hcond _ hL _ _
  exact Zo1 H enc W base args ds gs before hval hW (hcond _ rfl) hL
set_option maxRecDepth 100000 in
theorem Zk2 : Rows.fourierFeasibleUptoRow.holds Tryz.pinned (Rows.OpenSpec.upto Rows.fourierFeasibleSpec) :=
  OpenClaim.holds_of_cond 6 Tryz.f6 rfl rfl rfl rfl rfl rfl rfl ⟨rfl, rfl, rfl, rfl, rfl⟩ rfl rfl rfl rfl rfl hnm Tryz.func6 ZoT
    (of_decide_eq_true (by kernel_rfl)) (by unfold Func.isWrapper; first | (rw [if_pos (by decide +kernel)]; kernel_rfl) | (rw [if_neg (by decide +kernel)]; exact ⟨rfl, rfl⟩))
    (fun os started H enc _ F => by rw [OpenClaim.pre_eq_preRow]; exact lifted os started H enc F)
theorem proved : Rows.FourierFeasibleUptoCardSaid :=
  Claim7.holds_tied_plain_at .later [] [.data, .data, .data] true Rows.fourierFeasibleUptoCard.stood.harness false
    Zk2 (fun _ h => by cases h) hw (fun _ h => by cases h) fourierFeasibleUpto_row_tie rfl ⟨rfl, rfl⟩ hm rfl
    (fun f fn hf hfn => by
      obtain rfl : f = 6 := Option.some.inj (hnm.symm.trans hf) |>.symm
      obtain rfl : fn = Tryz.f6 := (Option.some.inj (Tryz.func6.symm.trans hfn)).symm
      exact ⟨hlk, fun j t ht => by
        rw [Tryz.params6] at ht
        have hm : t ∈ [40, 3] := by simpa using Array.mem_of_getElem? ht
        exact (show Tryz.prog.wantsStandIn t = false by simpa using List.all_eq_true.1 X8 t hm)⟩)
    hg
end Go.Proofs.YtdaonnnlgfhlaaaGreatDoor.lawFF
