/- For every form, all rows and every number of variables that are together of bulk at most 1048576, relucertlaw31.FourierMinMatchesReference returns true and leaves its arguments as they were: Min returns the status and the value of the definition. The listed package-level variables hold what the program text lays. -/
import Derived.Test.YtdaonnnlgfhlaaaGreatDoorRows
import Derived.Test.YtdaonnnlgfhlaaaGreatDoorCards
import Derived.Test.YtdaonnnlgfhlaaaGreatDoorTie
import Derived.Test.YtdaonnnlgfhlaaaGreatDoorJFourierMinMatchesReferenceU
import Derived.Test.YtdaonnnlgfhlaaaGreatDoorGH21
import Derived.WalkKit
import Derived.ProofKit
import Derived.LaidMore
import Derived.OpenShut
import Derived.Stop.Joined
import Derived.ChangeOld
import Derived.Below
import Derived.SevenTiedAt
import Derived.JoinedCond
import Derived.Deep.DeepHandedRow
import Derived.Deep.DeepWitnessRowRef
set_option linter.all false
namespace Go.Proofs.YtdaonnnlgfhlaaaGreatDoor.lawFM
open Go.ChangeShapes Go.WideShapes Go.ChangeAt Go.RowKit
open Go.Proofs.YtdaonnnlgfhlaaaGreatDoor
set_option linter.unusedVariables false
theorem own : ownKnob Tryz.prog.godebug = none := by kernel_rfl
theorem Zfu : laidOutB Tryz.prog = true := by kernel_rfl
theorem ZsN {W : World} (h : laidMetH Tryz.prog Rows.fourierMinMatchesReferenceUptoRow.laid W) : Glob W okT := by
  rw [MakeChecks.laidMetH_plain _ _ _ (by kernel_rfl)] at h
  exact ZlF h
theorem Znh (os : Os) (args : Array Value) : laidMetH Tryz.prog Rows.fourierMinMatchesReferenceUptoRow.laid ((World.doorLaid Tryz.prog 400 os).forCall (fun _ _ => 0) ⟨#[], args, []⟩).memory :=
  laidMetH_of_parts3 (fuel := 8) (laidMet_of_run' 8 (by kernel_rfl) (by kernel_rfl)) (by kernel_rfl) (by kernel_rfl)
set_option maxRecDepth 100000 in
theorem Zm6 (H : Type) (enc : TypeId × Value → H) (W : World) (base : Nat) (args : Array Value) (ds gs : List (DataW H)) (before : List MemPlace)
    (hval0 : ∀ (j : Nat) t v, Tryz.f7.params[j]? = some t → args[j]? = some v → Value.okWide Tryz.prog W .any base t v)
    (hW : DataW.Whole enc Tryz.prog Tryz.f7.params.toList Rows.fourierMinMatchesReferenceSpec.vars false W args.toList ds gs before) (hb : Rows.uptoSmall H (ds ++ gs) = true) (hL : laidMetH Tryz.prog Rows.fourierMinMatchesReferenceUptoRow.laid W) :
    Calls Tryz.prog 7 args W fun e W' => ∃ v, e = .returned v ∧ Rows.fourierMinMatchesReferenceSpec.post enc Tryz.prog Tryz.f7 false true false false W args v W' := by
  have hval : ∀ (j : Nat) t v, Tryz.f7.params[j]? = some t → args[j]? = some v → Value.okWide Tryz.prog W .any base t v := hval0
  have hW' := hW
  obtain ⟨p, q, hA0, hV, rfl, hfz, hnd⟩ := hW
  have hA : DataW.TrodAll enc Tryz.prog W 0 (fun _ => true) true Tryz.f7.params.toList args.toList ds p := hA0
  rw [Tryz.params7] at hA hval
  obtain ⟨v0, vs0, d0, ds0, pl0, ql0, hargs, rfl, rfl, h0, r0⟩ := trodAll_cons hA
  obtain ⟨v1, vs1, d1, ds1, pl1, ql1, rfl, rfl, rfl, h1, r1⟩ := trodAll_cons r0
  obtain ⟨v2, vs2, d2, ds2, pl2, ql2, rfl, rfl, rfl, h2, r2⟩ := trodAll_cons r1
  obtain ⟨rfl, rfl, rfl⟩ := trodAll_nil r2
  obtain rfl : args = #[v0, v1, v2] := by cases args; simp_all
  obtain ⟨rfl, rfl⟩ := trodVars_none hV
  have hb2 : Rows.uptoBulkAll (H := H) ([d0, d1, d2] ++ []) ≤ 1048576 := of_decide_eq_true hb
  simp only [List.append_nil, Rows.uptoBulkAll] at hb2
  have k0 := h0
  have lt0 : ∀ x ∈ pl0, x.block < W.heap.size := by obtain ⟨m, hm⟩ := k0; exact DataW.trod_lt m _ _ _ hm
  have k1 := h1
  have lt1 : ∀ x ∈ pl1, x.block < W.heap.size := by obtain ⟨m, hm⟩ := k1; exact DataW.trod_lt m _ _ _ hm
  have k2 := h2
  have lt2 : ∀ x ∈ pl2, x.block < W.heap.size := by obtain ⟨m, hm⟩ := k2; exact DataW.trod_lt m _ _ _ hm
  obtain ⟨q0, rfl, hsz0⟩ := okWide_struct Tryz.underlying28 (hval 0 28 v0 rfl rfl)
  obtain ⟨fu0, hf0⟩ := h0
  obtain ⟨_, ⟨x0, rfl, ok0⟩, rv0⟩ := Zes _ _ _ _ _ _ _ _ hf0
  have rp0 := ZsI rv0
  obtain ⟨a1, n1, m1, rfl⟩ := okWide_slice Tryz.underlying40 (hval 1 40 v1 rfl rfl)
  obtain ⟨fu1, hf1⟩ := h1
  obtain ⟨_, ⟨x1, rfl, ok1⟩, rv1⟩ := Zh5 _ _ _ _ _ _ _ _ hf1
  have rp1 := ZtS rfl rv1
  obtain ⟨z2, rfl, _⟩ := open_int Tryz.underlying3 (hval 2 3 v2 rfl rfl) h2
  have hG := ZsN hL
  clear hA0 hval0
  refine (ZwL W (z := z2) rp0 rp1 ok0 ok1 (show Rows.uptoBulk d0 ≤ 1048576 by omega) (show Rows.uptoBulk d1 ≤ 1048576 by omega) hG).mono fun e W' ⟨he, bel⟩ => ?_
  subst he
  exact ⟨_, rfl, _, _, _, [], _, [], hW', trodAll_mk1 (shut_bool Tryz.underlying4 _), (trodAll_cons_mk (Below.trod Zfu (by kernel_rfl) (of_decide_eq_true (by kernel_rfl)) k0 bel lt0) (trodAll_cons_mk (Below.trod Zfu (by kernel_rfl) (of_decide_eq_true (by kernel_rfl)) k1 bel lt1) (trodAll_cons_mk (Below.trod Zfu (by kernel_rfl) (of_decide_eq_true (by kernel_rfl)) k2 bel lt2) trodAll_mk0))), rfl, bel.frame _, fun h => by cases h⟩
theorem Zzx (os : Os) {H : Type} (enc : TypeId × Value → H) : ∃ places, DataW.whole enc Tryz.prog ((World.doorLaid Tryz.prog 400 os).forCall (fun _ _ => 0) ⟨#[], #[.agg #[.slice none 0 0, .bool false, .slice none 0 0, .slice none 0 0], .slice none 0 0, .int .i64 0], []⟩).memory Tryz.f7.params.toList Rows.fourierMinMatchesReferenceSpec.vars false (#[.agg #[.slice none 0 0, .bool false, .slice none 0 0, .slice none 0 0], .slice none 0 0, .int .i64 0] : Array Value).toList 8 = some ([.agg [.nil, .agg [.lit (.bool false), .nil, .nil]], .nil, .lit (.int .i64 0)], [], places) :=
  ⟨[], by kernel_rfl⟩
set_option maxRecDepth 100000 in
theorem lifted (os : Os) (started : os.Started) (H : Type) (enc : TypeId × Value → H) (F : Stop.Interp) :
    ReturnsInHanded {} Tryz.checked os 7 .any ((Rows.OpenSpec.upto Rows.fourierMinMatchesReferenceSpec).preRow enc Tryz.prog Tryz.f7 Rows.fourierMinMatchesReferenceUptoRow.domain false Rows.fourierMinMatchesReferenceUptoRow.laid) (((Rows.OpenSpec.upto Rows.fourierMinMatchesReferenceSpec).at F).post enc Tryz.prog Tryz.f7 false true false false) := by
  obtain ⟨places, hx⟩ := Zzx os enc
  refine returnsInHanded_of_row (C := Tryz.checked) (s := Rows.OpenSpec.upto Rows.fourierMinMatchesReferenceSpec) own started (by kernel_rfl) Tryz.func7
    (witness_row_atRef (enc := enc) (C := Tryz.checked) false (World.doorLaid Tryz.prog 400 os) #[.agg #[.slice none 0 0, .bool false, .slice none 0 0, .slice none 0 0], .slice none 0 0, .int .i64 0] rfl (by kernel_rfl) (by kernel_rfl) (by kernel_rfl)
      (OpenSpec.preRow_of_cond 8 hx (by kernel_rfl) (fun k hk => by cases hk; kernel_rfl) (by kernel_rfl) (Znh os _))) ?_
  intro W base args ds gs before hval hW _ hcond _ hL _ _
  exact Zm6 H enc W base args ds gs before hval hW (hcond _ rfl) hL
set_option maxRecDepth 100000 in
theorem Zmu : Rows.fourierMinMatchesReferenceUptoRow.holds Tryz.pinned (Rows.OpenSpec.upto Rows.fourierMinMatchesReferenceSpec) :=
  OpenClaim.holds_of_cond 7 Tryz.f7 rfl rfl rfl rfl rfl rfl rfl ⟨rfl, rfl, rfl, rfl, rfl⟩ rfl rfl rfl rfl rfl hnm Tryz.func7 Zpe
    (of_decide_eq_true (by kernel_rfl)) (by unfold Func.isWrapper; first | (rw [if_pos (by decide +kernel)]; kernel_rfl) | (rw [if_neg (by decide +kernel)]; exact ⟨rfl, rfl⟩))
    (fun os started H enc _ F => by rw [OpenClaim.pre_eq_preRow]; exact lifted os started H enc F)
theorem proved : Rows.FourierMinMatchesReferenceUptoCardSaid :=
  Claim7.holds_tied_plain_at .later [] [.data, .data, .data] true Rows.fourierMinMatchesReferenceUptoCard.stood.harness false
    Zmu (fun _ h => by cases h) hw (fun _ h => by cases h) fourierMinMatchesReferenceUpto_row_tie rfl ⟨rfl, rfl⟩ hm rfl
    (fun f fn hf hfn => by
      obtain rfl : f = 7 := Option.some.inj (hnm.symm.trans hf) |>.symm
      obtain rfl : fn = Tryz.f7 := (Option.some.inj (Tryz.func7.symm.trans hfn)).symm
      exact ⟨hlk, fun j t ht => by
        rw [Tryz.params7] at ht
        have hm : t ∈ [28, 40, 3] := by simpa using Array.mem_of_getElem? ht
        exact (show Tryz.prog.wantsStandIn t = false by simpa using List.all_eq_true.1 Wo t hm)⟩)
    hg
end Go.Proofs.YtdaonnnlgfhlaaaGreatDoor.lawFM
