/- For all bytes, every unit and all bytes, relucertlaw15.GraphHalve returns true and leaves its arguments as they were: for the small graph that the first bytes describe, Halve returns the specified graph or error, and the graph is valid and has the same outputs at the input that the last bytes describe. The listed package-level variables hold what the program text lays. -/
import Derived.Test.YtlpmemelhlnfbaaGreatDoorRows
import Derived.Test.YtlpmemelhlnfbaaGreatDoorCards
import Derived.Test.YtlpmemelhlnfbaaGreatDoorTie
import Derived.Test.YtlpmemelhlnfbaaGreatDoorJGraphHalve
import Derived.Test.YtlpmemelhlnfbaaGreatDoorGA30
import Derived.WalkKit
import Derived.ProofKit
import Derived.LaidMore
import Derived.OpenShut
import Derived.Stop.Joined
import Derived.ChangeOld
import Derived.Below
import Derived.SevenTiedAt
set_option linter.all false
namespace Go.Proofs.YtlpmemelhlnfbaaGreatDoor.lawGH
open Go.ChangeShapes Go.WideShapes Go.ChangeAt Go.RowKit
open Go.Proofs.YtlpmemelhlnfbaaGreatDoor
set_option linter.unusedVariables false

theorem own : ownKnob Tryz.prog.godebug = none := by kernel_rfl
theorem laidOut : laidOutB Tryz.prog = true := by kernel_rfl
theorem of_laid {W : World} (h : laidMetH Tryz.prog Rows.graphHalveRow.laid W) : Glob W okT ∧ True := by
  rw [MakeChecks.laidMetH_plain _ _ _ (by kernel_rfl)] at h
  exact ⟨laid_glob h, trivial⟩
theorem door_met (os : Os) (args : Array Value) : laidMetH Tryz.prog Rows.graphHalveRow.laid ((World.doorLaid Tryz.prog 400 os).forCall (fun _ _ => 0) ⟨#[], args, []⟩).memory :=
  laidMetH_of_parts3 (fuel := 8) (laidMet_of_run' 8 (by kernel_rfl) (by kernel_rfl)) (by kernel_rfl) (by kernel_rfl)
set_option maxRecDepth 100000 in
theorem lifted (os : Os) (started : os.Started) (H : Type) (enc : TypeId × Value → H) :
    ReturnsInHanded {} Tryz.checked os 10 .any (fun w args => (Rows.graphHalveSpec.pre enc Tryz.prog Tryz.f10 [] false w args ∧ laidMetH Tryz.prog Rows.graphHalveRow.laid w) ∧ sizedMet enc Tryz.prog Tryz.f10 (OpenSpec.ofChange Rows.graphHalveSpec) false w args)
      (Rows.graphHalveSpec.post enc Tryz.prog Tryz.f10 false true false false) := by
  refine returnsInHanded_of_change_and (C := Tryz.checked) (X := fun w _ => laidMetH Tryz.prog Rows.graphHalveRow.laid w) (fun _ _ _ hh h => h.of_heap hh) own started (by kernel_rfl) Tryz.func10
    (ChangeSpec.witness_shaped (enc := enc) (C := Tryz.checked) (os := os) (X := fun w _ => laidMetH Tryz.prog Rows.graphHalveRow.laid w) false (World.doorLaid Tryz.prog 400 os) #[.slice none 0 0, .int .i64 0, .slice none 0 0] 8 rfl (World.shaped_of_RefB (by kernel_rfl) (by kernel_rfl)) (by kernel_rfl) (by kernel_rfl) (by kernel_rfl) (door_met os _)) ?_
  intro W base args ds gs before hval0 hW _ _ hL _
  have hval : ∀ (j : Nat) t v, Tryz.f10.params[j]? = some t → args[j]? = some v → Value.okWide Tryz.prog W .any base t v := hval0
  have hW' := hW
  obtain ⟨p, q, hA0, hV, rfl, hfz, hnd⟩ := hW
  have hA : DataW.TrodAll enc Tryz.prog W 0 (fun _ => true) true Tryz.f10.params.toList args.toList ds p := hA0
  rw [Tryz.params10] at hA hval
  obtain ⟨v0, vs0, d0, ds0, pl0, ql0, hargs, rfl, rfl, h0, r0⟩ := trodAll_cons hA
  obtain ⟨v1, vs1, d1, ds1, pl1, ql1, rfl, rfl, rfl, h1, r1⟩ := trodAll_cons r0
  obtain ⟨v2, vs2, d2, ds2, pl2, ql2, rfl, rfl, rfl, h2, r2⟩ := trodAll_cons r1
  obtain ⟨rfl, rfl, rfl⟩ := trodAll_nil r2
  obtain rfl : args = #[v0, v1, v2] := by cases args; simp_all
  obtain ⟨rfl, rfl⟩ := trodVars_none hV
  have k0 := h0
  have lt0 : ∀ x ∈ pl0, x.block < W.heap.size := by obtain ⟨m, hm⟩ := k0; exact DataW.trod_lt m _ _ _ hm
  have k1 := h1
  have lt1 : ∀ x ∈ pl1, x.block < W.heap.size := by obtain ⟨m, hm⟩ := k1; exact DataW.trod_lt m _ _ _ hm
  have k2 := h2
  have lt2 : ∀ x ∈ pl2, x.block < W.heap.size := by obtain ⟨m, hm⟩ := k2; exact DataW.trod_lt m _ _ _ hm
  obtain ⟨a0, n0, m0, rfl⟩ := okWide_slice Tryz.underlying35 (hval 0 35 v0 rfl rfl)
  obtain ⟨fu0, hf0⟩ := h0
  obtain ⟨_, ⟨x0, rfl, ok0⟩, rv0⟩ := op_Luint8 _ _ _ _ _ _ _ _ hf0
  have rp0 := arg_one rfl rv0
  obtain ⟨z1, rfl, _⟩ := open_int Tryz.underlying3 (hval 1 3 v1 rfl rfl) h1
  obtain ⟨a2, n2, m2, rfl⟩ := okWide_slice Tryz.underlying35 (hval 2 35 v2 rfl rfl)
  obtain ⟨fu2, hf2⟩ := h2
  obtain ⟨_, ⟨x2, rfl, ok2⟩, rv2⟩ := op_Luint8 _ _ _ _ _ _ _ _ hf2
  have rp2 := arg_one rfl rv2
  obtain ⟨hG, hz⟩ := of_laid hL
  clear hA0 hval0
  refine (gh_use W rp0 rp2 ok0 ok2 hG).mono fun e W' ⟨he, bel⟩ => ?_
  subst he
  exact ⟨_, rfl, _, _, _, [], _, [], hW', trodAll_mk1 (shut_bool Tryz.underlying4 _), (trodAll_cons_mk (Below.trod laidOut (by kernel_rfl) (of_decide_eq_true (by kernel_rfl)) k0 bel lt0) (trodAll_cons_mk (Below.trod laidOut (by kernel_rfl) (of_decide_eq_true (by kernel_rfl)) k1 bel lt1) (trodAll_cons_mk (Below.trod laidOut (by kernel_rfl) (of_decide_eq_true (by kernel_rfl)) k2 bel lt2) trodAll_mk0))), rfl, bel.frame _, fun h => by cases h⟩

theorem over : Rows.graphHalveRow.holds Tryz.pinned (OpenSpec.ofChange Rows.graphHalveSpec) :=
  OpenClaim.holds_of_wide 10 Tryz.f10 rfl rfl rfl rfl rfl rfl rfl ⟨rfl, rfl, rfl, rfl, rfl⟩ rfl rfl rfl rfl rfl hnm Tryz.func10 closed
    (of_decide_eq_true (by kernel_rfl)) (by unfold Func.isWrapper; first | (rw [if_pos (by decide +kernel)]; kernel_rfl) | (rw [if_neg (by decide +kernel)]; exact ⟨rfl, rfl⟩))
    (fun os started H enc _ => lifted os started H enc)

theorem proved : Rows.GraphHalveCardSaid :=
  Claim7.holds_tied_plain_at .later [] [.data, .data, .data] true Rows.graphHalveCard.stood.harness true
    over (fun _ h => by cases h) hw (fun _ h => by cases h) graphHalve_row_tie rfl ⟨rfl, rfl⟩ hm rfl
    (fun f fn hf hfn => by
      obtain rfl : f = 10 := Option.some.inj (hnm.symm.trans hf) |>.symm
      obtain rfl : fn = Tryz.f10 := (Option.some.inj (Tryz.func10.symm.trans hfn)).symm
      exact ⟨hlk, fun j t ht => by
        rw [Tryz.params10] at ht
        have hm : t ∈ [35, 3, 35] := by simpa using Array.mem_of_getElem? ht
        exact (show Tryz.prog.wantsStandIn t = false by simpa using List.all_eq_true.1 hall t hm)⟩)
    hg
end Go.Proofs.YtlpmemelhlnfbaaGreatDoor.lawGH
