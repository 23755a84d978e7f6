/- For all bytes and all lemmas, relucertlaw34.PhaseOf returns true and leaves its arguments as they were: on the scope that the bytes and the lemmas give, Of returns the phases of the units, and none for the zero scope. The listed package-level variables hold what the program text lays. -/
import Derived.Test.YtkakmdadnhjphaaGreatDoorRows
import Derived.Test.YtkakmdadnhjphaaGreatDoorCards
import Derived.Test.YtkakmdadnhjphaaGreatDoorTie
import Derived.Test.YtkakmdadnhjphaaGreatDoorJPhaseOf
import Derived.Test.YtkakmdadnhjphaaGreatDoorOQ
import Derived.WalkKit
import Derived.ProofKit
import Derived.LaidMore
import Derived.OpenShut
import Derived.Stop.Joined
import Derived.ChangeOld
import Derived.Below
import Derived.SevenTiedAt
set_option linter.all false
namespace Go.Proofs.YtkakmdadnhjphaaGreatDoor.lawOf
open Go.ChangeShapes Go.WideShapes Go.ChangeAt Go.RowKit
open Go.Proofs.YtkakmdadnhjphaaGreatDoor
set_option linter.unusedVariables false

theorem own : ownKnob Tryz.prog.godebug = none := by kernel_rfl
theorem laidOut : laidOutB Tryz.prog = true := by kernel_rfl
theorem gOpp : Tryz.prog.globalNamed "relucert/phase.opposites" = some 0 := by kernel_rfl
theorem tOpp : (Tryz.prog.globals[0]?).map (·.type) = some 183 := by kernel_rfl
theorem cInt : Tryz.prog.cellsOf 3 = 1 := by kernel_rfl
theorem of_laid {W : World} (h : laidMetH Tryz.prog Rows.phaseOfRow.laid W) : (∀ (i : Nat) (v : Value), [Value.int .i64 0, .int .i64 2, .int .i64 1, .int .i64 4, .int .i64 3][i]? = some v → W.cell? ⟨0, i, none⟩ = some v) ∧ 0 < W.heap.size := by
  rw [MakeChecks.laidMetH_plain _ _ _ (by kernel_rfl)] at h
  obtain ⟨ps, ⟨g0, t0, cs0, f0, p0, q0, hg0, ht0, hv0, hd0, ⟨g1, t1, cs1, f1, p1, q1, hg1, ht1, hv1, hd1, ⟨g2, t2, cs2, f2, p2, q2, hg2, ht2, hv2, hd2, ⟨g3, t3, cs3, f3, p3, q3, hg3, ht3, hv3, hd3, _, _⟩, _⟩, _⟩, _⟩, _, _⟩ := h
  obtain rfl := Option.some.inj (gOpp.symm.trans hg3)
  obtain rfl := Option.some.inj (tOpp.symm.trans ht3)
  obtain ⟨xs, m1, rfl, hx1, hlen, hn5, hel⟩ := DataW.trod_array Tryz.underlying183 hd3
  have e0 := hel 0 (by decide)
  have e1 := hel 1 (by decide)
  have e2 := hel 2 (by decide)
  have e3 := hel 3 (by decide)
  have e4 := hel 4 (by decide)
  simp only [Prod.mk.injEq, Rows.laid_relucert_phase_opposites, DataW.agg.injEq] at hx1
  have e9 : ∀ i k z, (cs3.toList.drop (i * z)).take z = [Value.int .i64 k] → z = 1 → cs3[i]? = some (.int .i64 k) := fun i k z hz h1 => by
    subst h1
    have e3 := congrArg (fun l : List Value => l[0]?) hz
    simpa [List.getElem?_take, List.getElem?_drop] using e3
  have c0 : W.cell? ⟨0, 0, none⟩ = some (.int .i64 0) := by
    match xs, hn5, hx1, e0 with
    | [x0, x1, x2, x3, x4], _, hx1, h3 =>
      simp only [List.map_cons, List.map_nil, List.cons.injEq] at hx1
      obtain ⟨k, g1, g2, _⟩ := DataW.trod_int Tryz.underlying3 (show DataW.trod _ Tryz.prog W 0 _ false m1 3 _ = some x0 from h3)
      have hk : k = 0 := by rw [g2] at hx1; simpa using hx1.1.1.symm
      subst hk
      exact (World.var?_cell hg3 hv3 0).trans (e9 0 _ _ g1 cInt)
  have c1 : W.cell? ⟨0, 1, none⟩ = some (.int .i64 2) := by
    match xs, hn5, hx1, e1 with
    | [x0, x1, x2, x3, x4], _, hx1, h3 =>
      simp only [List.map_cons, List.map_nil, List.cons.injEq] at hx1
      obtain ⟨k, g1, g2, _⟩ := DataW.trod_int Tryz.underlying3 (show DataW.trod _ Tryz.prog W 0 _ false m1 3 _ = some x1 from h3)
      have hk : k = 2 := by rw [g2] at hx1; simpa using hx1.1.2.1.symm
      subst hk
      exact (World.var?_cell hg3 hv3 1).trans (e9 1 _ _ g1 cInt)
  have c2 : W.cell? ⟨0, 2, none⟩ = some (.int .i64 1) := by
    match xs, hn5, hx1, e2 with
    | [x0, x1, x2, x3, x4], _, hx1, h3 =>
      simp only [List.map_cons, List.map_nil, List.cons.injEq] at hx1
      obtain ⟨k, g1, g2, _⟩ := DataW.trod_int Tryz.underlying3 (show DataW.trod _ Tryz.prog W 0 _ false m1 3 _ = some x2 from h3)
      have hk : k = 1 := by rw [g2] at hx1; simpa using hx1.1.2.2.1.symm
      subst hk
      exact (World.var?_cell hg3 hv3 2).trans (e9 2 _ _ g1 cInt)
  have c3 : W.cell? ⟨0, 3, none⟩ = some (.int .i64 4) := by
    match xs, hn5, hx1, e3 with
    | [x0, x1, x2, x3, x4], _, hx1, h3 =>
      simp only [List.map_cons, List.map_nil, List.cons.injEq] at hx1
      obtain ⟨k, g1, g2, _⟩ := DataW.trod_int Tryz.underlying3 (show DataW.trod _ Tryz.prog W 0 _ false m1 3 _ = some x3 from h3)
      have hk : k = 4 := by rw [g2] at hx1; simpa using hx1.1.2.2.2.1.symm
      subst hk
      exact (World.var?_cell hg3 hv3 3).trans (e9 3 _ _ g1 cInt)
  have c4 : W.cell? ⟨0, 4, none⟩ = some (.int .i64 3) := by
    match xs, hn5, hx1, e4 with
    | [x0, x1, x2, x3, x4], _, hx1, h3 =>
      simp only [List.map_cons, List.map_nil, List.cons.injEq] at hx1
      obtain ⟨k, g1, g2, _⟩ := DataW.trod_int Tryz.underlying3 (show DataW.trod _ Tryz.prog W 0 _ false m1 3 _ = some x4 from h3)
      have hk : k = 3 := by rw [g2] at hx1; simpa using hx1.1.2.2.2.2.1.symm
      subst hk
      exact (World.var?_cell hg3 hv3 4).trans (e9 4 _ _ g1 cInt)
  refine ⟨fun i v hv => ?_, World.block_lt_of_cell? W _ c3⟩
  match i, hv with
  | 0, hv => cases hv; exact c0
  | 1, hv => cases hv; exact c1
  | 2, hv => cases hv; exact c2
  | 3, hv => cases hv; exact c3
  | 4, hv => cases hv; exact c4
  | i + 5, hv => simp at hv
theorem door_met (os : Os) (args : Array Value) : laidMetH Tryz.prog Rows.phaseOfRow.laid ((World.doorLaid Tryz.prog 400 os).forCall (fun _ _ => 0) ⟨#[], args, []⟩).memory :=
  laidMetH_of_parts3 (fuel := 8) (laidMet_of_run' 8 (by kernel_rfl) (by kernel_rfl)) (by kernel_rfl) (by kernel_rfl)
set_option maxRecDepth 100000 in
theorem lifted (os : Os) (started : os.Started) (H : Type) (enc : TypeId × Value → H) :
    ReturnsInHanded {} Tryz.checked os 3 .any (fun w args => (Rows.phaseOfSpec.pre enc Tryz.prog Tryz.f3 [] false w args ∧ laidMetH Tryz.prog Rows.phaseOfRow.laid w) ∧ sizedMet enc Tryz.prog Tryz.f3 (OpenSpec.ofChange Rows.phaseOfSpec) false w args)
      (Rows.phaseOfSpec.post enc Tryz.prog Tryz.f3 false true false false) := by
  refine returnsInHanded_of_change_and (C := Tryz.checked) (X := fun w _ => laidMetH Tryz.prog Rows.phaseOfRow.laid w) (fun _ _ _ hh h => h.of_heap hh) own started (by kernel_rfl) Tryz.func3
    (ChangeSpec.witness_shaped (enc := enc) (C := Tryz.checked) (os := os) (X := fun w _ => laidMetH Tryz.prog Rows.phaseOfRow.laid w) false (World.doorLaid Tryz.prog 400 os) #[.slice none 0 0, .slice none 0 0] 8 rfl (World.shaped_of_RefB (by kernel_rfl) (by kernel_rfl)) (by kernel_rfl) (by kernel_rfl) (by kernel_rfl) (door_met os _)) ?_
  intro W base args ds gs before hval0 hW _ _ hL _
  have hval : ∀ (j : Nat) t v, Tryz.f3.params[j]? = some t → args[j]? = some v → Value.okWide Tryz.prog W .any base t v := hval0
  have hW' := hW
  obtain ⟨p, q, hA0, hV, rfl, hfz, hnd⟩ := hW
  have hA : DataW.TrodAll enc Tryz.prog W 0 (fun _ => true) true Tryz.f3.params.toList args.toList ds p := hA0
  rw [Tryz.params3] at hA hval
  obtain ⟨v0, vs0, d0, ds0, pl0, ql0, hargs, rfl, rfl, h0, r0⟩ := trodAll_cons hA
  obtain ⟨v1, vs1, d1, ds1, pl1, ql1, rfl, rfl, rfl, h1, r1⟩ := trodAll_cons r0
  obtain ⟨rfl, rfl, rfl⟩ := trodAll_nil r1
  obtain rfl : args = #[v0, v1] := by cases args; simp_all
  obtain ⟨rfl, rfl⟩ := trodVars_none hV
  have k0 := h0
  have lt0 : ∀ x ∈ pl0, x.block < W.heap.size := by obtain ⟨m, hm⟩ := k0; exact DataW.trod_lt m _ _ _ hm
  have k1 := h1
  have lt1 : ∀ x ∈ pl1, x.block < W.heap.size := by obtain ⟨m, hm⟩ := k1; exact DataW.trod_lt m _ _ _ hm
  obtain ⟨a0, n0, m0, rfl⟩ := okWide_slice Tryz.underlying22 (hval 0 22 v0 rfl rfl)
  obtain ⟨fu0, hf0⟩ := h0
  obtain ⟨_, ⟨x0, rfl, ok0⟩, rv0⟩ := op_Luint8 _ _ _ _ _ _ _ _ hf0
  have rp0 := arg_one rfl rv0
  obtain ⟨a1, n1, m1, rfl⟩ := okWide_slice Tryz.underlying23 (hval 1 23 v1 rfl rfl)
  obtain ⟨fu1, hf1⟩ := h1
  obtain ⟨_, ⟨x1, rfl, ok1⟩, rv1⟩ := op_LLemma _ _ _ _ _ _ _ _ hf1
  have rp1 := arg_one rfl rv1
  obtain ⟨hG, hz⟩ := of_laid hL
  clear hA0 hval0
  refine (of_law W rp0 rp1 ok0 ok1 hG).mono fun e W' ⟨he, bel⟩ => ?_
  subst he
  exact ⟨_, rfl, _, _, _, [], _, [], hW', trodAll_mk1 (shut_bool Tryz.underlying4 _), (trodAll_cons_mk (Below.trod laidOut (by kernel_rfl) (of_decide_eq_true (by kernel_rfl)) k0 bel lt0) (trodAll_cons_mk (Below.trod laidOut (by kernel_rfl) (of_decide_eq_true (by kernel_rfl)) k1 bel lt1) trodAll_mk0)), rfl, bel.frame _, fun h => by cases h⟩

theorem over : Rows.phaseOfRow.holds Tryz.pinned (OpenSpec.ofChange Rows.phaseOfSpec) :=
  OpenClaim.holds_of_wide 3 Tryz.f3 rfl rfl rfl rfl rfl rfl rfl ⟨rfl, rfl, rfl, rfl, rfl⟩ rfl rfl rfl rfl rfl hnm Tryz.func3 closed
    (of_decide_eq_true (by kernel_rfl)) (by unfold Func.isWrapper; first | (rw [if_pos (by decide +kernel)]; kernel_rfl) | (rw [if_neg (by decide +kernel)]; exact ⟨rfl, rfl⟩))
    (fun os started H enc _ => lifted os started H enc)

theorem proved : Rows.PhaseOfCardSaid :=
  Claim7.holds_tied_plain_at .later [] [.data, .data, .data, .data] true Rows.phaseOfCard.stood.harness true
    over (fun _ h => by cases h) hw (fun _ h => by cases h) phaseOf_row_tie rfl ⟨rfl, rfl⟩ hm rfl
    (fun f fn hf hfn => by
      obtain rfl : f = 3 := Option.some.inj (hnm.symm.trans hf) |>.symm
      obtain rfl : fn = Tryz.f3 := (Option.some.inj (Tryz.func3.symm.trans hfn)).symm
      exact ⟨hlk, fun j t ht => by
        rw [Tryz.params3] at ht
        have hm : t ∈ [22, 23] := by simpa using Array.mem_of_getElem? ht
        exact (show Tryz.prog.wantsStandIn t = false by simpa using List.all_eq_true.1 hall t hm)⟩)
    hg
end Go.Proofs.YtkakmdadnhjphaaGreatDoor.lawOf
