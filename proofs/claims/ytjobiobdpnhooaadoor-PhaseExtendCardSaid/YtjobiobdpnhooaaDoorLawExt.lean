/- For every path and every decision, relucertlaw34.PhaseExtend returns true and leaves its arguments as they were: Extend returns a path that decides one unit more at most, or the specified error. The listed package-level variables hold what the program text lays. -/
import Derived.Test.YtjobiobdpnhooaaDoorRows
import Derived.Test.YtjobiobdpnhooaaDoorCards
import Derived.Test.YtjobiobdpnhooaaDoorTie
import Derived.Test.YtjobiobdpnhooaaDoorK12
import Derived.WalkKit
import Derived.ProofKit
import Derived.LaidMore
import Derived.OpenShut
import Derived.Stop.Joined
import Derived.ChangeOld
import Derived.Below
import Derived.SevenTiedAt
set_option linter.all false
namespace Go.Proofs.YtjobiobdpnhooaaDoor.lawExtend
open Go.ChangeShapes Go.WideShapes Go.ChangeAt Go.RowKit
open Go.Proofs.YtjobiobdpnhooaaDoor
set_option linter.unusedVariables false

theorem own : ownKnob Tryd.prog.godebug = none := by kernel_rfl
theorem laidOut : laidOutB Tryd.prog = true := by kernel_rfl
theorem gOpp : Tryd.prog.globalNamed "relucert/phase.opposites" = some 0 := by kernel_rfl
theorem tOpp : (Tryd.prog.globals[0]?).map (·.type) = some 62 := by kernel_rfl
theorem cInt : Tryd.prog.cellsOf 3 = 1 := by kernel_rfl
theorem of_laid {W : World} (h : laidMetH Tryd.prog Rows.phaseExtendRow.laid W) : W.cell? ⟨0, 3, none⟩ = some (.int .i64 4) ∧ 0 < W.heap.size := by
  rw [MakeChecks.laidMetH_plain _ _ _ (by kernel_rfl)] at h
  obtain ⟨ps, ⟨g0, t0, cs0, f0, p0, q0, hg0, ht0, hv0, hd0, ⟨g1, t1, cs1, f1, p1, q1, hg1, ht1, hv1, hd1, ⟨g2, t2, cs2, f2, p2, q2, hg2, ht2, hv2, hd2, ⟨g3, t3, cs3, f3, p3, q3, hg3, ht3, hv3, hd3, _, _⟩, _⟩, _⟩, _⟩, _, _⟩ := h
  obtain rfl := Option.some.inj (gOpp.symm.trans hg3)
  obtain rfl := Option.some.inj (tOpp.symm.trans ht3)
  obtain ⟨xs, m1, rfl, hx1, hlen, hn5, hel⟩ := DataW.trod_array Tryd.underlying62 hd3
  have h3 := hel 3 (by decide)
  simp only [Prod.mk.injEq, Rows.laid_relucert_phase_opposites, DataW.agg.injEq] at hx1
  have hcell : W.cell? ⟨0, 3, none⟩ = some (.int .i64 4) := by
    match xs, hn5, hx1, h3 with
    | [x0, x1, x2, x3, x4], _, hx1, h3 =>
      simp only [List.map_cons, List.map_nil, List.cons.injEq] at hx1
      obtain ⟨k, e1, e2, _⟩ := DataW.trod_int Tryd.underlying3 (show DataW.trod _ Tryd.prog W 0 _ false m1 3 _ = some x3 from h3)
      have hk : k = 4 := by rw [e2] at hx1; simpa using hx1.1.2.2.2.1.symm
      subst hk
      have := World.var?_cell hg3 hv3 3
      refine this.trans ?_
      have e4 : ∀ z, (cs3.toList.drop (3 * z)).take z = [Value.int .i64 4] → z = 1 → cs3[3]? = some (.int .i64 4) := fun z hz h1 => by
        subst h1
        have e3 := congrArg (fun l : List Value => l[0]?) hz
        simpa [List.getElem?_take, List.getElem?_drop] using e3
      exact e4 _ e1 cInt
  exact ⟨hcell, World.block_lt_of_cell? W _ hcell⟩
theorem door_met (os : Os) (args : Array Value) : laidMetH Tryd.prog Rows.phaseExtendRow.laid ((World.doorLaid Tryd.prog 400 os).forCall (fun _ _ => 0) ⟨#[], args, []⟩).memory :=
  laidMetH_of_parts3 (fuel := 8) (laidMet_of_run' 8 (by kernel_rfl) (by kernel_rfl)) (by kernel_rfl) (by kernel_rfl)
set_option maxRecDepth 100000 in
theorem lifted (os : Os) (started : os.Started) (H : Type) (enc : TypeId × Value → H) :
    ReturnsInHanded {} Tryd.checked os 4 .any (fun w args => (Rows.phaseExtendSpec.pre enc Tryd.prog Tryd.f4 [] false w args ∧ laidMetH Tryd.prog Rows.phaseExtendRow.laid w) ∧ sizedMet enc Tryd.prog Tryd.f4 (OpenSpec.ofChange Rows.phaseExtendSpec) false w args)
      (Rows.phaseExtendSpec.post enc Tryd.prog Tryd.f4 false true false false) := by
  refine returnsInHanded_of_change_and (C := Tryd.checked) (X := fun w _ => laidMetH Tryd.prog Rows.phaseExtendRow.laid w) (fun _ _ _ hh h => h.of_heap hh) own started (by kernel_rfl) Tryd.func4
    (ChangeSpec.witness_shaped (enc := enc) (C := Tryd.checked) (os := os) (X := fun w _ => laidMetH Tryd.prog Rows.phaseExtendRow.laid w) false (World.doorLaid Tryd.prog 400 os) #[.slice none 0 0, .agg #[.int .i64 0, .int .i64 0, .bool false, .slice none 0 0, .slice none 0 0]] 8 rfl (World.shaped_of_RefB (by kernel_rfl) (by kernel_rfl)) (by kernel_rfl) (by kernel_rfl) (by kernel_rfl) (door_met os _)) ?_
  intro W base args ds gs before hval0 hW _ _ hL _
  have hval : ∀ (j : Nat) t v, Tryd.f4.params[j]? = some t → args[j]? = some v → Value.okWide Tryd.prog W .any base t v := hval0
  have hW' := hW
  obtain ⟨p, q, hA0, hV, rfl, hfz, hnd⟩ := hW
  have hA : DataW.TrodAll enc Tryd.prog W 0 (fun _ => true) true Tryd.f4.params.toList args.toList ds p := hA0
  rw [Tryd.params4] at hA hval
  obtain ⟨v0, vs0, d0, ds0, pl0, ql0, hargs, rfl, rfl, h0, r0⟩ := trodAll_cons hA
  obtain ⟨v1, vs1, d1, ds1, pl1, ql1, rfl, rfl, rfl, h1, r1⟩ := trodAll_cons r0
  obtain ⟨rfl, rfl, rfl⟩ := trodAll_nil r1
  obtain rfl : args = #[v0, v1] := by cases args; simp_all
  obtain ⟨rfl, rfl⟩ := trodVars_none hV
  have k0 := h0
  have lt0 : ∀ x ∈ pl0, x.block < W.heap.size := by obtain ⟨m, hm⟩ := k0; exact DataW.trod_lt m _ _ _ hm
  have k1 := h1
  have lt1 : ∀ x ∈ pl1, x.block < W.heap.size := by obtain ⟨m, hm⟩ := k1; exact DataW.trod_lt m _ _ _ hm
  obtain ⟨ad, n, c, rfl⟩ := okWide_slice Tryd.underlying22 (hval 0 22 v0 rfl rfl)
  obtain ⟨es, hes, hn⟩ : ∃ es : List ED, EsR W ad n c es ∧ n ≤ 9223372036854775807 := by
    obtain ⟨fuel, hf⟩ := h0
    exact op_es hf
  obtain ⟨cs, rfl, hsz⟩ := okWide_struct Tryd.underlying36 (hval 1 36 v1 rfl rfl)
  obtain ⟨d, hcs, hd⟩ : ∃ d : ED, cs = #[.int .i64 d.k, .int .i64 d.i, .bool d.c.neg, .slice d.c.a1 d.c.n1 d.c.c1, .slice d.c.a2 d.c.n2 d.c.c2] ∧ d.In W := by
    obtain ⟨fuel, hf⟩ := h1
    obtain ⟨d, hc, hin⟩ := op_ed hf
    refine ⟨d, ?_, hin⟩
    apply Array.toList_inj.1
    simpa [Value.cells] using hc
  subst hcs
  obtain ⟨hG, hz⟩ := of_laid hL
  clear hA0 hval0
  refine (extend_law W (d := d) hes hn hd hG hz).mono fun e W' ⟨he, bel⟩ => ?_
  subst he
  exact ⟨_, rfl, _, _, _, [], _, [], hW', trodAll_mk1 (shut_bool Tryd.underlying4 _), (trodAll_cons_mk (Below.trod laidOut (by kernel_rfl) (of_decide_eq_true (by kernel_rfl)) k0 bel lt0) (trodAll_cons_mk (Below.trod laidOut (by kernel_rfl) (of_decide_eq_true (by kernel_rfl)) k1 bel lt1) trodAll_mk0)), rfl, bel.frame _, fun h => by cases h⟩

theorem over : Rows.phaseExtendRow.holds Tryd.pinned (OpenSpec.ofChange Rows.phaseExtendSpec) :=
  OpenClaim.holds_of_wide 4 Tryd.f4 rfl rfl rfl rfl rfl rfl rfl ⟨rfl, rfl, rfl, rfl, rfl⟩ rfl rfl rfl rfl rfl (by kernel_rfl) Tryd.func4 (by kernel_rfl)
    (of_decide_eq_true (by kernel_rfl)) (by unfold Func.isWrapper; first | (rw [if_pos (by decide +kernel)]; kernel_rfl) | (rw [if_neg (by decide +kernel)]; exact ⟨rfl, rfl⟩))
    (fun os started H enc _ => lifted os started H enc)

theorem proved : Rows.PhaseExtendCardSaid :=
  Claim7.holds_tied_plain_at .later [] [.data, .data, .data, .data] true Rows.phaseExtendCard.stood.harness false
    over (fun _ h => by cases h) (by kernel_rfl) (fun _ h => by cases h) phaseExtend_row_tie rfl ⟨rfl, rfl⟩ (by kernel_rfl) rfl
    (fun f fn hf hfn => by
      obtain rfl : f = 4 := Option.some.inj ((show Tryd.prog.funcNamed "relucert/relucertlaw34.PhaseExtend" = some 4 by kernel_rfl).symm.trans hf) |>.symm
      obtain rfl : fn = Tryd.f4 := (Option.some.inj (Tryd.func4.symm.trans hfn)).symm
      exact ⟨by kernel_rfl, fun j t ht => by
        rw [Tryd.params4] at ht
        have hm : t ∈ [22, 36] := by simpa using Array.mem_of_getElem? ht
        have hall : ([22, 36].all fun u => !Tryd.prog.wantsStandIn u) = true := by kernel_rfl
        exact (show Tryd.prog.wantsStandIn t = false by simpa using List.all_eq_true.1 hall t hm)⟩)
    (by kernel_rfl)
end Go.Proofs.YtjobiobdpnhooaaDoor.lawExtend
