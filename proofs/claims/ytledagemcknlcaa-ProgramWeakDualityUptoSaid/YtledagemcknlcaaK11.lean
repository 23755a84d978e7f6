/- relucertlaw27.ProgramPoints: the call returns true. a point that came in. -/
import Derived.Test.YtledagemcknlcaaK10
set_option linter.all false
namespace Go.Proofs.Ytledagemcknlcaa
open Go.RowKit

theorem smp_ok {w : World} {ad : Option Addr} {n c : Nat} {xs : List RD} (h : PtR w ad n c xs) (hs : SmP n xs) : OkP 5 xs := fun i r hr =>
  ⟨(hs.2 i r hr).2.2, by have h1 := (RD.ok_c (h.ok i r hr) (hs.2 i r hr).2.2).H_le; have := (hs.2 i r hr).1; have := (hs.2 i r hr).2.1; omega⟩
theorem eq_refl_b (b : Bool) : (b == b) = true := by cases b <;> rfl

set_option maxRecDepth 100000 in
set_option maxHeartbeats 6400000 in
theorem points_law (w : World) (p : PD) {ad : Option Addr} {n c : Nat} {xs : List RD} (hp : p.In w) (hx : PtR w ad n c xs) (hn : n ≤ 9223372036854775807) (hl : LenP xs) :
    Calls Try.prog 4 #[.agg #[.int .i64 p.vars, .slice p.ra p.rn p.rc, .slice p.obj.ad p.obj.n p.obj.c, .bool p.obj.k.neg, .slice p.obj.k.a1 p.obj.k.n1 p.obj.k.c1, .slice p.obj.k.a2 p.obj.k.n2 p.obj.k.c2], .slice ad n c] w (RetB true w) := by
  have hP := Pro1.mk' w #[.int .i64 p.vars, .slice p.ra p.rn p.rc, .slice p.obj.ad p.obj.n p.obj.c, .bool p.obj.k.neg, .slice p.obj.k.a1 p.obj.k.n1 p.obj.k.c1, .slice p.obj.k.a2 p.obj.k.n2 p.obj.k.c2] 31
  go_enter Try.func4, Try.ntmps4
  go_upto_region 1 with (fail)
  generalize w.alloc (.cells #[.int .i64 p.vars, .slice p.ra p.rn p.rc, .slice p.obj.ad p.obj.n p.obj.c, .bool p.obj.k.neg, .slice p.obj.k.a1 p.obj.k.n1 p.obj.k.c1, .slice p.obj.k.a2 p.obj.k.n2 p.obj.k.c2] 31) = W at *
  have hB := hP.b0
  have hPb := hP.below
  have HPS := Lib.hid hP.size
  have pW := hp.on hPb
  have xW := hx.on hPb
  have HL := Lib.hid hl
  clear hP hp hx hl
  go_wp2_with fail
  refine (awake_c W).mono ?_
  rintro e U ⟨rfl, hbU⟩
  have pU := pW.on hbU
  have xU := xW.on hbU
  have hBU := hB.on hbU
  have hwU : Below w.heap.size w U := hPb.trans (hbU.mono (by have := HPS.out; omega))
  clear pW xW hB
  have k0 := hBU.cell 0
  have k1 := hBU.cell 1
  have k2 := hBU.cell 2
  have k3 := hBU.cell 3
  have k4 := hBU.cell 4
  have k5 := hBU.cell 5
  have kz := hBU.lt
  simp at k0 k1 k2 k3 k4 k5
  go_wp2_with fail
  refine (forms_any U p pU).mono ?_
  rintro e U1 ⟨rfl, hb1⟩
  by_cases e1 : FormsS p
  rotate_left
  · rw [decide_eq_false e1]
    clear e1
    go_wp2_with fail
    go_ret
    exact ⟨rfl, hwU.trans (hb1.mono hwU.size)⟩
  rw [decide_eq_true e1]
  have HF := Lib.hid e1.lim
  clear e1
  go_wp2_with fail
  refine (smallpoint_c U1 (xU.on hb1) hn HL.out).mono ?_
  rintro e U2 ⟨rfl, hb2⟩
  have hb12 := hb1.trans (hb2.mono hb1.size)
  by_cases e2 : SmP n xs
  rotate_left
  · rw [decide_eq_false e2]
    clear e2
    go_wp2_with fail
    go_ret
    exact ⟨rfl, hwU.trans (hb12.mono hwU.size)⟩
  rw [decide_eq_true e2]
  have HX := Lib.hid (smp_ok xU e2)
  have hn8 : n ≤ 8 := e2.1
  clear e2
  have hB2 := hBU.on hb12
  have k0 := hB2.cell 0
  have k1 := hB2.cell 1
  have k2 := hB2.cell 2
  have k3 := hB2.cell 3
  have k4 := hB2.cell 4
  have k5 := hB2.cell 5
  simp at k0 k1 k2 k3 k4 k5
  have p2 := pU.on hb12
  have x2 := xU.on hb12
  have hw2 : Below w.heap.size w U2 := hwU.trans (hb12.mono hwU.size)
  clear hBU pU xU
  go_wp2_with fail
  refine (pvalue_c U2 p (m := 4) p2 HF.out (by omega) x2 HX.out (by omega)).mono ?_
  rintro e U3 ⟨s3, a3, n3, c3, a4, n4, c4, rfl, q3, hb3⟩
  go_upto_region 6 with (fail)
  have hQ := Pro1.mk' U3 #[.bool s3, .slice a3 n3 c3, .slice a4 n4 c4] 27
  generalize U3.alloc (.cells #[.bool s3, .slice a3 n3 c3, .slice a4 n4 c4] 27) = V3 at *
  have hb23 := hb3.trans (hQ.below.mono hb3.size)
  have hB3 := hB2.on hb23
  have k0 := hB3.cell 0
  have k1 := hB3.cell 1
  have k2 := hB3.cell 2
  have k3 := hB3.cell 3
  have k4 := hB3.cell 4
  have k5 := hB3.cell 5
  simp at k0 k1 k2 k3 k4 k5
  have p3 := p2.on hb23
  have x3 := x2.on hb23
  have hV3 := hQ.b0
  have q3 := q3.on hQ.below
  have hw3 : Below w.heap.size w V3 := hw2.trans (hb23.mono hw2.size)
  clear hB2 p2 x2 hQ
  go_wp2_with fail
  refine (fpvalue_c V3 p (m := 4) p3 HF.out (by omega) x3 HX.out (by omega)).mono ?_
  rintro e U4 ⟨s5, a5, n5, c5, a6, n6, c6, rfl, q5, hb4⟩
  go_upto_region 7 with (fail)
  have hQ := Pro1.mk' U4 #[.bool s5, .slice a5 n5 c5, .slice a6 n6 c6] 27
  generalize U4.alloc (.cells #[.bool s5, .slice a5 n5 c5, .slice a6 n6 c6] 27) = X at *
  have hb34 := hb4.trans (hQ.below.mono hb4.size)
  have hB4 := hB3.on hb34
  have k0 := hB4.cell 0
  have k1 := hB4.cell 1
  have k2 := hB4.cell 2
  have k3 := hB4.cell 3
  have k4 := hB4.cell 4
  have k5 := hB4.cell 5
  have kz4 := hB4.lt
  have hV4 := hV3.on hb34
  have l0 := hV4.cell 0
  have l1 := hV4.cell 1
  have l2 := hV4.cell 2
  have lz := hV4.lt
  have m0 := hQ.b0.cell 0
  have m1 := hQ.b0.cell 1
  have m2 := hQ.b0.cell 2
  have mz := hQ.b0.lt
  simp at k0 k1 k2 k3 k4 k5 l0 l1 l2 m0 m1 m2
  have p4 := p3.on hb34
  have x4 := x3.on hb34
  have q3 := q3.on hb34
  have q5 := q5.on hQ.below
  have hw4 : Below w.heap.size w X := hw3.trans (hb34.mono hw3.size)
  have HH : Hid (H (valQ p xs) ≤ 274877906944) := by
    unfold valQ
    split
    · rename_i h9
      exact fev_H (m := 4) p4.obj HF.out.obj (by omega) h9.1.obj HX.out
    · show H (0 : Rat) ≤ 274877906944
      rw [H_zero]; omega
  clear hB3 p3 x3 hQ hV3
  obtain ⟨hcx, hfx⟩ := upcell X
  obtain ⟨bF, hbF⟩ : ∃ b, decide (FeasS p xs) = b := ⟨_, rfl⟩
  have HV1 : Hid (∀ x : Up X, Calls Try.prog 13 #[.agg #[.int .i64 p.vars, .slice p.ra p.rn p.rc, .slice p.obj.ad p.obj.n p.obj.c, .bool p.obj.k.neg, .slice p.obj.k.a1 p.obj.k.n1 p.obj.k.c1, .slice p.obj.k.a2 p.obj.k.n2 p.obj.k.c2], .slice ad n c] x.w (RetB bF x.w)) := fun x => by rw [← hbF]; exact pfeas_c x.w p (m := 4) (p4.on x.below) HF.out (by omega) (x4.on x.below) HX.out (by omega)
  have HV2 : Hid (∀ x : Up X, Calls Try.prog 14 #[.agg #[.int .i64 p.vars, .slice p.ra p.rn p.rc, .slice p.obj.ad p.obj.n p.obj.c, .bool p.obj.k.neg, .slice p.obj.k.a1 p.obj.k.n1 p.obj.k.c1, .slice p.obj.k.a2 p.obj.k.n2 p.obj.k.c2], .slice ad n c] x.w (RetB bF x.w)) := fun x => by rw [← hbF]; exact fpfeas_c x.w p (m := 4) (p4.on x.below) HF.out (by omega) (x4.on x.below) HX.out (by omega)
  have HV3 : Hid (∀ x : Up X, Calls Try.prog 15 #[.agg #[.bool s3, .slice a3 n3 c3, .slice a4 n4 c4], .agg #[.bool s5, .slice a5 n5 c5, .slice a6 n6 c6]] x.w (RetInt 0 x.w)) := fun x => by
    have h9 := frcmp_c x.w (q3.on x.below) (q5.on x.below) HH.out HH.out
    rwa [sgR_sub_zero.2 rfl] at h9
  have be := eq_refl_b bF
  have ve : (valE p xs == valE p xs) = true := by simp
  clear hbF
  generalize valE p xs = ve9 at *
  refine wp_region_up (by kernel_rfl) (by kernel_rfl) ?_
  repeat (go_big_quiet_step ((first | (go_at_call 13; exact up_b (HV1.out _)) | (go_at_call 14; exact up_b (HV2.out _)) | (go_at_call 15; exact up_i (HV3.out _)))))
  refine wpQuiet_nil ?_
  intro x
  go_wp2_with fail
  go_ret
  exact ⟨rfl, hw4.trans (x.below.mono hw4.size)⟩
end Go.Proofs.Ytledagemcknlcaa
namespace Go.Proofs.Ytledagemcknlcaa
open Go.ChangeShapes Go.WideShapes Go.RowKit Go.Deep
theorem op_point {H : Type} {enc : TypeId × Value → H} {w : World} {base : Nat} {spare : Nat → Bool} {held : Bool} {fuel : Nat} {ad : Option Addr} {n c : Nat} {x : DataW H × List MemPlace} (h : DataW.trod enc Try.prog w base spare held fuel 34 (Value.slice ad n c).cells.toList = some x) :
    ∃ xs : List RD, PtR w ad n c xs ∧ n ≤ 9223372036854775807 ∧ LenP xs := by
  obtain ⟨ad', n', c', us, hcs, h1, h2, h3, h4⟩ := op_pt h
  simp [Value.cells] at hcs
  obtain ⟨rfl, rfl, rfl⟩ := hcs
  have hm : maxLen = 9223372036854775807 := rfl
  have hall : ∀ (i : Nat) (r : RD), us[i]? = some r → r.In w ∧ r.n1 ≤ maxLen ∧ r.n2 ≤ maxLen := fun i r hr => by
    obtain ⟨b, o, _, _, hc⟩ := h4 (by have := (List.getElem?_eq_some_iff.1 hr).1; omega)
    exact (hc i r hr).1
  refine ⟨us, ⟨h1, h2, fun i r hr => (hall i r hr).1, fun h0 => ?_⟩, by omega, fun i r hr => ⟨by have := (hall i r hr).2.1; omega, by have := (hall i r hr).2.2; omega⟩⟩
  obtain ⟨b, o, e, hb, hc⟩ := h4 h0
  exact ⟨b, o, e, hb, fun i r hr => (hc i r hr).2⟩
end Go.Proofs.Ytledagemcknlcaa
