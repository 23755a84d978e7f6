import Derived.Test.YtjpoanaoaeaneaaGreatDoorGC9
import Derived.Test.YtjpoanaoaeaneaaGreatDoorGC5
import Derived.Test.YtjpoanaoaeaneaaGreatDoorGC8
set_option linter.all false
set_option maxRecDepth 100000
set_option maxHeartbeats 6400000
namespace Go.Proofs.YtjpoanaoaeaneaaGreatDoor
open Go.RowKit
attribute [local irreducible] run runL loopG exec
theorem few_c {n : Nat} {l : List (Int × Raw)} {c : Raw} : run n 31 [.sl 4 (l.map termRC), .agg [.lit (.bool c.s), natA c.l1, natA c.l2]] = some (.lit (.bool (tv (FewR l c)))) := by
  by_cases h1 : 8 < l.length
  · rw [tv_f fun h => by have := h.1; omega]
    exact few_f1 (by omega)
  by_cases h2 : 2 < c.l1.length
  · rw [tv_f fun h => by have := h.2.1.1; omega]
    exact few_f2 (by omega) (by omega)
  by_cases h3 : 2 < c.l2.length
  · rw [tv_f fun h => by have := h.2.1.2; omega]
    exact few_f3 (by omega) (by omega) (by omega)
  have L := loopG_all (O := tab n) (P := Tryz.prog) (m := 0) (N := 45) (lives := livesOf 31) (r := 4) (C := few_C4) (M := l.length) (enc := few_h4 l) (p := fun i => tv (∀ t, l[i]? = some t → Two t.2)) (exN := .exit 0) (exE := .ret) (out := few_o4b) (outE := few_o4a) (by omega) (fun h => by cases h) (fun h => by cases h)
    (fun i hi _ => by
      obtain ⟨v, r⟩ : Int × Raw := l[i]
      have hx : l[i]? = some l[i] := List.getElem?_eq_getElem hi
      obtain ⟨t, ht⟩ : ∃ t, l[i] = t := ⟨_, rfl⟩
      rw [ht] at hx
      obtain ⟨v, r⟩ := t
      refine ⟨fun hp => ?_, fun hp => ?_⟩
      · have hp := tv_true hp _ hx
        have a1 := hp.1; have a2 := hp.2
        dsimp only at a1 a2
        exact few_r4_1 (by omega) hx (by omega) (by omega) ⟨by omega, by omega⟩
      · have hp := tv_false hp
        by_cases a1 : 2 < r.l1.length
        · exact few_x4_1 (by omega) hx (by omega)
        · by_cases a2 : 2 < r.l2.length
          · exact few_x4_2 (by omega) hx (by omega) (by omega)
          · exact absurd (fun t ht => by rw [hx] at ht; cases ht; exact ⟨by dsimp only; omega, by dsimp only; omega⟩) hp)
    (few_x4_3 (by omega))
  by_cases hA : ∀ i, i < l.length → tv (∀ t, l[i]? = some t → Two t.2) = true
  · rw [if_pos hA] at L
    rw [tv_t]
    · exact few_f5 (by omega) (by omega) (by omega) L
    · refine ⟨by omega, ⟨by omega, by omega⟩, fun t ht => ?_⟩
      obtain ⟨i, hi⟩ := List.mem_iff_getElem?.1 ht
      exact tv_true (hA i (List.getElem?_eq_some_iff.1 hi).1) t hi
  · rw [if_neg hA] at L
    rw [tv_f]
    · exact few_f4 (by omega) (by omega) (by omega) L
    · intro h
      refine hA fun i hi => tv_t fun t ht => h.2.2 t (List.mem_of_getElem? ht)
structure SmF7 (F : Form) : Prop where
  l : F.1.length ≤ 8
  t : ∀ t ∈ F.1, H t.2 ≤ 2
  k : H F.2 ≤ 2
  ok : OkFm F 4611686018427387904
end Go.Proofs.YtjpoanaoaeaneaaGreatDoor
set_option linter.all false
set_option maxRecDepth 100000
set_option maxHeartbeats 6400000
namespace Go.Proofs.YtjpoanaoaeaneaaGreatDoor
open Go.RowKit
noncomputable def lvaR_C2 : Code := (loopsOf (bodyOf Tryz.f34)).getD 0 .skip
def lvaR_h2 (a0 : FormR) (a1 : Int) (i_2 : Nat) : St :=
  ⟨[(1, .lit (.int .i64 a1)), (2, .ptr 0 0), (8, .sl 4 (a0.1.map termRC)), (9, .lit (.int .i64 (a0.1.length : Int))), (10, .lit (.int .i64 (i_2 : Int)))],
   [(0, some (.box 28 [.sl 4 (a0.1.map termRC), .lit (.bool a0.2.s), natA a0.2.l1, natA a0.2.l2] false))], 1⟩
def lvaR_o2a (a0 : FormR) : St :=
  ⟨[(2, .ptr 0 0), (4, .lit (.bool false))],
   [(0, some (.box 28 [.sl 4 (a0.1.map termRC), .lit (.bool a0.2.s), natA a0.2.l1, natA a0.2.l2] false))], 1⟩
def lvaR_o2b (a0 : FormR) : St :=
  ⟨[(2, .ptr 0 0), (4, .any)],
   [(0, some (.box 28 [.sl 4 (a0.1.map termRC), .lit (.bool a0.2.s), natA a0.2.l1, natA a0.2.l2] false))], 1⟩
section
variable {r4 : Raw} {n : Nat} {i_2 : Nat} {a0 : FormR} {a1 : Int} {v5 : Int} {r5 : Raw} {v4 : Int}
theorem lvaR_r2_1 (C1 : (i_2 : Int) < (a0.1.length : Int)) (E2 : a0.1[i_2]? = some (v4, r4)) (C3 : ¬ v4 < 0) (C4 : ¬ a1 ≤ v4) (C5 : 0 < (i_2 : Int)) (W6 : InI ((i_2 : Int) - 1)) (E7 : a0.1[i_2 - 1]? = some (v5, r5)) (Z7 : 1 ≤ i_2) (C8 : ¬ v4 ≤ v5) (B9a : RawB r4) (C10 : ¬ sgR r4.q = 0) (C12 : RatV r4.s r4.l1 r4.l2) (W13 : InI ((i_2 : Int) + 1)) :
    Cont 0 (exec Tryz.prog (tab n) 0 56 (livesOf 34) big lvaR_C2) (livesOf 34 2) (lvaR_h2 a0 a1 i_2) (lvaR_h2 a0 a1 (i_2 + 1)) := by
  have C1_ : i_2 < a0.1.length := by omega
  obtain ⟨EL2, EG2⟩ := List.getElem?_eq_some_iff.1 E2
  have C5_ : 0 < i_2 := by omega
  have C5_z : (i_2 : Int) ≠ 0 := by omega
  have C5_e : ((i_2 : Int) == 0) = false := by simpa using C5_z
  have C5_g : ((i_2 : Int) != 0) = true := by simpa using C5_z
  have W6_ : IntKind.i64.wrap ((i_2 : Int) - 1) = (i_2 : Int) - 1 := wr64 W6.1 W6.2
  obtain ⟨EL7, EG7⟩ := List.getElem?_eq_some_iff.1 E7
  have Z7_0 : (1 : Int) ≤ (i_2 : Int) := by omega
  have Z7_1 : 0 ≤ (i_2 : Int) - 1 := by omega
  have K9 := rr_sign B9a
  have C10_ : (sgR r4.q == 0) = false := by simpa using C10
  have C10_n : (sgR r4.q != 0) = true := by simpa using C10
  have K11 := rr_valid B9a
  have W13_ : IntKind.i64.wrap ((i_2 : Int) + 1) = (i_2 : Int) + 1 := wr64 W13.1 W13.2
  unfold Cont
  simp +decide [lvaR_h2, loopsOf, Tryz.f34, lvaR_C2, C1, C1_, EL2, EG2, E2, C3, C4, C5, C5_, C5_e, C5_g, W6_, EL7, EG7, E7, Z7, Z7_0, Z7_1, C8, K9, C10_, C10_n, K11, C12, W13_]
theorem lvaR_r2_2 (C1 : (i_2 : Int) < (a0.1.length : Int)) (E2 : a0.1[i_2]? = some (v4, r4)) (C3 : ¬ v4 < 0) (C4 : ¬ a1 ≤ v4) (C5 : ¬ 0 < (i_2 : Int)) (B6a : RawB r4) (C7 : ¬ sgR r4.q = 0) (C9 : RatV r4.s r4.l1 r4.l2) (W10 : InI ((i_2 : Int) + 1)) :
    Cont 0 (exec Tryz.prog (tab n) 0 56 (livesOf 34) big lvaR_C2) (livesOf 34 2) (lvaR_h2 a0 a1 i_2) (lvaR_h2 a0 a1 (i_2 + 1)) := by
  have C1_ : i_2 < a0.1.length := by omega
  obtain ⟨EL2, EG2⟩ := List.getElem?_eq_some_iff.1 E2
  have C5_ : ¬ 0 < i_2 := by omega
  have C5_z : (i_2 : Int) = 0 := by omega
  have C5_e : ((i_2 : Int) == 0) = true := by rw [C5_z]; simp
  have C5_g : ((i_2 : Int) != 0) = false := by rw [C5_z]; simp
  have K6 := rr_sign B6a
  have C7_ : (sgR r4.q == 0) = false := by simpa using C7
  have C7_n : (sgR r4.q != 0) = true := by simpa using C7
  have K8 := rr_valid B6a
  have W10_ : IntKind.i64.wrap ((i_2 : Int) + 1) = (i_2 : Int) + 1 := wr64 W10.1 W10.2
  unfold Cont
  simp +decide [lvaR_h2, loopsOf, Tryz.f34, lvaR_C2, C1, C1_, EL2, EG2, E2, C3, C4, C5, C5_, C5_e, C5_g, K6, C7_, C7_n, K8, C9, W10_]
theorem lvaR_x2_1 (C1 : (i_2 : Int) < (a0.1.length : Int)) (E2 : a0.1[i_2]? = some (v4, r4)) (C3 : v4 < 0) :
    Leave 0 (exec Tryz.prog (tab n) 0 56 (livesOf 34) big lvaR_C2) (livesOf 34 (outOf 2)) (lvaR_h2 a0 a1 i_2) (.ret) (lvaR_o2a a0) := by
  have C1_ : i_2 < a0.1.length := by omega
  obtain ⟨EL2, EG2⟩ := List.getElem?_eq_some_iff.1 E2
  unfold Leave
  simp +decide [lvaR_h2, loopsOf, Tryz.f34, lvaR_o2a, lvaR_C2, C1, C1_, EL2, EG2, E2, C3]
theorem lvaR_x2_2 (C1 : (i_2 : Int) < (a0.1.length : Int)) (E2 : a0.1[i_2]? = some (v4, r4)) (C3 : ¬ v4 < 0) (C4 : a1 ≤ v4) :
    Leave 0 (exec Tryz.prog (tab n) 0 56 (livesOf 34) big lvaR_C2) (livesOf 34 (outOf 2)) (lvaR_h2 a0 a1 i_2) (.ret) (lvaR_o2a a0) := by
  have C1_ : i_2 < a0.1.length := by omega
  obtain ⟨EL2, EG2⟩ := List.getElem?_eq_some_iff.1 E2
  unfold Leave
  simp +decide [lvaR_h2, loopsOf, Tryz.f34, lvaR_o2a, lvaR_C2, C1, C1_, EL2, EG2, E2, C3, C4]
theorem lvaR_x2_3 (C1 : (i_2 : Int) < (a0.1.length : Int)) (E2 : a0.1[i_2]? = some (v4, r4)) (C3 : ¬ v4 < 0) (C4 : ¬ a1 ≤ v4) (C5 : 0 < (i_2 : Int)) (W6 : InI ((i_2 : Int) - 1)) (E7 : a0.1[i_2 - 1]? = some (v5, r5)) (Z7 : 1 ≤ i_2) (C8 : v4 ≤ v5) :
    Leave 0 (exec Tryz.prog (tab n) 0 56 (livesOf 34) big lvaR_C2) (livesOf 34 (outOf 2)) (lvaR_h2 a0 a1 i_2) (.ret) (lvaR_o2a a0) := by
  have C1_ : i_2 < a0.1.length := by omega
  obtain ⟨EL2, EG2⟩ := List.getElem?_eq_some_iff.1 E2
  have C5_ : 0 < i_2 := by omega
  have C5_z : (i_2 : Int) ≠ 0 := by omega
  have C5_e : ((i_2 : Int) == 0) = false := by simpa using C5_z
  have C5_g : ((i_2 : Int) != 0) = true := by simpa using C5_z
  have W6_ : IntKind.i64.wrap ((i_2 : Int) - 1) = (i_2 : Int) - 1 := wr64 W6.1 W6.2
  obtain ⟨EL7, EG7⟩ := List.getElem?_eq_some_iff.1 E7
  have Z7_0 : (1 : Int) ≤ (i_2 : Int) := by omega
  have Z7_1 : 0 ≤ (i_2 : Int) - 1 := by omega
  unfold Leave
  simp +decide [lvaR_h2, loopsOf, Tryz.f34, lvaR_o2a, lvaR_C2, C1, C1_, EL2, EG2, E2, C3, C4, C5, C5_, C5_e, C5_g, W6_, EL7, EG7, E7, Z7, Z7_0, Z7_1, C8]
theorem lvaR_x2_4 (C1 : (i_2 : Int) < (a0.1.length : Int)) (E2 : a0.1[i_2]? = some (v4, r4)) (C3 : ¬ v4 < 0) (C4 : ¬ a1 ≤ v4) (C5 : 0 < (i_2 : Int)) (W6 : InI ((i_2 : Int) - 1)) (E7 : a0.1[i_2 - 1]? = some (v5, r5)) (Z7 : 1 ≤ i_2) (C8 : ¬ v4 ≤ v5) (B9a : RawB r4) (C10 : sgR r4.q = 0) :
    Leave 0 (exec Tryz.prog (tab n) 0 56 (livesOf 34) big lvaR_C2) (livesOf 34 (outOf 2)) (lvaR_h2 a0 a1 i_2) (.ret) (lvaR_o2a a0) := by
  have C1_ : i_2 < a0.1.length := by omega
  obtain ⟨EL2, EG2⟩ := List.getElem?_eq_some_iff.1 E2
  have C5_ : 0 < i_2 := by omega
  have C5_z : (i_2 : Int) ≠ 0 := by omega
  have C5_e : ((i_2 : Int) == 0) = false := by simpa using C5_z
  have C5_g : ((i_2 : Int) != 0) = true := by simpa using C5_z
  have W6_ : IntKind.i64.wrap ((i_2 : Int) - 1) = (i_2 : Int) - 1 := wr64 W6.1 W6.2
  obtain ⟨EL7, EG7⟩ := List.getElem?_eq_some_iff.1 E7
  have Z7_0 : (1 : Int) ≤ (i_2 : Int) := by omega
  have Z7_1 : 0 ≤ (i_2 : Int) - 1 := by omega
  have K9 := rr_sign B9a
  have C10_ : (sgR r4.q == 0) = true := by rw [C10]; simp
  have C10_n : (sgR r4.q != 0) = false := by rw [C10]; simp
  unfold Leave
  simp +decide [lvaR_h2, loopsOf, Tryz.f34, lvaR_o2a, lvaR_C2, C1, C1_, EL2, EG2, E2, C3, C4, C5, C5_, C5_e, C5_g, W6_, EL7, EG7, E7, Z7, Z7_0, Z7_1, C8, K9, C10_, C10_n]
theorem lvaR_x2_5 (C1 : (i_2 : Int) < (a0.1.length : Int)) (E2 : a0.1[i_2]? = some (v4, r4)) (C3 : ¬ v4 < 0) (C4 : ¬ a1 ≤ v4) (C5 : 0 < (i_2 : Int)) (W6 : InI ((i_2 : Int) - 1)) (E7 : a0.1[i_2 - 1]? = some (v5, r5)) (Z7 : 1 ≤ i_2) (C8 : ¬ v4 ≤ v5) (B9a : RawB r4) (C10 : ¬ sgR r4.q = 0) (C12 : ¬ (RatV r4.s r4.l1 r4.l2)) :
    Leave 0 (exec Tryz.prog (tab n) 0 56 (livesOf 34) big lvaR_C2) (livesOf 34 (outOf 2)) (lvaR_h2 a0 a1 i_2) (.ret) (lvaR_o2a a0) := by
  have C1_ : i_2 < a0.1.length := by omega
  obtain ⟨EL2, EG2⟩ := List.getElem?_eq_some_iff.1 E2
  have C5_ : 0 < i_2 := by omega
  have C5_z : (i_2 : Int) ≠ 0 := by omega
  have C5_e : ((i_2 : Int) == 0) = false := by simpa using C5_z
  have C5_g : ((i_2 : Int) != 0) = true := by simpa using C5_z
  have W6_ : IntKind.i64.wrap ((i_2 : Int) - 1) = (i_2 : Int) - 1 := wr64 W6.1 W6.2
  obtain ⟨EL7, EG7⟩ := List.getElem?_eq_some_iff.1 E7
  have Z7_0 : (1 : Int) ≤ (i_2 : Int) := by omega
  have Z7_1 : 0 ≤ (i_2 : Int) - 1 := by omega
  have K9 := rr_sign B9a
  have C10_ : (sgR r4.q == 0) = false := by simpa using C10
  have C10_n : (sgR r4.q != 0) = true := by simpa using C10
  have K11 := rr_valid B9a
  unfold Leave
  simp +decide [lvaR_h2, loopsOf, Tryz.f34, lvaR_o2a, lvaR_C2, C1, C1_, EL2, EG2, E2, C3, C4, C5, C5_, C5_e, C5_g, W6_, EL7, EG7, E7, Z7, Z7_0, Z7_1, C8, K9, C10_, C10_n, K11, C12]
theorem lvaR_x2_6 (C1 : (i_2 : Int) < (a0.1.length : Int)) (E2 : a0.1[i_2]? = some (v4, r4)) (C3 : ¬ v4 < 0) (C4 : ¬ a1 ≤ v4) (C5 : ¬ 0 < (i_2 : Int)) (B6a : RawB r4) (C7 : sgR r4.q = 0) :
    Leave 0 (exec Tryz.prog (tab n) 0 56 (livesOf 34) big lvaR_C2) (livesOf 34 (outOf 2)) (lvaR_h2 a0 a1 i_2) (.ret) (lvaR_o2a a0) := by
  have C1_ : i_2 < a0.1.length := by omega
  obtain ⟨EL2, EG2⟩ := List.getElem?_eq_some_iff.1 E2
  have C5_ : ¬ 0 < i_2 := by omega
  have C5_z : (i_2 : Int) = 0 := by omega
  have C5_e : ((i_2 : Int) == 0) = true := by rw [C5_z]; simp
  have C5_g : ((i_2 : Int) != 0) = false := by rw [C5_z]; simp
  have K6 := rr_sign B6a
  have C7_ : (sgR r4.q == 0) = true := by rw [C7]; simp
  have C7_n : (sgR r4.q != 0) = false := by rw [C7]; simp
  unfold Leave
  simp +decide [lvaR_h2, loopsOf, Tryz.f34, lvaR_o2a, lvaR_C2, C1, C1_, EL2, EG2, E2, C3, C4, C5, C5_, C5_e, C5_g, K6, C7_, C7_n]
theorem lvaR_x2_7 (C1 : (i_2 : Int) < (a0.1.length : Int)) (E2 : a0.1[i_2]? = some (v4, r4)) (C3 : ¬ v4 < 0) (C4 : ¬ a1 ≤ v4) (C5 : ¬ 0 < (i_2 : Int)) (B6a : RawB r4) (C7 : ¬ sgR r4.q = 0) (C9 : ¬ (RatV r4.s r4.l1 r4.l2)) :
    Leave 0 (exec Tryz.prog (tab n) 0 56 (livesOf 34) big lvaR_C2) (livesOf 34 (outOf 2)) (lvaR_h2 a0 a1 i_2) (.ret) (lvaR_o2a a0) := by
  have C1_ : i_2 < a0.1.length := by omega
  obtain ⟨EL2, EG2⟩ := List.getElem?_eq_some_iff.1 E2
  have C5_ : ¬ 0 < i_2 := by omega
  have C5_z : (i_2 : Int) = 0 := by omega
  have C5_e : ((i_2 : Int) == 0) = true := by rw [C5_z]; simp
  have C5_g : ((i_2 : Int) != 0) = false := by rw [C5_z]; simp
  have K6 := rr_sign B6a
  have C7_ : (sgR r4.q == 0) = false := by simpa using C7
  have C7_n : (sgR r4.q != 0) = true := by simpa using C7
  have K8 := rr_valid B6a
  unfold Leave
  simp +decide [lvaR_h2, loopsOf, Tryz.f34, lvaR_o2a, lvaR_C2, C1, C1_, EL2, EG2, E2, C3, C4, C5, C5_, C5_e, C5_g, K6, C7_, C7_n, K8, C9]
theorem lvaR_x2_8 (C1 : ¬ (i_2 : Int) < (a0.1.length : Int)) :
    Leave 0 (exec Tryz.prog (tab n) 0 56 (livesOf 34) big lvaR_C2) (livesOf 34 (outOf 2)) (lvaR_h2 a0 a1 i_2) (.exit 0) (lvaR_o2b a0) := by
  have C1_ : ¬ i_2 < a0.1.length := by omega
  unfold Leave
  simp +decide [lvaR_h2, loopsOf, Tryz.f34, lvaR_o2b, lvaR_C2, C1, C1_]
theorem lvaR_f1 (L1 : loopG Tryz.prog (tab n) 0 56 (livesOf 34) 2 lvaR_C2 (lvaR_h2 a0 a1 0) = some (.ret, lvaR_o2a a0)) :
    run n 34 [.agg [.sl 4 (a0.1.map termRC), .lit (.bool a0.2.s), natA a0.2.l1, natA a0.2.l2], .lit (.int .i64 a1)] = some (.lit (.bool false)) := by
  unfold run fnP
  simp +decide [Tryz.f34]
  rw [loopX_G (C' := lvaR_C2) (e := (lvaR_h2 a0 a1 0)) ?_ ?_, L1]
  rotate_left
  · kernel_rfl
  · simp +decide [lvaR_h2]
  simp +decide [lvaR_o2a]
theorem lvaR_f2 (L1 : loopG Tryz.prog (tab n) 0 56 (livesOf 34) 2 lvaR_C2 (lvaR_h2 a0 a1 0) = some (.exit 0, lvaR_o2b a0)) (B2a : RawB a0.2) :
    run n 34 [.agg [.sl 4 (a0.1.map termRC), .lit (.bool a0.2.s), natA a0.2.l1, natA a0.2.l2], .lit (.int .i64 a1)] = some (.lit (.bool (decide (RatV a0.2.s a0.2.l1 a0.2.l2)))) := by
  have K2 := rr_valid B2a
  unfold run fnP
  simp +decide [Tryz.f34, K2]
  rw [loopX_G (C' := lvaR_C2) (e := (lvaR_h2 a0 a1 0)) ?_ ?_, L1]
  rotate_left
  · kernel_rfl
  · simp +decide [lvaR_h2, K2]
  simp +decide [lvaR_o2b, K2]
end
end Go.Proofs.YtjpoanaoaeaneaaGreatDoor
set_option linter.all false
set_option maxRecDepth 100000
set_option maxHeartbeats 6400000
namespace Go.Proofs.YtjpoanaoaeaneaaGreatDoor
open Go.RowKit
attribute [local irreducible] run runL loopG exec
theorem lvalidRB_c {n : Nat} {f : FormR} {vars : Int} (h8 : f.1.length ≤ 100000) (hrbs : ∀ t ∈ f.1, RawB t.2) (hkb : RawB f.2) : run n 34 [frV f, .lit (.int .i64 vars)] = some (.lit (.bool (tv (OkFR f vars)))) := by
  have L := loopG_all (O := tab n) (P := Tryz.prog) (m := 0) (N := 56) (lives := livesOf 34) (r := 2) (C := lvaR_C2) (M := f.1.length) (enc := lvaR_h2 f vars) (p := fun i => tv (OkTmR f.1 vars i)) (exN := .exit 0) (exE := .ret) (out := lvaR_o2b f) (outE := lvaR_o2a f) (by omega) (fun h => by cases h) (fun h => by cases h)
    (fun i hi _ => by
      have hx : f.1[i]? = some f.1[i] := List.getElem?_eq_getElem hi
      obtain ⟨t, ht⟩ : ∃ t, f.1[i] = t := ⟨_, rfl⟩
      rw [ht] at hx
      obtain ⟨v, r⟩ := t
      have hm : (v, r) ∈ f.1 := List.mem_of_getElem? hx
      have hrb : RawB r := hrbs _ hm
      have C1 : (i : Int) < (f.1.length : Int) := by omega
      have hp : 0 < i → ∃ v' r', f.1[i - 1]? = some (v', r') := fun h0 => ⟨(f.1[i - 1]'(by omega)).1, (f.1[i - 1]'(by omega)).2, List.getElem?_eq_getElem _⟩
      refine ⟨fun hp' => ?_, fun hp' => ?_⟩
      · obtain ⟨a1, a2, a3, a4, a5⟩ := tv_true hp' v r hx
        have s0 : ¬ sgR r.q = 0 := fun h => a3 (sgR_eq_zero.1 h)
        by_cases h0 : 0 < i
        · obtain ⟨v', r', hx'⟩ := hp h0
          have := a5 v' r' h0 hx'
          exact lvaR_r2_1 C1 hx (by omega) (by omega) (by omega) ⟨by omega, by omega⟩ hx' (by omega) (by omega) hrb s0 a4 ⟨by omega, by omega⟩
        · exact lvaR_r2_2 C1 hx (by omega) (by omega) (by omega) hrb s0 a4 ⟨by omega, by omega⟩
      · have hq := tv_false hp'
        by_cases b1 : v < 0
        · exact lvaR_x2_1 C1 hx b1
        by_cases b2 : vars ≤ v
        · exact lvaR_x2_2 C1 hx b1 b2
        by_cases h0 : 0 < i
        · obtain ⟨v', r', hx'⟩ := hp h0
          by_cases b3 : v ≤ v'
          · exact lvaR_x2_3 C1 hx b1 b2 (by omega) ⟨by omega, by omega⟩ hx' (by omega) b3
          by_cases b4 : sgR r.q = 0
          · exact lvaR_x2_4 C1 hx b1 b2 (by omega) ⟨by omega, by omega⟩ hx' (by omega) b3 hrb b4
          refine lvaR_x2_5 C1 hx b1 b2 (by omega) ⟨by omega, by omega⟩ hx' (by omega) b3 hrb b4 fun b5 => hq fun v2 c2 h2 => ?_
          rw [hx] at h2; cases h2
          refine ⟨by omega, by omega, fun h => b4 (sgR_eq_zero.2 h), b5, fun v3 c3 _ h3 => ?_⟩
          rw [hx'] at h3; cases h3
          omega
        · by_cases b4 : sgR r.q = 0
          · exact lvaR_x2_6 C1 hx b1 b2 (by omega) hrb b4
          refine lvaR_x2_7 C1 hx b1 b2 (by omega) hrb b4 fun b5 => hq fun v2 c2 h2 => ?_
          rw [hx] at h2; cases h2
          exact ⟨by omega, by omega, fun h => b4 (sgR_eq_zero.2 h), b5, fun v3 c3 h9 h3 => absurd h9 h0⟩)
    (lvaR_x2_8 (by omega))
  by_cases hA : ∀ i, i < f.1.length → tv (OkTmR f.1 vars i) = true
  · rw [if_pos hA] at L
    have h := lvaR_f2 L hkb
    have e : decide (RatV f.2.s f.2.l1 f.2.l2) = tv (OkFR f vars) := by
      by_cases hk : Cn f.2
      · rw [tv_t ⟨fun i hi => tv_true (hA i hi), hk⟩]; exact decide_eq_true hk
      · rw [tv_f fun h => hk h.2]; exact decide_eq_false hk
    rw [e] at h
    exact h
  · rw [if_neg hA] at L
    rw [tv_f fun h => hA fun i hi => tv_t (h.1 i hi)]
    exact lvaR_f1 L
theorem lvalidR0_c {n : Nat} {f : FormR} {vars : Int} (hl : LimF f) (hf : FewR f.1 f.2) : run n 34 [frV f, .lit (.int .i64 vars)] = some (.lit (.bool (tv (OkFR f vars)))) :=
  lvalidRB_c (by have := hf.1; omega) (fun t ht => (hf.2.2 t ht).rb (hl.t t ht)) (hf.2.1.rb hl.k)
end Go.Proofs.YtjpoanaoaeaneaaGreatDoor
set_option linter.all false
set_option maxRecDepth 100000
set_option maxHeartbeats 6400000
namespace Go.Proofs.YtjpoanaoaeaneaaGreatDoor
open Go.RowKit
noncomputable def feq_C4 : Code := (loopsOf (bodyOf Tryz.f21)).getD 0 .skip
def feq_h4 (a0 : Form) (a1 : Form) (i_4 : Nat) : St :=
  ⟨[(2, .ptr 0 0), (3, .ptr 1 0), (5, .lit (.int .i64 (i_4 : Int)))],
   [(0, some (.box 28 [.sl 4 (a0.1.map termC), .lit (.bool (rawQ a0.2).s), natA (rawQ a0.2).l1, natA (rawQ a0.2).l2] false)),
    (1, some (.box 28 [.sl 4 (a1.1.map termC), .lit (.bool (rawQ a1.2).s), natA (rawQ a1.2).l1, natA (rawQ a1.2).l2] false))], 2⟩
def feq_o4a  : St :=
  ⟨[(4, .lit (.bool false))],
   [], 0⟩
def feq_o4b  : St :=
  ⟨[(4, .any)],
   [], 0⟩
section
variable {n : Nat} {v6 : Int} {q5 : Rat} {a0 : Form} {q6 : Rat} {a1 : Form} {v5 : Int} {i_4 : Nat}
theorem feq_r4_1 (C1 : (i_4 : Int) < (a0.1.length : Int)) (E2 : a0.1[i_4]? = some (v5, q5)) (E3 : a1.1[i_4]? = some (v6, q6)) (C4 : v5 = v6) (B5a : H q5 ≤ 17179869184) (B5b : H q6 ≤ 17179869184) (C6 : q5 = q6) (W7 : InI ((i_4 : Int) + 1)) :
    Cont 0 (exec Tryz.prog (tab n) 0 57 (livesOf 21) big feq_C4) (livesOf 21 4) (feq_h4 a0 a1 i_4) (feq_h4 a0 a1 (i_4 + 1)) := by
  have C1_ : i_4 < a0.1.length := by omega
  obtain ⟨EL2, EG2⟩ := List.getElem?_eq_some_iff.1 E2
  obtain ⟨EL3, EG3⟩ := List.getElem?_eq_some_iff.1 E3
  have C4_ : (v5 == v6) = true := by rw [C4]; simp
  have C4_n : (v5 != v6) = false := by rw [C4]; simp
  have K5 := r_same (p := q5) (q := q6) B5a B5b
  have C6_ : decide (q5 = q6) = true := decide_eq_true C6
  have W7_ : IntKind.i64.wrap ((i_4 : Int) + 1) = (i_4 : Int) + 1 := wr64 W7.1 W7.2
  unfold Cont
  simp +decide [feq_h4, loopsOf, Tryz.f21, feq_C4, C1, C1_, EL2, EG2, E2, EL3, EG3, E3, C4_, C4_n, K5, C6_, W7_]
theorem feq_x4_1 (C1 : (i_4 : Int) < (a0.1.length : Int)) (E2 : a0.1[i_4]? = some (v5, q5)) (E3 : a1.1[i_4]? = some (v6, q6)) (C4 : ¬ v5 = v6) :
    Leave 0 (exec Tryz.prog (tab n) 0 57 (livesOf 21) big feq_C4) (livesOf 21 (outOf 4)) (feq_h4 a0 a1 i_4) (.ret) (feq_o4a ) := by
  have C1_ : i_4 < a0.1.length := by omega
  obtain ⟨EL2, EG2⟩ := List.getElem?_eq_some_iff.1 E2
  obtain ⟨EL3, EG3⟩ := List.getElem?_eq_some_iff.1 E3
  have C4_ : (v5 == v6) = false := by simpa using C4
  have C4_n : (v5 != v6) = true := by simpa using C4
  unfold Leave
  simp +decide [feq_h4, loopsOf, Tryz.f21, feq_o4a, feq_C4, C1, C1_, EL2, EG2, E2, EL3, EG3, E3, C4_, C4_n]
theorem feq_x4_2 (C1 : (i_4 : Int) < (a0.1.length : Int)) (E2 : a0.1[i_4]? = some (v5, q5)) (E3 : a1.1[i_4]? = some (v6, q6)) (C4 : v5 = v6) (B5a : H q5 ≤ 17179869184) (B5b : H q6 ≤ 17179869184) (C6 : ¬ (q5 = q6)) :
    Leave 0 (exec Tryz.prog (tab n) 0 57 (livesOf 21) big feq_C4) (livesOf 21 (outOf 4)) (feq_h4 a0 a1 i_4) (.ret) (feq_o4a ) := by
  have C1_ : i_4 < a0.1.length := by omega
  obtain ⟨EL2, EG2⟩ := List.getElem?_eq_some_iff.1 E2
  obtain ⟨EL3, EG3⟩ := List.getElem?_eq_some_iff.1 E3
  have C4_ : (v5 == v6) = true := by rw [C4]; simp
  have C4_n : (v5 != v6) = false := by rw [C4]; simp
  have K5 := r_same (p := q5) (q := q6) B5a B5b
  unfold Leave
  simp +decide [feq_h4, loopsOf, Tryz.f21, feq_o4a, feq_C4, C1, C1_, EL2, EG2, E2, EL3, EG3, E3, C4_, C4_n, K5, C6]
theorem feq_x4_3 (C1 : ¬ (i_4 : Int) < (a0.1.length : Int)) :
    Leave 0 (exec Tryz.prog (tab n) 0 57 (livesOf 21) big feq_C4) (livesOf 21 (outOf 4)) (feq_h4 a0 a1 i_4) (.exit 0) (feq_o4b ) := by
  have C1_ : ¬ i_4 < a0.1.length := by omega
  unfold Leave
  simp +decide [feq_h4, loopsOf, Tryz.f21, feq_o4b, feq_C4, C1, C1_]
theorem feq_f1 (C1 : ¬ (a0.1.length : Int) = (a1.1.length : Int)) :
    run n 21 [formV a0, formV a1] = some (.lit (.bool false)) := by
  have C1_ : ((a0.1.length : Int) == (a1.1.length : Int)) = false := by simpa using C1
  have C1_n : ((a0.1.length : Int) != (a1.1.length : Int)) = true := by simpa using C1
  unfold run fnP
  simp +decide [Tryz.f21, C1_, C1_n]
theorem feq_f2 (C1 : (a0.1.length : Int) = (a1.1.length : Int)) (B2a : H a0.2 ≤ 17179869184) (B2b : H a1.2 ≤ 17179869184) (C3 : ¬ (a0.2 = a1.2)) :
    run n 21 [formV a0, formV a1] = some (.lit (.bool false)) := by
  have C1_ : ((a0.1.length : Int) == (a1.1.length : Int)) = true := by rw [C1]; simp
  have C1_n : ((a0.1.length : Int) != (a1.1.length : Int)) = false := by rw [C1]; simp
  have K2 := r_same (p := a0.2) (q := a1.2) B2a B2b
  unfold run fnP
  simp +decide [Tryz.f21, C1_, C1_n, K2, C3]
theorem feq_f3 (C1 : (a0.1.length : Int) = (a1.1.length : Int)) (B2a : H a0.2 ≤ 17179869184) (B2b : H a1.2 ≤ 17179869184) (C3 : a0.2 = a1.2) (L4 : loopG Tryz.prog (tab n) 0 57 (livesOf 21) 4 feq_C4 (feq_h4 a0 a1 0) = some (.ret, feq_o4a )) :
    run n 21 [formV a0, formV a1] = some (.lit (.bool false)) := by
  have C1_ : ((a0.1.length : Int) == (a1.1.length : Int)) = true := by rw [C1]; simp
  have C1_n : ((a0.1.length : Int) != (a1.1.length : Int)) = false := by rw [C1]; simp
  have K2 := r_same (p := a0.2) (q := a1.2) B2a B2b
  have C3_ : decide (a0.2 = a1.2) = true := decide_eq_true C3
  unfold run fnP
  simp +decide [Tryz.f21, C1_, C1_n, K2, C3_]
  rw [loopX_G (C' := feq_C4) (e := (feq_h4 a0 a1 0)) ?_ ?_, L4]
  rotate_left
  · kernel_rfl
  · simp +decide [feq_h4, C1_, C1_n, K2, C3_]
  simp +decide [feq_o4a, C1_, C1_n, K2, C3_]
theorem feq_f4 (C1 : (a0.1.length : Int) = (a1.1.length : Int)) (B2a : H a0.2 ≤ 17179869184) (B2b : H a1.2 ≤ 17179869184) (C3 : a0.2 = a1.2) (L4 : loopG Tryz.prog (tab n) 0 57 (livesOf 21) 4 feq_C4 (feq_h4 a0 a1 0) = some (.exit 0, feq_o4b )) :
    run n 21 [formV a0, formV a1] = some (.lit (.bool true)) := by
  have C1_ : ((a0.1.length : Int) == (a1.1.length : Int)) = true := by rw [C1]; simp
  have C1_n : ((a0.1.length : Int) != (a1.1.length : Int)) = false := by rw [C1]; simp
  have K2 := r_same (p := a0.2) (q := a1.2) B2a B2b
  have C3_ : decide (a0.2 = a1.2) = true := decide_eq_true C3
  unfold run fnP
  simp +decide [Tryz.f21, C1_, C1_n, K2, C3_]
  rw [loopX_G (C' := feq_C4) (e := (feq_h4 a0 a1 0)) ?_ ?_, L4]
  rotate_left
  · kernel_rfl
  · simp +decide [feq_h4, C1_, C1_n, K2, C3_]
  simp +decide [feq_o4b, C1_, C1_n, K2, C3_]
end
end Go.Proofs.YtjpoanaoaeaneaaGreatDoor
set_option linter.all false
set_option maxRecDepth 100000
set_option maxHeartbeats 6400000
namespace Go.Proofs.YtjpoanaoaeaneaaGreatDoor
open Go.RowKit
attribute [local irreducible] run runL loopG exec
theorem list_all {α : Type} {l m : List α} (hl : l.length = m.length) : (∀ i, i < l.length → l[i]? = m[i]?) → l = m := fun h => by
  apply List.ext_getElem?
  intro i
  rcases Nat.lt_or_ge i l.length with hi | hi
  · exact h i hi
  · rw [List.getElem?_eq_none hi, List.getElem?_eq_none (by omega)]
theorem feq_c {n : Nat} {f g : Form} (hf : BdF 17179869184 f) (hg : BdF 17179869184 g) : run n 21 [formV f, formV g] = some (.lit (.bool (tv (f = g)))) := by
  have l1 := hf.l
  have l2 := hg.l
  by_cases hl : f.1.length = g.1.length
  · by_cases hk : f.2 = g.2
    · have L := loopG_all (O := tab n) (P := Tryz.prog) (m := 0) (N := 57) (lives := livesOf 21) (r := 4) (C := feq_C4) (M := f.1.length) (enc := feq_h4 f g) (p := fun i => tv (f.1[i]? = g.1[i]?)) (exN := .exit 0) (exE := .ret) (out := feq_o4b) (outE := feq_o4a) (by omega) (fun h => by cases h) (fun h => by cases h)
        (fun i hi _ => by
          have hx : f.1[i]? = some f.1[i] := List.getElem?_eq_getElem hi
          have hy : g.1[i]? = some (g.1[i]'(by omega)) := List.getElem?_eq_getElem _
          obtain ⟨t, ht⟩ : ∃ t, f.1[i] = t := ⟨_, rfl⟩
          obtain ⟨u, hu⟩ : ∃ u, (g.1[i]'(by omega)) = u := ⟨_, rfl⟩
          rw [ht] at hx
          rw [hu] at hy
          obtain ⟨v, q⟩ := t
          obtain ⟨v', q'⟩ := u
          have hq := hf.t _ (List.mem_of_getElem? hx)
          have hq' := hg.t _ (List.mem_of_getElem? hy)
          dsimp only at hq hq'
          refine ⟨fun hp => ?_, fun hp => ?_⟩
          · have hp := tv_true hp
            rw [hx, hy] at hp
            cases hp
            exact feq_r4_1 (by omega) hx hy rfl hq hq' rfl ⟨by omega, by omega⟩
          · have hp := tv_false hp
            rw [hx, hy] at hp
            by_cases e1 : v = v'
            · exact feq_x4_2 (by omega) hx hy e1 hq hq' fun e2 => hp (by rw [e1, e2])
            · exact feq_x4_1 (by omega) hx hy e1)
        (feq_x4_3 (by omega))
      by_cases hA : ∀ i, i < f.1.length → tv (f.1[i]? = g.1[i]?) = true
      · rw [if_pos hA] at L
        rw [tv_t (Prod.ext (list_all hl fun i hi => tv_true (hA i hi)) hk)]
        exact feq_f4 (by omega) hf.k hg.k hk L
      · rw [if_neg hA] at L
        rw [tv_f fun h => hA fun i hi => tv_t (by rw [h])]
        exact feq_f3 (by omega) hf.k hg.k hk L
    · rw [tv_f fun h => hk (by rw [h])]
      exact feq_f2 (by omega) hf.k hg.k hk
  · rw [tv_f fun h => hl (by rw [h])]
    exact feq_f1 (by omega)
end Go.Proofs.YtjpoanaoaeaneaaGreatDoor
set_option linter.all false
namespace Go.Proofs.YtjpoanaoaeaneaaGreatDoor
open Go.RowKit
def InR (k : Nat) (F : List (Int × Rat)) : Prop := ∀ t ∈ F, 0 ≤ t.1 ∧ t.1 < (k : Int)
theorem InR.app {k : Nat} {F G : List (Int × Rat)} (h : InR k F) (g : InR k G) : InR k (F ++ G) := fun t ht => (List.mem_append.1 ht).elim (h t) (g t)
theorem InR.put {k : Nat} {v : Int} {q : Rat} (h : 0 ≤ v ∧ v < (k : Int)) : InR k (put1 v q) := fun t ht => by
  obtain ⟨rfl, _⟩ := put1_mem ht
  exact h
theorem InR.plus {k : Nat} {v : Int} {c : Rat} (hv : 0 ≤ v ∧ v < (k : Int)) : ∀ {d : Bool} {F : List (Int × Rat)}, InR k F → InR k (plusV d F v c)
  | d, [], _ => by
    rw [plusV]
    split
    · exact fun t ht => by cases ht
    · exact InR.put hv
  | d, t :: F, h => by
    have ht : 0 ≤ t.1 ∧ t.1 < (k : Int) := h t (by simp)
    have hF : InR k F := fun u hu => h u (by simp [hu])
    rw [plusV]
    split
    · exact (InR.put ht).app (InR.plus hv hF)
    · split
      · exact (InR.put hv).app ((InR.put ht).app (InR.plus hv hF))
      · exact (InR.put ht).app (InR.plus hv hF)
theorem InR.add {k : Nat} : ∀ {G F : List (Int × Rat)}, InR k F → InR k G → InR k (addV F G)
  | [], F, h, _ => h
  | t :: G, F, h, g => by
    have e : addV F (t :: G) = addV (plusV false F t.1 t.2) G := rfl
    rw [e]
    exact InR.add (InR.plus (g t (by simp)) h) fun u hu => g u (by simp [hu])
theorem TmB.add {b : Nat} : ∀ {G F : List (Int × Rat)} {m : Nat}, TmB m F → TmB b G → TmB (m + (b + 1) * G.length) (addV F G)
  | [], F, m, h, _ => h
  | t :: G, F, m, h, g => by
    have e : addV F (t :: G) = addV (plusV false F t.1 t.2) G := rfl
    rw [e]
    refine (TmB.add (TmB.plus (g t (by simp)).2 h) fun u hu => g u (by simp [hu])).mono ?_
    rw [List.length_cons, Nat.mul_add]
    omega
theorem TmB.bd {m : Nat} {f : Form} (h : TmB m f.1) (hl : f.1.length ≤ 100000000) (hk : H f.2 ≤ m) : BdF m f := ⟨hl, fun t ht => (h t ht).2, hk⟩
end Go.Proofs.YtjpoanaoaeaneaaGreatDoor
set_option linter.all false
set_option maxRecDepth 100000
set_option maxHeartbeats 6400000
namespace Go.Proofs.YtjpoanaoaeaneaaGreatDoor
open Go.RowKit
attribute [local irreducible] run runL loopG exec lml
theorem two_q {c : Raw} (h : Two c) (hl : LimR2 c) : H c.q ≤ 2 := by
  have a1 := lmb_len_val hl.1
  have a2 : (lmb (dn c.l2)).length ≤ 2 := by
    unfold dn
    split
    · rw [lmb_one]; simp
    · have := lmb_len_val hl.2; have := h.2; omega
  have h9 := H_mk (sgi c.s (val c.l1)) (D := dn c.l2) (dn_pos _)
  rw [sgi_natAbs] at h9
  have := h.1
  show H (sv c.s c.l1 c.l2) ≤ 2
  unfold sv
  omega
theorem addV_b {b : Nat} : ∀ (G F : List (Int × Rat)) (m : Nat), (∀ t ∈ G, H t.2 ≤ b) → TmB m F → TmB (m + (b + 1) * G.length) (addV F G) ∧ (addV F G).length ≤ F.length + G.length
  | [], F, m, _, hF => ⟨hF, Nat.le_refl _⟩
  | t :: G, F, m, hG, hF => by
    have h1 := TmB.plus (v := t.1) (d := false) (hG t (by simp)) hF
    obtain ⟨h2, h3⟩ := addV_b G (plusV false F t.1 t.2) (m + b + 1) (fun u hu => hG u (by simp [hu])) h1
    have h4 := plusV_len false F t.1 t.2
    refine ⟨h2.mono ?_, ?_⟩
    · rw [List.length_cons, Nat.mul_succ]; omega
    · rw [List.length_cons]; show (addV (plusV false F t.1 t.2) G).length ≤ _; omega
theorem lml_law {l : List (Int × Raw)} {c : Raw} {z : Int} (hl : ∀ t ∈ l, LimR2 t.2) (hc : LimR2 c) : Con Tryz.prog 7 [.sl 4 (l.map termRC), .agg (rawC c), .lit (.int .i64 z)] (.lit (.bool true)) := by
  have K := few_c (n := 45) (l := l) (c := c)
  by_cases hf : FewR l c
  · rw [tv_t hf] at K
    obtain ⟨h8, hc2, ht2⟩ := hf
    have hT : ∀ t ∈ l, TmR 2 t := fun t ht => ⟨(ht2 t ht).rb (hl t ht), two_q (ht2 t ht) (hl t ht)⟩
    have cB := hc2.rb hc
    have cH := two_q hc2 hc
    have V := validR_c (n := 45) (f := (l, c)) (vars := z) ⟨hl, hc⟩ ⟨h8, hc2, ht2⟩
    have W := lvalidR0_c (n := 45) (f := (l, c)) (vars := z) ⟨hl, hc⟩ ⟨h8, hc2, ht2⟩
    have fin : (tv (OkFR (l, c) z) == tv (OkFR (l, c) z)) = true := by simp
    rcases fmk_r (n := 43) (a1 := c) (b := 2) (by omega) hT (by omega) with ⟨o, L, h0⟩ | ⟨L, h0⟩
    · have B := fmr_f1 (n := 43) cB L
      have A := lmk_bad (n := 0) (L := l) (a1 := c) (by omega) h0
      have zz : (AV.agg [.sl 4 [], .lit (.bool false), .sl 1 [], .sl 1 []]) = formV ([], 0) := by simp
      rw [zz] at A B
      have hb : BdF 17179869184 (([], 0) : Form) := ⟨by simp, fun t ht => (by cases ht), by show H 0 ≤ _; decide⟩
      have Q := feq_c (n := 45) hb hb
      rw [tv_t rfl] at Q
      have R := lml_f2 (n := 1) (a2 := z) K rfl (by omega) A B rfl Q rfl W V
      rw [fin] at R
      exact lml_con (n := 1) R
    · have B := fmr_f2 (n := 43) cB L
      have A := lmk_ok (n := 0) (L := l) (a1 := c) (b := 2) (by omega) hT (by omega) cB h0
      obtain ⟨b1, b2⟩ := addV_b (b := 2) (l.map qT) [] 0 (fun t ht => by
        obtain ⟨u, hu, rfl⟩ := List.mem_map.1 ht
        exact (hT u hu).h) (fun t ht => (by cases ht))
      rw [List.length_map] at b1 b2
      have hb : BdF 17179869184 (addV [] (l.map qT), c.q) := ((b1.mono (by omega)).bd (f := (addV [] (l.map qT), c.q)) (m := 1000) (by simp at b2; dsimp only; omega) (by dsimp only; omega)).mono (by omega)
      have Q := feq_c (n := 45) hb hb
      rw [tv_t rfl] at Q
      have R := lml_f2 (n := 1) (a2 := z) K rfl (by omega) A B rfl Q rfl W V
      rw [fin] at R
      exact lml_con (n := 1) R
  · rw [tv_f hf] at K
    exact lml_con (n := 1) (lml_f1 K rfl)
end Go.Proofs.YtjpoanaoaeaneaaGreatDoor
