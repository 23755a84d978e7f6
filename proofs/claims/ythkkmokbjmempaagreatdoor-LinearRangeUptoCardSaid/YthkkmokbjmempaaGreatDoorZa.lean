/- Walks: relucertlaw07.few@01, relucertlaw07.small@0, relucertlaw07.point@0, relucertref07.Valid@0. -/
import Derived.Test.YthkkmokbjmempaaGreatDoorUe
set_option linter.all false
set_option linter.all false
set_option maxRecDepth 100000
set_option maxHeartbeats 6400000
namespace Go.Proofs.YthkkmokbjmempaaGreatDoor
open Go.RowKit

/-! relucertlaw07.few, level 0 -/
noncomputable def few_C4 : Code := (loopsOf (bodyOf Tryz.f46)).getD 0 .skip
def few_h4 (a0 : List (Int × Raw)) (i_4 : Nat) : St :=
  ⟨[(0, .sl 4 (a0.map termRC)), (5, .lit (.int .i64 (i_4 : Int)))],
   [], 0⟩
def few_o4a  : St :=
  ⟨[(4, .lit (.bool false))],
   [], 0⟩
def few_o4b  : St :=
  ⟨[(4, .any)],
   [], 0⟩
theorem few_r4_1 {n : Nat} {a0 : List (Int × Raw)} {i_4 : Nat} {v3 : Int} {r3 : Raw} (C1 : (i_4 : Int) < (a0.length : Int)) (E2 : a0[i_4]? = some (v3, r3)) (C3 : ¬ 2 < (r3.l1.length : Int)) (C4 : ¬ 2 < (r3.l2.length : Int)) (W5 : InI ((i_4 : Int) + 1)) :
    Cont 0 (exec Tryz.prog (tab n) 0 45 (livesOf 46) big few_C4) (livesOf 46 4) (few_h4 a0 i_4) (few_h4 a0 (i_4 + 1)) := by
  have C1_ : i_4 < a0.length := by omega
  obtain ⟨EL2, EG2⟩ := List.getElem?_eq_some_iff.1 E2
  have C3_ : ¬ 2 < r3.l1.length := by omega
  have C4_ : ¬ 2 < r3.l2.length := by omega
  have W5_ : IntKind.i64.wrap ((i_4 : Int) + 1) = (i_4 : Int) + 1 := wr64 W5.1 W5.2
  unfold Cont
  simp +decide [few_h4, loopsOf, Tryz.f46, few_C4, C1, C1_, EL2, EG2, E2, C3, C3_, C4, C4_, W5_]
theorem few_x4_1 {n : Nat} {a0 : List (Int × Raw)} {i_4 : Nat} {v3 : Int} {r3 : Raw} (C1 : (i_4 : Int) < (a0.length : Int)) (E2 : a0[i_4]? = some (v3, r3)) (C3 : 2 < (r3.l1.length : Int)) :
    Leave 0 (exec Tryz.prog (tab n) 0 45 (livesOf 46) big few_C4) (livesOf 46 (outOf 4)) (few_h4 a0 i_4) (.ret) (few_o4a ) := by
  have C1_ : i_4 < a0.length := by omega
  obtain ⟨EL2, EG2⟩ := List.getElem?_eq_some_iff.1 E2
  have C3_ : 2 < r3.l1.length := by omega
  unfold Leave
  simp +decide [few_h4, loopsOf, Tryz.f46, few_o4a, few_C4, C1, C1_, EL2, EG2, E2, C3, C3_]
theorem few_x4_2 {n : Nat} {a0 : List (Int × Raw)} {i_4 : Nat} {v3 : Int} {r3 : Raw} (C1 : (i_4 : Int) < (a0.length : Int)) (E2 : a0[i_4]? = some (v3, r3)) (C3 : ¬ 2 < (r3.l1.length : Int)) (C4 : 2 < (r3.l2.length : Int)) :
    Leave 0 (exec Tryz.prog (tab n) 0 45 (livesOf 46) big few_C4) (livesOf 46 (outOf 4)) (few_h4 a0 i_4) (.ret) (few_o4a ) := by
  have C1_ : i_4 < a0.length := by omega
  obtain ⟨EL2, EG2⟩ := List.getElem?_eq_some_iff.1 E2
  have C3_ : ¬ 2 < r3.l1.length := by omega
  have C4_ : 2 < r3.l2.length := by omega
  unfold Leave
  simp +decide [few_h4, loopsOf, Tryz.f46, few_o4a, few_C4, C1, C1_, EL2, EG2, E2, C3, C3_, C4, C4_]
theorem few_x4_3 {n : Nat} {a0 : List (Int × Raw)} {i_4 : Nat} (C1 : ¬ (i_4 : Int) < (a0.length : Int)) :
    Leave 0 (exec Tryz.prog (tab n) 0 45 (livesOf 46) big few_C4) (livesOf 46 (outOf 4)) (few_h4 a0 i_4) (.exit 0) (few_o4b ) := by
  have C1_ : ¬ i_4 < a0.length := by omega
  unfold Leave
  simp +decide [few_h4, loopsOf, Tryz.f46, few_o4b, few_C4, C1, C1_]
theorem few_f1 {n : Nat} {a0 : List (Int × Raw)} {a1 : Raw} (C1 : 8 < (a0.length : Int)) :
    run n 46 [.sl 4 (a0.map termRC), .agg [.lit (.bool a1.s), natA a1.l1, natA a1.l2]] = some (.lit (.bool false)) := by
  have C1_ : 8 < a0.length := by omega
  unfold run fnP
  simp +decide [Tryz.f46, C1, C1_]
theorem few_f2 {n : Nat} {a0 : List (Int × Raw)} {a1 : Raw} (C1 : ¬ 8 < (a0.length : Int)) (C2 : 2 < (a1.l1.length : Int)) :
    run n 46 [.sl 4 (a0.map termRC), .agg [.lit (.bool a1.s), natA a1.l1, natA a1.l2]] = some (.lit (.bool false)) := by
  have C1_ : ¬ 8 < a0.length := by omega
  have C2_ : 2 < a1.l1.length := by omega
  unfold run fnP
  simp +decide [Tryz.f46, C1, C1_, C2, C2_]
theorem few_f3 {n : Nat} {a0 : List (Int × Raw)} {a1 : Raw} (C1 : ¬ 8 < (a0.length : Int)) (C2 : ¬ 2 < (a1.l1.length : Int)) (C3 : 2 < (a1.l2.length : Int)) :
    run n 46 [.sl 4 (a0.map termRC), .agg [.lit (.bool a1.s), natA a1.l1, natA a1.l2]] = some (.lit (.bool false)) := by
  have C1_ : ¬ 8 < a0.length := by omega
  have C2_ : ¬ 2 < a1.l1.length := by omega
  have C3_ : 2 < a1.l2.length := by omega
  unfold run fnP
  simp +decide [Tryz.f46, C1, C1_, C2, C2_, C3, C3_]
theorem few_f4 {n : Nat} {a0 : List (Int × Raw)} {a1 : Raw} (C1 : ¬ 8 < (a0.length : Int)) (C2 : ¬ 2 < (a1.l1.length : Int)) (C3 : ¬ 2 < (a1.l2.length : Int)) (L4 : loopG Tryz.prog (tab n) 0 45 (livesOf 46) 4 few_C4 (few_h4 a0 0) = some (.ret, few_o4a )) :
    run n 46 [.sl 4 (a0.map termRC), .agg [.lit (.bool a1.s), natA a1.l1, natA a1.l2]] = some (.lit (.bool false)) := by
  have C1_ : ¬ 8 < a0.length := by omega
  have C2_ : ¬ 2 < a1.l1.length := by omega
  have C3_ : ¬ 2 < a1.l2.length := by omega
  unfold run fnP
  simp +decide [Tryz.f46, C1, C1_, C2, C2_, C3, C3_]
  rw [loopX_G (C' := few_C4) (e := (few_h4 a0 0)) ?_ ?_, L4]
  rotate_left
  · kernel_rfl
  · simp +decide [few_h4, C1, C1_, C2, C2_, C3, C3_]
  simp +decide [few_o4a, C1, C1_, C2, C2_, C3, C3_]
theorem few_f5 {n : Nat} {a0 : List (Int × Raw)} {a1 : Raw} (C1 : ¬ 8 < (a0.length : Int)) (C2 : ¬ 2 < (a1.l1.length : Int)) (C3 : ¬ 2 < (a1.l2.length : Int)) (L4 : loopG Tryz.prog (tab n) 0 45 (livesOf 46) 4 few_C4 (few_h4 a0 0) = some (.exit 0, few_o4b )) :
    run n 46 [.sl 4 (a0.map termRC), .agg [.lit (.bool a1.s), natA a1.l1, natA a1.l2]] = some (.lit (.bool true)) := by
  have C1_ : ¬ 8 < a0.length := by omega
  have C2_ : ¬ 2 < a1.l1.length := by omega
  have C3_ : ¬ 2 < a1.l2.length := by omega
  unfold run fnP
  simp +decide [Tryz.f46, C1, C1_, C2, C2_, C3, C3_]
  rw [loopX_G (C' := few_C4) (e := (few_h4 a0 0)) ?_ ?_, L4]
  rotate_left
  · kernel_rfl
  · simp +decide [few_h4, C1, C1_, C2, C2_, C3, C3_]
  simp +decide [few_o4b, C1, C1_, C2, C2_, C3, C3_]
/-! relucertlaw07.small, level 1 -/
theorem sml_f1 {n : Nat} {a0 : FormR} {r : Bool} {r2 : Bool} (K1 : run n 46 [.sl 4 (a0.1.map termRC), .agg [.lit (.bool a0.2.s), natA a0.2.l1, natA a0.2.l2]] = some (.lit (.bool r))) (C2 : r = true) (K3 : run n 18 [.agg [.sl 4 (a0.1.map termRC), .lit (.bool a0.2.s), natA a0.2.l1, natA a0.2.l2], .lit (.int .i64 4611686018427387904)] = some (.lit (.bool r2))) :
    run (n + 1) 17 [.agg [.sl 4 (a0.1.map termRC), .lit (.bool a0.2.s), natA a0.2.l1, natA a0.2.l2]] = some (.lit (.bool r2)) := by
  unfold run fnP
  simp +decide [Tryz.f17, K1, C2, K3]
theorem sml_f2 {n : Nat} {a0 : FormR} {r : Bool} (K1 : run n 46 [.sl 4 (a0.1.map termRC), .agg [.lit (.bool a0.2.s), natA a0.2.l1, natA a0.2.l2]] = some (.lit (.bool r))) (C2 : r = false) :
    run (n + 1) 17 [.agg [.sl 4 (a0.1.map termRC), .lit (.bool a0.2.s), natA a0.2.l1, natA a0.2.l2]] = some (.lit (.bool false)) := by
  unfold run fnP
  simp +decide [Tryz.f17, K1, C2]
/-! relucertlaw07.point, level 0 -/
noncomputable def pt_C4 : Code := (loopsOf (bodyOf Tryz.f24)).getD 0 .skip
def pt_h4 (a0 : List Raw) (i_4 : Nat) : St :=
  ⟨[(0, .sl 3 (a0.map rawC)), (3, .lit (.int .i64 (i_4 : Int)))],
   [], 0⟩
def pt_o4a  : St :=
  ⟨[(2, .lit (.bool false))],
   [], 0⟩
def pt_o4b  : St :=
  ⟨[(2, .any)],
   [], 0⟩
theorem pt_r4_1 {n : Nat} {a0 : List Raw} {i_4 : Nat} {x3 : Raw} (C1 : (i_4 : Int) < (a0.length : Int)) (E2 : a0[i_4]? = some x3) (C3 : ¬ 2 < (x3.l1.length : Int)) (C4 : ¬ 2 < (x3.l2.length : Int)) (B5a : RawB x3) (C6 : RatV x3.s x3.l1 x3.l2) (W7 : InI ((i_4 : Int) + 1)) :
    Cont 0 (exec Tryz.prog (tab n) 0 37 (livesOf 24) big pt_C4) (livesOf 24 4) (pt_h4 a0 i_4) (pt_h4 a0 (i_4 + 1)) := by
  have C1_ : i_4 < a0.length := by omega
  obtain ⟨EL2, EG2⟩ := List.getElem?_eq_some_iff.1 E2
  have C3_ : ¬ 2 < x3.l1.length := by omega
  have C4_ : ¬ 2 < x3.l2.length := by omega
  have K5 := rr_valid B5a
  have W7_ : IntKind.i64.wrap ((i_4 : Int) + 1) = (i_4 : Int) + 1 := wr64 W7.1 W7.2
  unfold Cont
  simp +decide [pt_h4, loopsOf, Tryz.f24, pt_C4, C1, C1_, EL2, EG2, E2, C3, C3_, C4, C4_, K5, C6, W7_]
theorem pt_x4_1 {n : Nat} {a0 : List Raw} {i_4 : Nat} {x3 : Raw} (C1 : (i_4 : Int) < (a0.length : Int)) (E2 : a0[i_4]? = some x3) (C3 : 2 < (x3.l1.length : Int)) :
    Leave 0 (exec Tryz.prog (tab n) 0 37 (livesOf 24) big pt_C4) (livesOf 24 (outOf 4)) (pt_h4 a0 i_4) (.ret) (pt_o4a ) := by
  have C1_ : i_4 < a0.length := by omega
  obtain ⟨EL2, EG2⟩ := List.getElem?_eq_some_iff.1 E2
  have C3_ : 2 < x3.l1.length := by omega
  unfold Leave
  simp +decide [pt_h4, loopsOf, Tryz.f24, pt_o4a, pt_C4, C1, C1_, EL2, EG2, E2, C3, C3_]
theorem pt_x4_2 {n : Nat} {a0 : List Raw} {i_4 : Nat} {x3 : Raw} (C1 : (i_4 : Int) < (a0.length : Int)) (E2 : a0[i_4]? = some x3) (C3 : ¬ 2 < (x3.l1.length : Int)) (C4 : 2 < (x3.l2.length : Int)) :
    Leave 0 (exec Tryz.prog (tab n) 0 37 (livesOf 24) big pt_C4) (livesOf 24 (outOf 4)) (pt_h4 a0 i_4) (.ret) (pt_o4a ) := by
  have C1_ : i_4 < a0.length := by omega
  obtain ⟨EL2, EG2⟩ := List.getElem?_eq_some_iff.1 E2
  have C3_ : ¬ 2 < x3.l1.length := by omega
  have C4_ : 2 < x3.l2.length := by omega
  unfold Leave
  simp +decide [pt_h4, loopsOf, Tryz.f24, pt_o4a, pt_C4, C1, C1_, EL2, EG2, E2, C3, C3_, C4, C4_]
theorem pt_x4_3 {n : Nat} {a0 : List Raw} {i_4 : Nat} {x3 : Raw} (C1 : (i_4 : Int) < (a0.length : Int)) (E2 : a0[i_4]? = some x3) (C3 : ¬ 2 < (x3.l1.length : Int)) (C4 : ¬ 2 < (x3.l2.length : Int)) (B5a : RawB x3) (C6 : ¬ (RatV x3.s x3.l1 x3.l2)) :
    Leave 0 (exec Tryz.prog (tab n) 0 37 (livesOf 24) big pt_C4) (livesOf 24 (outOf 4)) (pt_h4 a0 i_4) (.ret) (pt_o4a ) := by
  have C1_ : i_4 < a0.length := by omega
  obtain ⟨EL2, EG2⟩ := List.getElem?_eq_some_iff.1 E2
  have C3_ : ¬ 2 < x3.l1.length := by omega
  have C4_ : ¬ 2 < x3.l2.length := by omega
  have K5 := rr_valid B5a
  unfold Leave
  simp +decide [pt_h4, loopsOf, Tryz.f24, pt_o4a, pt_C4, C1, C1_, EL2, EG2, E2, C3, C3_, C4, C4_, K5, C6]
theorem pt_x4_4 {n : Nat} {a0 : List Raw} {i_4 : Nat} (C1 : ¬ (i_4 : Int) < (a0.length : Int)) :
    Leave 0 (exec Tryz.prog (tab n) 0 37 (livesOf 24) big pt_C4) (livesOf 24 (outOf 4)) (pt_h4 a0 i_4) (.exit 0) (pt_o4b ) := by
  have C1_ : ¬ i_4 < a0.length := by omega
  unfold Leave
  simp +decide [pt_h4, loopsOf, Tryz.f24, pt_o4b, pt_C4, C1, C1_]
theorem pt_f1 {n : Nat} {a0 : List Raw} (C1 : 8 < (a0.length : Int)) :
    run n 24 [.sl 3 (a0.map rawC)] = some (.lit (.bool false)) := by
  have C1_ : 8 < a0.length := by omega
  unfold run fnP
  simp +decide [Tryz.f24, C1, C1_]
theorem pt_f2 {n : Nat} {a0 : List Raw} (C1 : ¬ 8 < (a0.length : Int)) (L2 : loopG Tryz.prog (tab n) 0 37 (livesOf 24) 4 pt_C4 (pt_h4 a0 0) = some (.ret, pt_o4a )) :
    run n 24 [.sl 3 (a0.map rawC)] = some (.lit (.bool false)) := by
  have C1_ : ¬ 8 < a0.length := by omega
  unfold run fnP
  simp +decide [Tryz.f24, C1, C1_]
  rw [loopX_G (C' := pt_C4) (e := (pt_h4 a0 0)) ?_ ?_, L2]
  rotate_left
  · kernel_rfl
  · simp +decide [pt_h4, C1, C1_]
  simp +decide [pt_o4a, C1, C1_]
theorem pt_f3 {n : Nat} {a0 : List Raw} (C1 : ¬ 8 < (a0.length : Int)) (L2 : loopG Tryz.prog (tab n) 0 37 (livesOf 24) 4 pt_C4 (pt_h4 a0 0) = some (.exit 0, pt_o4b )) :
    run n 24 [.sl 3 (a0.map rawC)] = some (.lit (.bool true)) := by
  have C1_ : ¬ 8 < a0.length := by omega
  unfold run fnP
  simp +decide [Tryz.f24, C1, C1_]
  rw [loopX_G (C' := pt_C4) (e := (pt_h4 a0 0)) ?_ ?_, L2]
  rotate_left
  · kernel_rfl
  · simp +decide [pt_h4, C1, C1_]
  simp +decide [pt_o4b, C1, C1_]
/-! relucertref07.Valid, level 0 -/
noncomputable def vaR_C2 : Code := (loopsOf (bodyOf Tryz.f18)).getD 0 .skip
def vaR_h2 (a0 : FormR) (a1 : Int) (i_2 : Nat) : St :=
  ⟨[(1, .lit (.int .i64 a1)), (2, .ptr 0 0), (5, .lit (.int .i64 (i_2 : Int)))],
   [(0, some (.box 29 [.sl 4 (a0.1.map termRC), .lit (.bool a0.2.s), natA a0.2.l1, natA a0.2.l2] false))], 1⟩
def vaR_o2a (a0 : FormR) : St :=
  ⟨[(2, .ptr 0 0), (4, .lit (.bool false))],
   [(0, some (.box 29 [.sl 4 (a0.1.map termRC), .lit (.bool a0.2.s), natA a0.2.l1, natA a0.2.l2] false))], 1⟩
def vaR_o2b (a0 : FormR) : St :=
  ⟨[(2, .ptr 0 0), (4, .any)],
   [(0, some (.box 29 [.sl 4 (a0.1.map termRC), .lit (.bool a0.2.s), natA a0.2.l1, natA a0.2.l2] false))], 1⟩
theorem vaR_r2_1 {n : Nat} {a0 : FormR} {a1 : Int} {i_2 : Nat} {v4 : Int} {r4 : Raw} {v5 : Int} {r5 : Raw} (C1 : (i_2 : Int) < (a0.1.length : Int)) (E2 : a0.1[i_2]? = some (v4, r4)) (C3 : ¬ v4 < 0) (C4 : ¬ a1 ≤ v4) (C5 : 0 < (i_2 : Int)) (W6 : InI ((i_2 : Int) - 1)) (E7 : a0.1[i_2 - 1]? = some (v5, r5)) (Z7 : 1 ≤ i_2) (C8 : ¬ v4 ≤ v5) (B9a : RawB r4) (C10 : ¬ sgR r4.q = 0) (C12 : RatV r4.s r4.l1 r4.l2) (W13 : InI ((i_2 : Int) + 1)) :
    Cont 0 (exec Tryz.prog (tab n) 0 59 (livesOf 18) big vaR_C2) (livesOf 18 2) (vaR_h2 a0 a1 i_2) (vaR_h2 a0 a1 (i_2 + 1)) := by
  have C1_ : i_2 < a0.1.length := by omega
  obtain ⟨EL2, EG2⟩ := List.getElem?_eq_some_iff.1 E2
  have C5_ : 0 < i_2 := by omega
  have C5_z : (i_2 : Int) ≠ 0 := by omega
  have C5_e : ((i_2 : Int) == 0) = false := by simpa using C5_z
  have C5_g : ((i_2 : Int) != 0) = true := by simpa using C5_z
  have W6_ : IntKind.i64.wrap ((i_2 : Int) - 1) = (i_2 : Int) - 1 := wr64 W6.1 W6.2
  obtain ⟨EL7, EG7⟩ := List.getElem?_eq_some_iff.1 E7
  have Z7_0 : (1 : Int) ≤ (i_2 : Int) := by omega
  have Z7_1 : 0 ≤ (i_2 : Int) - 1 := by omega
  have K9 := rr_sign B9a
  have C10_ : (sgR r4.q == 0) = false := by simpa using C10
  have C10_n : (sgR r4.q != 0) = true := by simpa using C10
  have K11 := rr_valid B9a
  have W13_ : IntKind.i64.wrap ((i_2 : Int) + 1) = (i_2 : Int) + 1 := wr64 W13.1 W13.2
  unfold Cont
  simp +decide [vaR_h2, loopsOf, Tryz.f18, vaR_C2, C1, C1_, EL2, EG2, E2, C3, C4, C5, C5_, C5_e, C5_g, W6_, EL7, EG7, E7, Z7, Z7_0, Z7_1, C8, K9, C10_, C10_n, K11, C12, W13_]
theorem vaR_r2_2 {n : Nat} {a0 : FormR} {a1 : Int} {i_2 : Nat} {v4 : Int} {r4 : Raw} (C1 : (i_2 : Int) < (a0.1.length : Int)) (E2 : a0.1[i_2]? = some (v4, r4)) (C3 : ¬ v4 < 0) (C4 : ¬ a1 ≤ v4) (C5 : ¬ 0 < (i_2 : Int)) (B6a : RawB r4) (C7 : ¬ sgR r4.q = 0) (C9 : RatV r4.s r4.l1 r4.l2) (W10 : InI ((i_2 : Int) + 1)) :
    Cont 0 (exec Tryz.prog (tab n) 0 59 (livesOf 18) big vaR_C2) (livesOf 18 2) (vaR_h2 a0 a1 i_2) (vaR_h2 a0 a1 (i_2 + 1)) := by
  have C1_ : i_2 < a0.1.length := by omega
  obtain ⟨EL2, EG2⟩ := List.getElem?_eq_some_iff.1 E2
  have C5_ : ¬ 0 < i_2 := by omega
  have C5_z : (i_2 : Int) = 0 := by omega
  have C5_e : ((i_2 : Int) == 0) = true := by rw [C5_z]; simp
  have C5_g : ((i_2 : Int) != 0) = false := by rw [C5_z]; simp
  have K6 := rr_sign B6a
  have C7_ : (sgR r4.q == 0) = false := by simpa using C7
  have C7_n : (sgR r4.q != 0) = true := by simpa using C7
  have K8 := rr_valid B6a
  have W10_ : IntKind.i64.wrap ((i_2 : Int) + 1) = (i_2 : Int) + 1 := wr64 W10.1 W10.2
  unfold Cont
  simp +decide [vaR_h2, loopsOf, Tryz.f18, vaR_C2, C1, C1_, EL2, EG2, E2, C3, C4, C5, C5_, C5_e, C5_g, K6, C7_, C7_n, K8, C9, W10_]
theorem vaR_x2_1 {n : Nat} {a0 : FormR} {a1 : Int} {i_2 : Nat} {v4 : Int} {r4 : Raw} (C1 : (i_2 : Int) < (a0.1.length : Int)) (E2 : a0.1[i_2]? = some (v4, r4)) (C3 : v4 < 0) :
    Leave 0 (exec Tryz.prog (tab n) 0 59 (livesOf 18) big vaR_C2) (livesOf 18 (outOf 2)) (vaR_h2 a0 a1 i_2) (.ret) (vaR_o2a a0) := by
  have C1_ : i_2 < a0.1.length := by omega
  obtain ⟨EL2, EG2⟩ := List.getElem?_eq_some_iff.1 E2
  unfold Leave
  simp +decide [vaR_h2, loopsOf, Tryz.f18, vaR_o2a, vaR_C2, C1, C1_, EL2, EG2, E2, C3]
theorem vaR_x2_2 {n : Nat} {a0 : FormR} {a1 : Int} {i_2 : Nat} {v4 : Int} {r4 : Raw} (C1 : (i_2 : Int) < (a0.1.length : Int)) (E2 : a0.1[i_2]? = some (v4, r4)) (C3 : ¬ v4 < 0) (C4 : a1 ≤ v4) :
    Leave 0 (exec Tryz.prog (tab n) 0 59 (livesOf 18) big vaR_C2) (livesOf 18 (outOf 2)) (vaR_h2 a0 a1 i_2) (.ret) (vaR_o2a a0) := by
  have C1_ : i_2 < a0.1.length := by omega
  obtain ⟨EL2, EG2⟩ := List.getElem?_eq_some_iff.1 E2
  unfold Leave
  simp +decide [vaR_h2, loopsOf, Tryz.f18, vaR_o2a, vaR_C2, C1, C1_, EL2, EG2, E2, C3, C4]
theorem vaR_x2_3 {n : Nat} {a0 : FormR} {a1 : Int} {i_2 : Nat} {v4 : Int} {r4 : Raw} {v5 : Int} {r5 : Raw} (C1 : (i_2 : Int) < (a0.1.length : Int)) (E2 : a0.1[i_2]? = some (v4, r4)) (C3 : ¬ v4 < 0) (C4 : ¬ a1 ≤ v4) (C5 : 0 < (i_2 : Int)) (W6 : InI ((i_2 : Int) - 1)) (E7 : a0.1[i_2 - 1]? = some (v5, r5)) (Z7 : 1 ≤ i_2) (C8 : v4 ≤ v5) :
    Leave 0 (exec Tryz.prog (tab n) 0 59 (livesOf 18) big vaR_C2) (livesOf 18 (outOf 2)) (vaR_h2 a0 a1 i_2) (.ret) (vaR_o2a a0) := by
  have C1_ : i_2 < a0.1.length := by omega
  obtain ⟨EL2, EG2⟩ := List.getElem?_eq_some_iff.1 E2
  have C5_ : 0 < i_2 := by omega
  have C5_z : (i_2 : Int) ≠ 0 := by omega
  have C5_e : ((i_2 : Int) == 0) = false := by simpa using C5_z
  have C5_g : ((i_2 : Int) != 0) = true := by simpa using C5_z
  have W6_ : IntKind.i64.wrap ((i_2 : Int) - 1) = (i_2 : Int) - 1 := wr64 W6.1 W6.2
  obtain ⟨EL7, EG7⟩ := List.getElem?_eq_some_iff.1 E7
  have Z7_0 : (1 : Int) ≤ (i_2 : Int) := by omega
  have Z7_1 : 0 ≤ (i_2 : Int) - 1 := by omega
  unfold Leave
  simp +decide [vaR_h2, loopsOf, Tryz.f18, vaR_o2a, vaR_C2, C1, C1_, EL2, EG2, E2, C3, C4, C5, C5_, C5_e, C5_g, W6_, EL7, EG7, E7, Z7, Z7_0, Z7_1, C8]
theorem vaR_x2_4 {n : Nat} {a0 : FormR} {a1 : Int} {i_2 : Nat} {v4 : Int} {r4 : Raw} {v5 : Int} {r5 : Raw} (C1 : (i_2 : Int) < (a0.1.length : Int)) (E2 : a0.1[i_2]? = some (v4, r4)) (C3 : ¬ v4 < 0) (C4 : ¬ a1 ≤ v4) (C5 : 0 < (i_2 : Int)) (W6 : InI ((i_2 : Int) - 1)) (E7 : a0.1[i_2 - 1]? = some (v5, r5)) (Z7 : 1 ≤ i_2) (C8 : ¬ v4 ≤ v5) (B9a : RawB r4) (C10 : sgR r4.q = 0) :
    Leave 0 (exec Tryz.prog (tab n) 0 59 (livesOf 18) big vaR_C2) (livesOf 18 (outOf 2)) (vaR_h2 a0 a1 i_2) (.ret) (vaR_o2a a0) := by
  have C1_ : i_2 < a0.1.length := by omega
  obtain ⟨EL2, EG2⟩ := List.getElem?_eq_some_iff.1 E2
  have C5_ : 0 < i_2 := by omega
  have C5_z : (i_2 : Int) ≠ 0 := by omega
  have C5_e : ((i_2 : Int) == 0) = false := by simpa using C5_z
  have C5_g : ((i_2 : Int) != 0) = true := by simpa using C5_z
  have W6_ : IntKind.i64.wrap ((i_2 : Int) - 1) = (i_2 : Int) - 1 := wr64 W6.1 W6.2
  obtain ⟨EL7, EG7⟩ := List.getElem?_eq_some_iff.1 E7
  have Z7_0 : (1 : Int) ≤ (i_2 : Int) := by omega
  have Z7_1 : 0 ≤ (i_2 : Int) - 1 := by omega
  have K9 := rr_sign B9a
  have C10_ : (sgR r4.q == 0) = true := by rw [C10]; simp
  have C10_n : (sgR r4.q != 0) = false := by rw [C10]; simp
  unfold Leave
  simp +decide [vaR_h2, loopsOf, Tryz.f18, vaR_o2a, vaR_C2, C1, C1_, EL2, EG2, E2, C3, C4, C5, C5_, C5_e, C5_g, W6_, EL7, EG7, E7, Z7, Z7_0, Z7_1, C8, K9, C10_, C10_n]
theorem vaR_x2_5 {n : Nat} {a0 : FormR} {a1 : Int} {i_2 : Nat} {v4 : Int} {r4 : Raw} {v5 : Int} {r5 : Raw} (C1 : (i_2 : Int) < (a0.1.length : Int)) (E2 : a0.1[i_2]? = some (v4, r4)) (C3 : ¬ v4 < 0) (C4 : ¬ a1 ≤ v4) (C5 : 0 < (i_2 : Int)) (W6 : InI ((i_2 : Int) - 1)) (E7 : a0.1[i_2 - 1]? = some (v5, r5)) (Z7 : 1 ≤ i_2) (C8 : ¬ v4 ≤ v5) (B9a : RawB r4) (C10 : ¬ sgR r4.q = 0) (C12 : ¬ (RatV r4.s r4.l1 r4.l2)) :
    Leave 0 (exec Tryz.prog (tab n) 0 59 (livesOf 18) big vaR_C2) (livesOf 18 (outOf 2)) (vaR_h2 a0 a1 i_2) (.ret) (vaR_o2a a0) := by
  have C1_ : i_2 < a0.1.length := by omega
  obtain ⟨EL2, EG2⟩ := List.getElem?_eq_some_iff.1 E2
  have C5_ : 0 < i_2 := by omega
  have C5_z : (i_2 : Int) ≠ 0 := by omega
  have C5_e : ((i_2 : Int) == 0) = false := by simpa using C5_z
  have C5_g : ((i_2 : Int) != 0) = true := by simpa using C5_z
  have W6_ : IntKind.i64.wrap ((i_2 : Int) - 1) = (i_2 : Int) - 1 := wr64 W6.1 W6.2
  obtain ⟨EL7, EG7⟩ := List.getElem?_eq_some_iff.1 E7
  have Z7_0 : (1 : Int) ≤ (i_2 : Int) := by omega
  have Z7_1 : 0 ≤ (i_2 : Int) - 1 := by omega
  have K9 := rr_sign B9a
  have C10_ : (sgR r4.q == 0) = false := by simpa using C10
  have C10_n : (sgR r4.q != 0) = true := by simpa using C10
  have K11 := rr_valid B9a
  unfold Leave
  simp +decide [vaR_h2, loopsOf, Tryz.f18, vaR_o2a, vaR_C2, C1, C1_, EL2, EG2, E2, C3, C4, C5, C5_, C5_e, C5_g, W6_, EL7, EG7, E7, Z7, Z7_0, Z7_1, C8, K9, C10_, C10_n, K11, C12]
theorem vaR_x2_6 {n : Nat} {a0 : FormR} {a1 : Int} {i_2 : Nat} {v4 : Int} {r4 : Raw} (C1 : (i_2 : Int) < (a0.1.length : Int)) (E2 : a0.1[i_2]? = some (v4, r4)) (C3 : ¬ v4 < 0) (C4 : ¬ a1 ≤ v4) (C5 : ¬ 0 < (i_2 : Int)) (B6a : RawB r4) (C7 : sgR r4.q = 0) :
    Leave 0 (exec Tryz.prog (tab n) 0 59 (livesOf 18) big vaR_C2) (livesOf 18 (outOf 2)) (vaR_h2 a0 a1 i_2) (.ret) (vaR_o2a a0) := by
  have C1_ : i_2 < a0.1.length := by omega
  obtain ⟨EL2, EG2⟩ := List.getElem?_eq_some_iff.1 E2
  have C5_ : ¬ 0 < i_2 := by omega
  have C5_z : (i_2 : Int) = 0 := by omega
  have C5_e : ((i_2 : Int) == 0) = true := by rw [C5_z]; simp
  have C5_g : ((i_2 : Int) != 0) = false := by rw [C5_z]; simp
  have K6 := rr_sign B6a
  have C7_ : (sgR r4.q == 0) = true := by rw [C7]; simp
  have C7_n : (sgR r4.q != 0) = false := by rw [C7]; simp
  unfold Leave
  simp +decide [vaR_h2, loopsOf, Tryz.f18, vaR_o2a, vaR_C2, C1, C1_, EL2, EG2, E2, C3, C4, C5, C5_, C5_e, C5_g, K6, C7_, C7_n]
theorem vaR_x2_7 {n : Nat} {a0 : FormR} {a1 : Int} {i_2 : Nat} {v4 : Int} {r4 : Raw} (C1 : (i_2 : Int) < (a0.1.length : Int)) (E2 : a0.1[i_2]? = some (v4, r4)) (C3 : ¬ v4 < 0) (C4 : ¬ a1 ≤ v4) (C5 : ¬ 0 < (i_2 : Int)) (B6a : RawB r4) (C7 : ¬ sgR r4.q = 0) (C9 : ¬ (RatV r4.s r4.l1 r4.l2)) :
    Leave 0 (exec Tryz.prog (tab n) 0 59 (livesOf 18) big vaR_C2) (livesOf 18 (outOf 2)) (vaR_h2 a0 a1 i_2) (.ret) (vaR_o2a a0) := by
  have C1_ : i_2 < a0.1.length := by omega
  obtain ⟨EL2, EG2⟩ := List.getElem?_eq_some_iff.1 E2
  have C5_ : ¬ 0 < i_2 := by omega
  have C5_z : (i_2 : Int) = 0 := by omega
  have C5_e : ((i_2 : Int) == 0) = true := by rw [C5_z]; simp
  have C5_g : ((i_2 : Int) != 0) = false := by rw [C5_z]; simp
  have K6 := rr_sign B6a
  have C7_ : (sgR r4.q == 0) = false := by simpa using C7
  have C7_n : (sgR r4.q != 0) = true := by simpa using C7
  have K8 := rr_valid B6a
  unfold Leave
  simp +decide [vaR_h2, loopsOf, Tryz.f18, vaR_o2a, vaR_C2, C1, C1_, EL2, EG2, E2, C3, C4, C5, C5_, C5_e, C5_g, K6, C7_, C7_n, K8, C9]
theorem vaR_x2_8 {n : Nat} {a0 : FormR} {a1 : Int} {i_2 : Nat} (C1 : ¬ (i_2 : Int) < (a0.1.length : Int)) :
    Leave 0 (exec Tryz.prog (tab n) 0 59 (livesOf 18) big vaR_C2) (livesOf 18 (outOf 2)) (vaR_h2 a0 a1 i_2) (.exit 0) (vaR_o2b a0) := by
  have C1_ : ¬ i_2 < a0.1.length := by omega
  unfold Leave
  simp +decide [vaR_h2, loopsOf, Tryz.f18, vaR_o2b, vaR_C2, C1, C1_]
theorem vaR_f1 {n : Nat} {a0 : FormR} {a1 : Int} (L1 : loopG Tryz.prog (tab n) 0 59 (livesOf 18) 2 vaR_C2 (vaR_h2 a0 a1 0) = some (.ret, vaR_o2a a0)) :
    run n 18 [.agg [.sl 4 (a0.1.map termRC), .lit (.bool a0.2.s), natA a0.2.l1, natA a0.2.l2], .lit (.int .i64 a1)] = some (.lit (.bool false)) := by
  unfold run fnP
  simp +decide [Tryz.f18]
  rw [loopX_G (C' := vaR_C2) (e := (vaR_h2 a0 a1 0)) ?_ ?_, L1]
  rotate_left
  · kernel_rfl
  · simp +decide [vaR_h2]
  simp +decide [vaR_o2a]
theorem vaR_f2 {n : Nat} {a0 : FormR} {a1 : Int} (L1 : loopG Tryz.prog (tab n) 0 59 (livesOf 18) 2 vaR_C2 (vaR_h2 a0 a1 0) = some (.exit 0, vaR_o2b a0)) (B2a : RawB a0.2) :
    run n 18 [.agg [.sl 4 (a0.1.map termRC), .lit (.bool a0.2.s), natA a0.2.l1, natA a0.2.l2], .lit (.int .i64 a1)] = some (.lit (.bool (decide (RatV a0.2.s a0.2.l1 a0.2.l2)))) := by
  have K2 := rr_valid B2a
  unfold run fnP
  simp +decide [Tryz.f18, K2]
  rw [loopX_G (C' := vaR_C2) (e := (vaR_h2 a0 a1 0)) ?_ ?_, L1]
  rotate_left
  · kernel_rfl
  · simp +decide [vaR_h2, K2]
  simp +decide [vaR_o2b, K2]
end Go.Proofs.YthkkmokbjmempaaGreatDoor
