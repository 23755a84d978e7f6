/- Walks: relucertlaw27.forms@0. Walks: program.Valid@0. Walks: relucertref27.Valid@0. -/
import Derived.Test.YtlpmemelhlnfbaaGreatDoorGA6
set_option linter.all false
set_option linter.all false
set_option maxRecDepth 100000
set_option maxHeartbeats 6400000
namespace Go.Proofs.YtlpmemelhlnfbaaGreatDoor
open Go.RowKit

/-! relucertlaw27.forms, level 0 -/
noncomputable def pfm_C4 : Code := (loopsOf (bodyOf Tryz.f15)).getD 0 .skip
noncomputable def pfm_C12 : Code := (loopsOf pfm_C4).getD 0 .skip
def pfm_h12 (a0 : TProgramR) (i_4 : Int) (i_12 : Nat) (F2 : List (Int × Raw)) (r8 : Raw) : St :=
  ⟨[(1, .ptr 0 0), (3, .lit (.int .i64 i_4)), (4, .ptr 1 0), (5, .lit (.int .i64 (i_12 : Int)))],
   [(0, some (.box 31 [.lit (.int .i64 (a0.Vars)), .sl 4 (a0.Rows.map formRC), .sl 4 (a0.Objective.1.map termRC), .lit (.bool a0.Objective.2.s), natA a0.Objective.2.l1, natA a0.Objective.2.l2] false)),
    (1, some (.box 29 [.sl 4 (F2.map termRC), .lit (.bool r8.s), natA r8.l1, natA r8.l2] false))], 2⟩
def pfm_h4 (a0 : TProgramR) (i_4 : Int) : St :=
  ⟨[(1, .ptr 0 0), (3, .lit (.int .i64 i_4))],
   [(0, some (.box 31 [.lit (.int .i64 (a0.Vars)), .sl 4 (a0.Rows.map formRC), .sl 4 (a0.Objective.1.map termRC), .lit (.bool a0.Objective.2.s), natA a0.Objective.2.l1, natA a0.Objective.2.l2] false))], 1⟩
def pfm_o12a (a0 : TProgramR) (i_4 : Int) : St :=
  ⟨[(1, .ptr 0 0), (2, .lit (.bool false)), (3, .lit (.int .i64 i_4))],
   [(0, some (.box 31 [.lit (.int .i64 (a0.Vars)), .sl 4 (a0.Rows.map formRC), .sl 4 (a0.Objective.1.map termRC), .lit (.bool a0.Objective.2.s), natA a0.Objective.2.l1, natA a0.Objective.2.l2] false))], 1⟩
def pfm_o12b (a0 : TProgramR) (i_4 : Int) : St :=
  ⟨[(1, .ptr 0 0), (2, .any), (3, .lit (.int .i64 i_4))],
   [(0, some (.box 31 [.lit (.int .i64 (a0.Vars)), .sl 4 (a0.Rows.map formRC), .sl 4 (a0.Objective.1.map termRC), .lit (.bool a0.Objective.2.s), natA a0.Objective.2.l1, natA a0.Objective.2.l2] false))], 1⟩
def pfm_o4a  : St :=
  ⟨[(2, .lit (.bool false))],
   [], 0⟩
def pfm_o4b  : St :=
  ⟨[(2, .any)],
   [], 0⟩
theorem pfm_r12_1 {n : Nat} {a0 : TProgramR} {i_12 : Nat} {F2 : List (Int × Raw)} {v9 : Int} {r11 : Raw} {i_4 : Int} {r8 : Raw} (C1 : (i_12 : Int) < (F2.length : Int)) (E2 : F2[i_12]? = some (v9, r11)) (C3 : ¬ 4 < (r11.l1.length : Int)) (C4 : ¬ 4 < (r11.l2.length : Int)) (W5 : InI ((i_12 : Int) + 1)) :
    Cont 0 (exec Tryz.prog (tab n) 0 71 (livesOf 15) big pfm_C12) (livesOf 15 12) (pfm_h12 a0 i_4 i_12 F2 r8) (pfm_h12 a0 i_4 (i_12 + 1) F2 r8) := by
  have C1_ : i_12 < F2.length := by omega
  obtain ⟨EL2, EG2⟩ := List.getElem?_eq_some_iff.1 E2
  have C3_ : ¬ 4 < r11.l1.length := by omega
  have C4_ : ¬ 4 < r11.l2.length := by omega
  have W5_ : IntKind.i64.wrap ((i_12 : Int) + 1) = (i_12 : Int) + 1 := wr64 W5.1 W5.2
  unfold Cont
  simp +decide [pfm_h12, loopsOf, Tryz.f15, pfm_C4, pfm_C12, C1, C1_, EL2, EG2, E2, C3, C3_, C4, C4_, W5_]
theorem pfm_x12_1 {n : Nat} {a0 : TProgramR} {i_12 : Nat} {F2 : List (Int × Raw)} {v9 : Int} {r11 : Raw} {i_4 : Int} {r8 : Raw} (C1 : (i_12 : Int) < (F2.length : Int)) (E2 : F2[i_12]? = some (v9, r11)) (C3 : 4 < (r11.l1.length : Int)) :
    Leave 0 (exec Tryz.prog (tab n) 0 71 (livesOf 15) big pfm_C12) (livesOf 15 (outOf 12)) (pfm_h12 a0 i_4 i_12 F2 r8) (.ret) (pfm_o12a a0 i_4) := by
  have C1_ : i_12 < F2.length := by omega
  obtain ⟨EL2, EG2⟩ := List.getElem?_eq_some_iff.1 E2
  have C3_ : 4 < r11.l1.length := by omega
  unfold Leave
  simp +decide [pfm_h12, loopsOf, Tryz.f15, pfm_o12a, pfm_C4, pfm_C12, C1, C1_, EL2, EG2, E2, C3, C3_]
theorem pfm_x12_2 {n : Nat} {a0 : TProgramR} {i_12 : Nat} {F2 : List (Int × Raw)} {v9 : Int} {r11 : Raw} {i_4 : Int} {r8 : Raw} (C1 : (i_12 : Int) < (F2.length : Int)) (E2 : F2[i_12]? = some (v9, r11)) (C3 : ¬ 4 < (r11.l1.length : Int)) (C4 : 4 < (r11.l2.length : Int)) :
    Leave 0 (exec Tryz.prog (tab n) 0 71 (livesOf 15) big pfm_C12) (livesOf 15 (outOf 12)) (pfm_h12 a0 i_4 i_12 F2 r8) (.ret) (pfm_o12a a0 i_4) := by
  have C1_ : i_12 < F2.length := by omega
  obtain ⟨EL2, EG2⟩ := List.getElem?_eq_some_iff.1 E2
  have C3_ : ¬ 4 < r11.l1.length := by omega
  have C4_ : 4 < r11.l2.length := by omega
  unfold Leave
  simp +decide [pfm_h12, loopsOf, Tryz.f15, pfm_o12a, pfm_C4, pfm_C12, C1, C1_, EL2, EG2, E2, C3, C3_, C4, C4_]
theorem pfm_x12_3 {n : Nat} {a0 : TProgramR} {i_12 : Nat} {F2 : List (Int × Raw)} {i_4 : Int} {r8 : Raw} (C1 : ¬ (i_12 : Int) < (F2.length : Int)) :
    Leave 0 (exec Tryz.prog (tab n) 0 71 (livesOf 15) big pfm_C12) (livesOf 15 (outOf 12)) (pfm_h12 a0 i_4 i_12 F2 r8) (.exit 2) (pfm_o12b a0 i_4) := by
  have C1_ : ¬ i_12 < F2.length := by omega
  unfold Leave
  simp +decide [pfm_h12, loopsOf, Tryz.f15, pfm_o12b, pfm_C4, pfm_C12, C1, C1_]
theorem pfm_r4_1 {n : Nat} {a0 : TProgramR} {i_4 : Int} {F2 : List (Int × Raw)} {r8 : Raw} (C1 : i_4 < (a0.Rows.length : Int)) (C2 : 0 ≤ i_4) (E3 : a0.Rows[i_4.toNat]? = some (F2, r8)) (Z3 : 0 ≤ i_4) (C4 : ¬ 10 < (F2.length : Int)) (C5 : ¬ 4 < (r8.l1.length : Int)) (C6 : ¬ 4 < (r8.l2.length : Int)) (L7 : loopG Tryz.prog (tab n) 0 71 (livesOf 15) 12 pfm_C12 (pfm_h12 a0 i_4 0 F2 r8) = some (.exit 2, pfm_o12b a0 i_4)) (W8 : InI (i_4 + 1)) :
    Cont 0 (exec Tryz.prog (tab n) 0 71 (livesOf 15) big pfm_C4) (livesOf 15 4) (pfm_h4 a0 i_4) (pfm_h4 a0 (i_4 + 1)) := by
  obtain ⟨EL3, EG3⟩ := List.getElem?_eq_some_iff.1 E3
  have C4_ : ¬ 10 < F2.length := by omega
  have C5_ : ¬ 4 < r8.l1.length := by omega
  have C6_ : ¬ 4 < r8.l2.length := by omega
  have W8_ : IntKind.i64.wrap (i_4 + 1) = i_4 + 1 := wr64 W8.1 W8.2
  unfold Cont
  simp +decide [pfm_h4, loopsOf, Tryz.f15, pfm_C4, C1, C2, EL3, EG3, E3, Z3, C4, C4_, C5, C5_, C6, C6_, W8_]
  rw [loopX_G (C' := pfm_C12) (e := (pfm_h12 a0 i_4 0 F2 r8)) ?_ ?_, L7]
  rotate_left
  · kernel_rfl
  · simp +decide [pfm_h12, loopsOf, Tryz.f15, pfm_C4, C1, C2, EL3, EG3, E3, Z3, C4, C4_, C5, C5_, C6, C6_, W8_]
  simp +decide [pfm_o12b, loopsOf, Tryz.f15, pfm_C4, C1, C2, EL3, EG3, E3, Z3, C4, C4_, C5, C5_, C6, C6_, W8_]
theorem pfm_r4_2 {n : Nat} {a0 : TProgramR} {i_4 : Int} (C1 : i_4 < (a0.Rows.length : Int)) (C2 : ¬ 0 ≤ i_4) (C3 : ¬ 10 < (a0.Objective.1.length : Int)) (C4 : ¬ 4 < (a0.Objective.2.l1.length : Int)) (C5 : ¬ 4 < (a0.Objective.2.l2.length : Int)) (L6 : loopG Tryz.prog (tab n) 0 71 (livesOf 15) 12 pfm_C12 (pfm_h12 a0 i_4 0 a0.Objective.1 a0.Objective.2) = some (.exit 2, pfm_o12b a0 i_4)) (W7 : InI (i_4 + 1)) :
    Cont 0 (exec Tryz.prog (tab n) 0 71 (livesOf 15) big pfm_C4) (livesOf 15 4) (pfm_h4 a0 i_4) (pfm_h4 a0 (i_4 + 1)) := by
  have C3_ : ¬ 10 < a0.Objective.1.length := by omega
  have C4_ : ¬ 4 < a0.Objective.2.l1.length := by omega
  have C5_ : ¬ 4 < a0.Objective.2.l2.length := by omega
  have W7_ : IntKind.i64.wrap (i_4 + 1) = i_4 + 1 := wr64 W7.1 W7.2
  unfold Cont
  simp +decide [pfm_h4, loopsOf, Tryz.f15, pfm_C4, C1, C2, C3, C3_, C4, C4_, C5, C5_, W7_]
  rw [loopX_G (C' := pfm_C12) (e := (pfm_h12 a0 i_4 0 a0.Objective.1 a0.Objective.2)) ?_ ?_, L6]
  rotate_left
  · kernel_rfl
  · simp +decide [pfm_h12, loopsOf, Tryz.f15, pfm_C4, C1, C2, C3, C3_, C4, C4_, C5, C5_, W7_]
  simp +decide [pfm_o12b, loopsOf, Tryz.f15, pfm_C4, C1, C2, C3, C3_, C4, C4_, C5, C5_, W7_]
theorem pfm_x4_1 {n : Nat} {a0 : TProgramR} {i_4 : Int} {F2 : List (Int × Raw)} {r8 : Raw} (C1 : i_4 < (a0.Rows.length : Int)) (C2 : 0 ≤ i_4) (E3 : a0.Rows[i_4.toNat]? = some (F2, r8)) (Z3 : 0 ≤ i_4) (C4 : 10 < (F2.length : Int)) :
    Leave 0 (exec Tryz.prog (tab n) 0 71 (livesOf 15) big pfm_C4) (livesOf 15 (outOf 4)) (pfm_h4 a0 i_4) (.ret) (pfm_o4a ) := by
  obtain ⟨EL3, EG3⟩ := List.getElem?_eq_some_iff.1 E3
  have C4_ : 10 < F2.length := by omega
  unfold Leave
  simp +decide [pfm_h4, loopsOf, Tryz.f15, pfm_o4a, pfm_C4, C1, C2, EL3, EG3, E3, Z3, C4, C4_]
theorem pfm_x4_2 {n : Nat} {a0 : TProgramR} {i_4 : Int} {F2 : List (Int × Raw)} {r8 : Raw} (C1 : i_4 < (a0.Rows.length : Int)) (C2 : 0 ≤ i_4) (E3 : a0.Rows[i_4.toNat]? = some (F2, r8)) (Z3 : 0 ≤ i_4) (C4 : ¬ 10 < (F2.length : Int)) (C5 : 4 < (r8.l1.length : Int)) :
    Leave 0 (exec Tryz.prog (tab n) 0 71 (livesOf 15) big pfm_C4) (livesOf 15 (outOf 4)) (pfm_h4 a0 i_4) (.ret) (pfm_o4a ) := by
  obtain ⟨EL3, EG3⟩ := List.getElem?_eq_some_iff.1 E3
  have C4_ : ¬ 10 < F2.length := by omega
  have C5_ : 4 < r8.l1.length := by omega
  unfold Leave
  simp +decide [pfm_h4, loopsOf, Tryz.f15, pfm_o4a, pfm_C4, C1, C2, EL3, EG3, E3, Z3, C4, C4_, C5, C5_]
theorem pfm_x4_3 {n : Nat} {a0 : TProgramR} {i_4 : Int} {F2 : List (Int × Raw)} {r8 : Raw} (C1 : i_4 < (a0.Rows.length : Int)) (C2 : 0 ≤ i_4) (E3 : a0.Rows[i_4.toNat]? = some (F2, r8)) (Z3 : 0 ≤ i_4) (C4 : ¬ 10 < (F2.length : Int)) (C5 : ¬ 4 < (r8.l1.length : Int)) (C6 : 4 < (r8.l2.length : Int)) :
    Leave 0 (exec Tryz.prog (tab n) 0 71 (livesOf 15) big pfm_C4) (livesOf 15 (outOf 4)) (pfm_h4 a0 i_4) (.ret) (pfm_o4a ) := by
  obtain ⟨EL3, EG3⟩ := List.getElem?_eq_some_iff.1 E3
  have C4_ : ¬ 10 < F2.length := by omega
  have C5_ : ¬ 4 < r8.l1.length := by omega
  have C6_ : 4 < r8.l2.length := by omega
  unfold Leave
  simp +decide [pfm_h4, loopsOf, Tryz.f15, pfm_o4a, pfm_C4, C1, C2, EL3, EG3, E3, Z3, C4, C4_, C5, C5_, C6, C6_]
theorem pfm_x4_4 {n : Nat} {a0 : TProgramR} {i_4 : Int} {F2 : List (Int × Raw)} {r8 : Raw} (C1 : i_4 < (a0.Rows.length : Int)) (C2 : 0 ≤ i_4) (E3 : a0.Rows[i_4.toNat]? = some (F2, r8)) (Z3 : 0 ≤ i_4) (C4 : ¬ 10 < (F2.length : Int)) (C5 : ¬ 4 < (r8.l1.length : Int)) (C6 : ¬ 4 < (r8.l2.length : Int)) (L7 : loopG Tryz.prog (tab n) 0 71 (livesOf 15) 12 pfm_C12 (pfm_h12 a0 i_4 0 F2 r8) = some (.ret, pfm_o12a a0 i_4)) :
    Leave 0 (exec Tryz.prog (tab n) 0 71 (livesOf 15) big pfm_C4) (livesOf 15 (outOf 4)) (pfm_h4 a0 i_4) (.ret) (pfm_o4a ) := by
  obtain ⟨EL3, EG3⟩ := List.getElem?_eq_some_iff.1 E3
  have C4_ : ¬ 10 < F2.length := by omega
  have C5_ : ¬ 4 < r8.l1.length := by omega
  have C6_ : ¬ 4 < r8.l2.length := by omega
  unfold Leave
  simp +decide [pfm_h4, loopsOf, Tryz.f15, pfm_o4a, pfm_C4, C1, C2, EL3, EG3, E3, Z3, C4, C4_, C5, C5_, C6, C6_]
  rw [loopX_G (C' := pfm_C12) (e := (pfm_h12 a0 i_4 0 F2 r8)) ?_ ?_, L7]
  rotate_left
  · kernel_rfl
  · simp +decide [pfm_h12, loopsOf, Tryz.f15, pfm_o4a, pfm_C4, C1, C2, EL3, EG3, E3, Z3, C4, C4_, C5, C5_, C6, C6_]
  simp +decide [pfm_o12a, loopsOf, Tryz.f15, pfm_o4a, pfm_C4, C1, C2, EL3, EG3, E3, Z3, C4, C4_, C5, C5_, C6, C6_]
theorem pfm_x4_5 {n : Nat} {a0 : TProgramR} {i_4 : Int} (C1 : i_4 < (a0.Rows.length : Int)) (C2 : ¬ 0 ≤ i_4) (C3 : 10 < (a0.Objective.1.length : Int)) :
    Leave 0 (exec Tryz.prog (tab n) 0 71 (livesOf 15) big pfm_C4) (livesOf 15 (outOf 4)) (pfm_h4 a0 i_4) (.ret) (pfm_o4a ) := by
  have C3_ : 10 < a0.Objective.1.length := by omega
  unfold Leave
  simp +decide [pfm_h4, loopsOf, Tryz.f15, pfm_o4a, pfm_C4, C1, C2, C3, C3_]
theorem pfm_x4_6 {n : Nat} {a0 : TProgramR} {i_4 : Int} (C1 : i_4 < (a0.Rows.length : Int)) (C2 : ¬ 0 ≤ i_4) (C3 : ¬ 10 < (a0.Objective.1.length : Int)) (C4 : 4 < (a0.Objective.2.l1.length : Int)) :
    Leave 0 (exec Tryz.prog (tab n) 0 71 (livesOf 15) big pfm_C4) (livesOf 15 (outOf 4)) (pfm_h4 a0 i_4) (.ret) (pfm_o4a ) := by
  have C3_ : ¬ 10 < a0.Objective.1.length := by omega
  have C4_ : 4 < a0.Objective.2.l1.length := by omega
  unfold Leave
  simp +decide [pfm_h4, loopsOf, Tryz.f15, pfm_o4a, pfm_C4, C1, C2, C3, C3_, C4, C4_]
theorem pfm_x4_7 {n : Nat} {a0 : TProgramR} {i_4 : Int} (C1 : i_4 < (a0.Rows.length : Int)) (C2 : ¬ 0 ≤ i_4) (C3 : ¬ 10 < (a0.Objective.1.length : Int)) (C4 : ¬ 4 < (a0.Objective.2.l1.length : Int)) (C5 : 4 < (a0.Objective.2.l2.length : Int)) :
    Leave 0 (exec Tryz.prog (tab n) 0 71 (livesOf 15) big pfm_C4) (livesOf 15 (outOf 4)) (pfm_h4 a0 i_4) (.ret) (pfm_o4a ) := by
  have C3_ : ¬ 10 < a0.Objective.1.length := by omega
  have C4_ : ¬ 4 < a0.Objective.2.l1.length := by omega
  have C5_ : 4 < a0.Objective.2.l2.length := by omega
  unfold Leave
  simp +decide [pfm_h4, loopsOf, Tryz.f15, pfm_o4a, pfm_C4, C1, C2, C3, C3_, C4, C4_, C5, C5_]
theorem pfm_x4_8 {n : Nat} {a0 : TProgramR} {i_4 : Int} (C1 : i_4 < (a0.Rows.length : Int)) (C2 : ¬ 0 ≤ i_4) (C3 : ¬ 10 < (a0.Objective.1.length : Int)) (C4 : ¬ 4 < (a0.Objective.2.l1.length : Int)) (C5 : ¬ 4 < (a0.Objective.2.l2.length : Int)) (L6 : loopG Tryz.prog (tab n) 0 71 (livesOf 15) 12 pfm_C12 (pfm_h12 a0 i_4 0 a0.Objective.1 a0.Objective.2) = some (.ret, pfm_o12a a0 i_4)) :
    Leave 0 (exec Tryz.prog (tab n) 0 71 (livesOf 15) big pfm_C4) (livesOf 15 (outOf 4)) (pfm_h4 a0 i_4) (.ret) (pfm_o4a ) := by
  have C3_ : ¬ 10 < a0.Objective.1.length := by omega
  have C4_ : ¬ 4 < a0.Objective.2.l1.length := by omega
  have C5_ : ¬ 4 < a0.Objective.2.l2.length := by omega
  unfold Leave
  simp +decide [pfm_h4, loopsOf, Tryz.f15, pfm_o4a, pfm_C4, C1, C2, C3, C3_, C4, C4_, C5, C5_]
  rw [loopX_G (C' := pfm_C12) (e := (pfm_h12 a0 i_4 0 a0.Objective.1 a0.Objective.2)) ?_ ?_, L6]
  rotate_left
  · kernel_rfl
  · simp +decide [pfm_h12, loopsOf, Tryz.f15, pfm_o4a, pfm_C4, C1, C2, C3, C3_, C4, C4_, C5, C5_]
  simp +decide [pfm_o12a, loopsOf, Tryz.f15, pfm_o4a, pfm_C4, C1, C2, C3, C3_, C4, C4_, C5, C5_]
theorem pfm_x4_9 {n : Nat} {a0 : TProgramR} {i_4 : Int} (C1 : ¬ i_4 < (a0.Rows.length : Int)) :
    Leave 0 (exec Tryz.prog (tab n) 0 71 (livesOf 15) big pfm_C4) (livesOf 15 (outOf 4)) (pfm_h4 a0 i_4) (.exit 0) (pfm_o4b ) := by
  unfold Leave
  simp +decide [pfm_h4, loopsOf, Tryz.f15, pfm_o4b, pfm_C4, C1]
theorem pfm_f1 {n : Nat} {a0 : TProgramR} (C1 : 10 < (a0.Rows.length : Int)) :
    run n 15 [programRV a0] = some (.lit (.bool false)) := by
  have C1_ : 10 < a0.Rows.length := by omega
  unfold run fnP
  simp +decide [Tryz.f15, C1, C1_]
theorem pfm_f2 {n : Nat} {a0 : TProgramR} (C1 : ¬ 10 < (a0.Rows.length : Int)) (L2 : loopG Tryz.prog (tab n) 0 71 (livesOf 15) 4 pfm_C4 (pfm_h4 a0 (-1)) = some (.ret, pfm_o4a )) :
    run n 15 [programRV a0] = some (.lit (.bool false)) := by
  have C1_ : ¬ 10 < a0.Rows.length := by omega
  unfold run fnP
  simp +decide [Tryz.f15, C1, C1_]
  rw [loopX_G (C' := pfm_C4) (e := (pfm_h4 a0 (-1))) ?_ ?_, L2]
  rotate_left
  · kernel_rfl
  · simp +decide [pfm_h4, C1, C1_]
  simp +decide [pfm_o4a, C1, C1_]
theorem pfm_f3 {n : Nat} {a0 : TProgramR} (C1 : ¬ 10 < (a0.Rows.length : Int)) (L2 : loopG Tryz.prog (tab n) 0 71 (livesOf 15) 4 pfm_C4 (pfm_h4 a0 (-1)) = some (.exit 0, pfm_o4b )) :
    run n 15 [programRV a0] = some (.lit (.bool true)) := by
  have C1_ : ¬ 10 < a0.Rows.length := by omega
  unfold run fnP
  simp +decide [Tryz.f15, C1, C1_]
  rw [loopX_G (C' := pfm_C4) (e := (pfm_h4 a0 (-1))) ?_ ?_, L2]
  rotate_left
  · kernel_rfl
  · simp +decide [pfm_h4, C1, C1_]
  simp +decide [pfm_o4b, C1, C1_]
end Go.Proofs.YtlpmemelhlnfbaaGreatDoor
set_option linter.all false
set_option maxRecDepth 100000
set_option maxHeartbeats 6400000
namespace Go.Proofs.YtlpmemelhlnfbaaGreatDoor
open Go.RowKit

/-! program.Valid, level 1 -/
noncomputable def pvR_C4 : Code := (loopsOf (bodyOf Tryz.f65)).getD 0 .skip
def pvR_h4 (a0 : TProgramR) (i_4 : Nat) : St :=
  ⟨[(1, .ptr 0 0), (28, .sl 4 (a0.Rows.map formRC)), (29, .lit (.int .i64 (a0.Rows.length : Int))), (30, .lit (.int .i64 (i_4 : Int)))],
   [(0, some (.box 31 [.lit (.int .i64 (a0.Vars)), .sl 4 (a0.Rows.map formRC), .sl 4 (a0.Objective.1.map termRC), .lit (.bool a0.Objective.2.s), natA a0.Objective.2.l1, natA a0.Objective.2.l2] false))], 1⟩
def pvR_o4a  : St :=
  ⟨[(2, .lit (.bool false))],
   [], 0⟩
def pvR_o4b  : St :=
  ⟨[(2, .any)],
   [], 0⟩
theorem pvR_r4_1 {n : Nat} {a0 : TProgramR} {i_4 : Nat} {F3 : List (Int × Raw)} {r6 : Raw} {r7 : Bool} (C1 : (i_4 : Int) < (a0.Rows.length : Int)) (E2 : a0.Rows[i_4]? = some (F3, r6)) (K3 : run n 60 [.agg [.sl 4 (F3.map termRC), .lit (.bool r6.s), natA r6.l1, natA r6.l2], .lit (.int .i64 (a0.Vars))] = some (.lit (.bool r7))) (C4 : r7 = true) (W5 : InI ((i_4 : Int) + 1)) :
    Cont 0 (exec Tryz.prog (tab (n + 1)) 0 40 (livesOf 65) big pvR_C4) (livesOf 65 4) (pvR_h4 a0 i_4) (pvR_h4 a0 (i_4 + 1)) := by
  have C1_ : i_4 < a0.Rows.length := by omega
  obtain ⟨EL2, EG2⟩ := List.getElem?_eq_some_iff.1 E2
  have W5_ : IntKind.i64.wrap ((i_4 : Int) + 1) = (i_4 : Int) + 1 := wr64 W5.1 W5.2
  unfold Cont
  simp +decide [pvR_h4, loopsOf, Tryz.f65, pvR_C4, C1, C1_, EL2, EG2, E2, K3, C4, W5_]
theorem pvR_x4_1 {n : Nat} {a0 : TProgramR} {i_4 : Nat} {F3 : List (Int × Raw)} {r6 : Raw} {r7 : Bool} (C1 : (i_4 : Int) < (a0.Rows.length : Int)) (E2 : a0.Rows[i_4]? = some (F3, r6)) (K3 : run n 60 [.agg [.sl 4 (F3.map termRC), .lit (.bool r6.s), natA r6.l1, natA r6.l2], .lit (.int .i64 (a0.Vars))] = some (.lit (.bool r7))) (C4 : r7 = false) :
    Leave 0 (exec Tryz.prog (tab (n + 1)) 0 40 (livesOf 65) big pvR_C4) (livesOf 65 (outOf 4)) (pvR_h4 a0 i_4) (.ret) (pvR_o4a ) := by
  have C1_ : i_4 < a0.Rows.length := by omega
  obtain ⟨EL2, EG2⟩ := List.getElem?_eq_some_iff.1 E2
  unfold Leave
  simp +decide [pvR_h4, loopsOf, Tryz.f65, pvR_o4a, pvR_C4, C1, C1_, EL2, EG2, E2, K3, C4]
theorem pvR_x4_2 {n : Nat} {a0 : TProgramR} {i_4 : Nat} (C1 : ¬ (i_4 : Int) < (a0.Rows.length : Int)) :
    Leave 0 (exec Tryz.prog (tab (n + 1)) 0 40 (livesOf 65) big pvR_C4) (livesOf 65 (outOf 4)) (pvR_h4 a0 i_4) (.exit 0) (pvR_o4b ) := by
  have C1_ : ¬ i_4 < a0.Rows.length := by omega
  unfold Leave
  simp +decide [pvR_h4, loopsOf, Tryz.f65, pvR_o4b, pvR_C4, C1, C1_]
theorem pvR_f1 {n : Nat} {a0 : TProgramR} (C1 : a0.Vars < 0) :
    run (n + 1) 65 [programRV a0] = some (.lit (.bool false)) := by
  unfold run fnP
  simp +decide [Tryz.f65, C1]
theorem pvR_f2 {n : Nat} {a0 : TProgramR} (C1 : ¬ a0.Vars < 0) (C2 : 1280 < a0.Vars) :
    run (n + 1) 65 [programRV a0] = some (.lit (.bool false)) := by
  unfold run fnP
  simp +decide [Tryz.f65, C1, C2]
theorem pvR_f4 {n : Nat} {a0 : TProgramR} {r : Bool} (C1 : ¬ a0.Vars < 0) (C2 : ¬ 1280 < a0.Vars) (C3 : ¬ 4096 < (a0.Rows.length : Int)) (K4 : run n 60 [.agg [.sl 4 (a0.Objective.1.map termRC), .lit (.bool a0.Objective.2.s), natA a0.Objective.2.l1, natA a0.Objective.2.l2], .lit (.int .i64 (a0.Vars))] = some (.lit (.bool r))) (C5 : r = false) :
    run (n + 1) 65 [programRV a0] = some (.lit (.bool false)) := by
  have C3_ : ¬ 4096 < a0.Rows.length := by omega
  unfold run fnP
  simp +decide [Tryz.f65, C1, C2, C3, C3_, K4, C5]
theorem pvR_f5 {n : Nat} {a0 : TProgramR} {r : Bool} (C1 : ¬ a0.Vars < 0) (C2 : ¬ 1280 < a0.Vars) (C3 : ¬ 4096 < (a0.Rows.length : Int)) (K4 : run n 60 [.agg [.sl 4 (a0.Objective.1.map termRC), .lit (.bool a0.Objective.2.s), natA a0.Objective.2.l1, natA a0.Objective.2.l2], .lit (.int .i64 (a0.Vars))] = some (.lit (.bool r))) (C5 : r = true) (L6 : loopG Tryz.prog (tab (n + 1)) 0 40 (livesOf 65) 4 pvR_C4 (pvR_h4 a0 0) = some (.ret, pvR_o4a )) :
    run (n + 1) 65 [programRV a0] = some (.lit (.bool false)) := by
  have C3_ : ¬ 4096 < a0.Rows.length := by omega
  unfold run fnP
  simp +decide [Tryz.f65, C1, C2, C3, C3_, K4, C5]
  rw [loopX_G (C' := pvR_C4) (e := (pvR_h4 a0 0)) ?_ ?_, L6]
  rotate_left
  · kernel_rfl
  · simp +decide [pvR_h4, C1, C2, C3, C3_, K4, C5]
  simp +decide [pvR_o4a, C1, C2, C3, C3_, K4, C5]
theorem pvR_f6 {n : Nat} {a0 : TProgramR} {r : Bool} (C1 : ¬ a0.Vars < 0) (C2 : ¬ 1280 < a0.Vars) (C3 : ¬ 4096 < (a0.Rows.length : Int)) (K4 : run n 60 [.agg [.sl 4 (a0.Objective.1.map termRC), .lit (.bool a0.Objective.2.s), natA a0.Objective.2.l1, natA a0.Objective.2.l2], .lit (.int .i64 (a0.Vars))] = some (.lit (.bool r))) (C5 : r = true) (L6 : loopG Tryz.prog (tab (n + 1)) 0 40 (livesOf 65) 4 pvR_C4 (pvR_h4 a0 0) = some (.exit 0, pvR_o4b )) :
    run (n + 1) 65 [programRV a0] = some (.lit (.bool true)) := by
  have C3_ : ¬ 4096 < a0.Rows.length := by omega
  unfold run fnP
  simp +decide [Tryz.f65, C1, C2, C3, C3_, K4, C5]
  rw [loopX_G (C' := pvR_C4) (e := (pvR_h4 a0 0)) ?_ ?_, L6]
  rotate_left
  · kernel_rfl
  · simp +decide [pvR_h4, C1, C2, C3, C3_, K4, C5]
  simp +decide [pvR_o4b, C1, C2, C3, C3_, K4, C5]
end Go.Proofs.YtlpmemelhlnfbaaGreatDoor
set_option linter.all false
set_option maxRecDepth 100000
set_option maxHeartbeats 6400000
namespace Go.Proofs.YtlpmemelhlnfbaaGreatDoor
open Go.RowKit

/-! relucertref27.Valid, level 1 -/
noncomputable def fvR_C4 : Code := (loopsOf (bodyOf Tryz.f71)).getD 0 .skip
def fvR_h4 (a0 : TProgramR) (i_4 : Nat) : St :=
  ⟨[(1, .ptr 0 0), (3, .lit (.int .i64 (i_4 : Int)))],
   [(0, some (.box 31 [.lit (.int .i64 (a0.Vars)), .sl 4 (a0.Rows.map formRC), .sl 4 (a0.Objective.1.map termRC), .lit (.bool a0.Objective.2.s), natA a0.Objective.2.l1, natA a0.Objective.2.l2] false))], 1⟩
def fvR_o4a  : St :=
  ⟨[(2, .lit (.bool false))],
   [], 0⟩
def fvR_o4b  : St :=
  ⟨[(2, .any)],
   [], 0⟩
theorem fvR_r4_1 {n : Nat} {a0 : TProgramR} {i_4 : Nat} {F3 : List (Int × Raw)} {r6 : Raw} {r7 : Bool} (C1 : (i_4 : Int) < (a0.Rows.length : Int)) (E2 : a0.Rows[i_4]? = some (F3, r6)) (K3 : run n 51 [.agg [.sl 4 (F3.map termRC), .lit (.bool r6.s), natA r6.l1, natA r6.l2], .lit (.int .i64 (a0.Vars))] = some (.lit (.bool r7))) (C4 : r7 = true) (W5 : InI ((i_4 : Int) + 1)) :
    Cont 0 (exec Tryz.prog (tab (n + 1)) 0 42 (livesOf 71) big fvR_C4) (livesOf 71 4) (fvR_h4 a0 i_4) (fvR_h4 a0 (i_4 + 1)) := by
  have C1_ : i_4 < a0.Rows.length := by omega
  obtain ⟨EL2, EG2⟩ := List.getElem?_eq_some_iff.1 E2
  have W5_ : IntKind.i64.wrap ((i_4 : Int) + 1) = (i_4 : Int) + 1 := wr64 W5.1 W5.2
  unfold Cont
  simp +decide [fvR_h4, loopsOf, Tryz.f71, fvR_C4, C1, C1_, EL2, EG2, E2, K3, C4, W5_]
theorem fvR_x4_1 {n : Nat} {a0 : TProgramR} {i_4 : Nat} {F3 : List (Int × Raw)} {r6 : Raw} {r7 : Bool} (C1 : (i_4 : Int) < (a0.Rows.length : Int)) (E2 : a0.Rows[i_4]? = some (F3, r6)) (K3 : run n 51 [.agg [.sl 4 (F3.map termRC), .lit (.bool r6.s), natA r6.l1, natA r6.l2], .lit (.int .i64 (a0.Vars))] = some (.lit (.bool r7))) (C4 : r7 = false) :
    Leave 0 (exec Tryz.prog (tab (n + 1)) 0 42 (livesOf 71) big fvR_C4) (livesOf 71 (outOf 4)) (fvR_h4 a0 i_4) (.ret) (fvR_o4a ) := by
  have C1_ : i_4 < a0.Rows.length := by omega
  obtain ⟨EL2, EG2⟩ := List.getElem?_eq_some_iff.1 E2
  unfold Leave
  simp +decide [fvR_h4, loopsOf, Tryz.f71, fvR_o4a, fvR_C4, C1, C1_, EL2, EG2, E2, K3, C4]
theorem fvR_x4_2 {n : Nat} {a0 : TProgramR} {i_4 : Nat} (C1 : ¬ (i_4 : Int) < (a0.Rows.length : Int)) :
    Leave 0 (exec Tryz.prog (tab (n + 1)) 0 42 (livesOf 71) big fvR_C4) (livesOf 71 (outOf 4)) (fvR_h4 a0 i_4) (.exit 0) (fvR_o4b ) := by
  have C1_ : ¬ i_4 < a0.Rows.length := by omega
  unfold Leave
  simp +decide [fvR_h4, loopsOf, Tryz.f71, fvR_o4b, fvR_C4, C1, C1_]
theorem fvR_f1 {n : Nat} {a0 : TProgramR} (C1 : a0.Vars < 0) :
    run (n + 1) 71 [programRV a0] = some (.lit (.bool false)) := by
  unfold run fnP
  simp +decide [Tryz.f71, C1]
theorem fvR_f2 {n : Nat} {a0 : TProgramR} (C1 : ¬ a0.Vars < 0) (C2 : 1280 < a0.Vars) :
    run (n + 1) 71 [programRV a0] = some (.lit (.bool false)) := by
  unfold run fnP
  simp +decide [Tryz.f71, C1, C2]
theorem fvR_f4 {n : Nat} {a0 : TProgramR} {r : Bool} (C1 : ¬ a0.Vars < 0) (C2 : ¬ 1280 < a0.Vars) (C3 : ¬ 4096 < (a0.Rows.length : Int)) (K4 : run n 51 [.agg [.sl 4 (a0.Objective.1.map termRC), .lit (.bool a0.Objective.2.s), natA a0.Objective.2.l1, natA a0.Objective.2.l2], .lit (.int .i64 (a0.Vars))] = some (.lit (.bool r))) (C5 : r = false) :
    run (n + 1) 71 [programRV a0] = some (.lit (.bool false)) := by
  have C3_ : ¬ 4096 < a0.Rows.length := by omega
  unfold run fnP
  simp +decide [Tryz.f71, C1, C2, C3, C3_, K4, C5]
theorem fvR_f5 {n : Nat} {a0 : TProgramR} {r : Bool} (C1 : ¬ a0.Vars < 0) (C2 : ¬ 1280 < a0.Vars) (C3 : ¬ 4096 < (a0.Rows.length : Int)) (K4 : run n 51 [.agg [.sl 4 (a0.Objective.1.map termRC), .lit (.bool a0.Objective.2.s), natA a0.Objective.2.l1, natA a0.Objective.2.l2], .lit (.int .i64 (a0.Vars))] = some (.lit (.bool r))) (C5 : r = true) (L6 : loopG Tryz.prog (tab (n + 1)) 0 42 (livesOf 71) 4 fvR_C4 (fvR_h4 a0 0) = some (.ret, fvR_o4a )) :
    run (n + 1) 71 [programRV a0] = some (.lit (.bool false)) := by
  have C3_ : ¬ 4096 < a0.Rows.length := by omega
  unfold run fnP
  simp +decide [Tryz.f71, C1, C2, C3, C3_, K4, C5]
  rw [loopX_G (C' := fvR_C4) (e := (fvR_h4 a0 0)) ?_ ?_, L6]
  rotate_left
  · kernel_rfl
  · simp +decide [fvR_h4, C1, C2, C3, C3_, K4, C5]
  simp +decide [fvR_o4a, C1, C2, C3, C3_, K4, C5]
theorem fvR_f6 {n : Nat} {a0 : TProgramR} {r : Bool} (C1 : ¬ a0.Vars < 0) (C2 : ¬ 1280 < a0.Vars) (C3 : ¬ 4096 < (a0.Rows.length : Int)) (K4 : run n 51 [.agg [.sl 4 (a0.Objective.1.map termRC), .lit (.bool a0.Objective.2.s), natA a0.Objective.2.l1, natA a0.Objective.2.l2], .lit (.int .i64 (a0.Vars))] = some (.lit (.bool r))) (C5 : r = true) (L6 : loopG Tryz.prog (tab (n + 1)) 0 42 (livesOf 71) 4 fvR_C4 (fvR_h4 a0 0) = some (.exit 0, fvR_o4b )) :
    run (n + 1) 71 [programRV a0] = some (.lit (.bool true)) := by
  have C3_ : ¬ 4096 < a0.Rows.length := by omega
  unfold run fnP
  simp +decide [Tryz.f71, C1, C2, C3, C3_, K4, C5]
  rw [loopX_G (C' := fvR_C4) (e := (fvR_h4 a0 0)) ?_ ?_, L6]
  rotate_left
  · kernel_rfl
  · simp +decide [fvR_h4, C1, C2, C3, C3_, K4, C5]
  simp +decide [fvR_o4b, C1, C2, C3, C3_, K4, C5]
end Go.Proofs.YtlpmemelhlnfbaaGreatDoor
