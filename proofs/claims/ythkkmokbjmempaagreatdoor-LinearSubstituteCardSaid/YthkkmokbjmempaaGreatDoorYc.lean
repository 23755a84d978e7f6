/- Walks: relucertref07.Equal, relucertref07.Make. -/
import Derived.Test.YthkkmokbjmempaaGreatDoorUe
set_option linter.all false
set_option linter.all false
set_option maxRecDepth 100000
set_option maxHeartbeats 6400000
namespace Go.Proofs.YthkkmokbjmempaaGreatDoor
open Go.RowKit

/-! relucertref07.Equal, level 0 -/
noncomputable def feq_C4 : Code := (loopsOf (bodyOf Tryz.f22)).getD 0 .skip
def feq_h4 (a0 : Form) (a1 : Form) (i_4 : Nat) : St :=
  ⟨[(2, .ptr 0 0), (3, .ptr 1 0), (5, .lit (.int .i64 (i_4 : Int)))],
   [(0, some (.box 29 [.sl 4 (a0.1.map termC), .lit (.bool (rawQ a0.2).s), natA (rawQ a0.2).l1, natA (rawQ a0.2).l2] false)),
    (1, some (.box 29 [.sl 4 (a1.1.map termC), .lit (.bool (rawQ a1.2).s), natA (rawQ a1.2).l1, natA (rawQ a1.2).l2] false))], 2⟩
def feq_o4a  : St :=
  ⟨[(4, .lit (.bool false))],
   [], 0⟩
def feq_o4b  : St :=
  ⟨[(4, .any)],
   [], 0⟩
theorem feq_r4_1 {n : Nat} {a0 : Form} {a1 : Form} {i_4 : Nat} {v5 : Int} {q5 : Rat} {v6 : Int} {q6 : Rat} (C1 : (i_4 : Int) < (a0.1.length : Int)) (E2 : a0.1[i_4]? = some (v5, q5)) (E3 : a1.1[i_4]? = some (v6, q6)) (C4 : v5 = v6) (B5a : H q5 ≤ 17179869184) (B5b : H q6 ≤ 17179869184) (C6 : q5 = q6) (W7 : InI ((i_4 : Int) + 1)) :
    Cont 0 (exec Tryz.prog (tab n) 0 57 (livesOf 22) big feq_C4) (livesOf 22 4) (feq_h4 a0 a1 i_4) (feq_h4 a0 a1 (i_4 + 1)) := by
  have C1_ : i_4 < a0.1.length := by omega
  obtain ⟨EL2, EG2⟩ := List.getElem?_eq_some_iff.1 E2
  obtain ⟨EL3, EG3⟩ := List.getElem?_eq_some_iff.1 E3
  have C4_ : (v5 == v6) = true := by rw [C4]; simp
  have C4_n : (v5 != v6) = false := by rw [C4]; simp
  have K5 := r_same (p := q5) (q := q6) B5a B5b
  have C6_ : decide (q5 = q6) = true := decide_eq_true C6
  have W7_ : IntKind.i64.wrap ((i_4 : Int) + 1) = (i_4 : Int) + 1 := wr64 W7.1 W7.2
  unfold Cont
  simp +decide [feq_h4, loopsOf, Tryz.f22, feq_C4, C1, C1_, EL2, EG2, E2, EL3, EG3, E3, C4_, C4_n, K5, C6_, W7_]
theorem feq_x4_1 {n : Nat} {a0 : Form} {a1 : Form} {i_4 : Nat} {v5 : Int} {q5 : Rat} {v6 : Int} {q6 : Rat} (C1 : (i_4 : Int) < (a0.1.length : Int)) (E2 : a0.1[i_4]? = some (v5, q5)) (E3 : a1.1[i_4]? = some (v6, q6)) (C4 : ¬ v5 = v6) :
    Leave 0 (exec Tryz.prog (tab n) 0 57 (livesOf 22) big feq_C4) (livesOf 22 (outOf 4)) (feq_h4 a0 a1 i_4) (.ret) (feq_o4a ) := by
  have C1_ : i_4 < a0.1.length := by omega
  obtain ⟨EL2, EG2⟩ := List.getElem?_eq_some_iff.1 E2
  obtain ⟨EL3, EG3⟩ := List.getElem?_eq_some_iff.1 E3
  have C4_ : (v5 == v6) = false := by simpa using C4
  have C4_n : (v5 != v6) = true := by simpa using C4
  unfold Leave
  simp +decide [feq_h4, loopsOf, Tryz.f22, feq_o4a, feq_C4, C1, C1_, EL2, EG2, E2, EL3, EG3, E3, C4_, C4_n]
theorem feq_x4_2 {n : Nat} {a0 : Form} {a1 : Form} {i_4 : Nat} {v5 : Int} {q5 : Rat} {v6 : Int} {q6 : Rat} (C1 : (i_4 : Int) < (a0.1.length : Int)) (E2 : a0.1[i_4]? = some (v5, q5)) (E3 : a1.1[i_4]? = some (v6, q6)) (C4 : v5 = v6) (B5a : H q5 ≤ 17179869184) (B5b : H q6 ≤ 17179869184) (C6 : ¬ (q5 = q6)) :
    Leave 0 (exec Tryz.prog (tab n) 0 57 (livesOf 22) big feq_C4) (livesOf 22 (outOf 4)) (feq_h4 a0 a1 i_4) (.ret) (feq_o4a ) := by
  have C1_ : i_4 < a0.1.length := by omega
  obtain ⟨EL2, EG2⟩ := List.getElem?_eq_some_iff.1 E2
  obtain ⟨EL3, EG3⟩ := List.getElem?_eq_some_iff.1 E3
  have C4_ : (v5 == v6) = true := by rw [C4]; simp
  have C4_n : (v5 != v6) = false := by rw [C4]; simp
  have K5 := r_same (p := q5) (q := q6) B5a B5b
  unfold Leave
  simp +decide [feq_h4, loopsOf, Tryz.f22, feq_o4a, feq_C4, C1, C1_, EL2, EG2, E2, EL3, EG3, E3, C4_, C4_n, K5, C6]
theorem feq_x4_3 {n : Nat} {a0 : Form} {a1 : Form} {i_4 : Nat} (C1 : ¬ (i_4 : Int) < (a0.1.length : Int)) :
    Leave 0 (exec Tryz.prog (tab n) 0 57 (livesOf 22) big feq_C4) (livesOf 22 (outOf 4)) (feq_h4 a0 a1 i_4) (.exit 0) (feq_o4b ) := by
  have C1_ : ¬ i_4 < a0.1.length := by omega
  unfold Leave
  simp +decide [feq_h4, loopsOf, Tryz.f22, feq_o4b, feq_C4, C1, C1_]
theorem feq_f1 {n : Nat} {a0 : Form} {a1 : Form} (C1 : ¬ (a0.1.length : Int) = (a1.1.length : Int)) :
    run n 22 [formV a0, formV a1] = some (.lit (.bool false)) := by
  have C1_ : ((a0.1.length : Int) == (a1.1.length : Int)) = false := by simpa using C1
  have C1_n : ((a0.1.length : Int) != (a1.1.length : Int)) = true := by simpa using C1
  unfold run fnP
  simp +decide [Tryz.f22, C1_, C1_n]
theorem feq_f2 {n : Nat} {a0 : Form} {a1 : Form} (C1 : (a0.1.length : Int) = (a1.1.length : Int)) (B2a : H a0.2 ≤ 17179869184) (B2b : H a1.2 ≤ 17179869184) (C3 : ¬ (a0.2 = a1.2)) :
    run n 22 [formV a0, formV a1] = some (.lit (.bool false)) := by
  have C1_ : ((a0.1.length : Int) == (a1.1.length : Int)) = true := by rw [C1]; simp
  have C1_n : ((a0.1.length : Int) != (a1.1.length : Int)) = false := by rw [C1]; simp
  have K2 := r_same (p := a0.2) (q := a1.2) B2a B2b
  unfold run fnP
  simp +decide [Tryz.f22, C1_, C1_n, K2, C3]
theorem feq_f3 {n : Nat} {a0 : Form} {a1 : Form} (C1 : (a0.1.length : Int) = (a1.1.length : Int)) (B2a : H a0.2 ≤ 17179869184) (B2b : H a1.2 ≤ 17179869184) (C3 : a0.2 = a1.2) (L4 : loopG Tryz.prog (tab n) 0 57 (livesOf 22) 4 feq_C4 (feq_h4 a0 a1 0) = some (.ret, feq_o4a )) :
    run n 22 [formV a0, formV a1] = some (.lit (.bool false)) := by
  have C1_ : ((a0.1.length : Int) == (a1.1.length : Int)) = true := by rw [C1]; simp
  have C1_n : ((a0.1.length : Int) != (a1.1.length : Int)) = false := by rw [C1]; simp
  have K2 := r_same (p := a0.2) (q := a1.2) B2a B2b
  have C3_ : decide (a0.2 = a1.2) = true := decide_eq_true C3
  unfold run fnP
  simp +decide [Tryz.f22, C1_, C1_n, K2, C3_]
  rw [loopX_G (C' := feq_C4) (e := (feq_h4 a0 a1 0)) ?_ ?_, L4]
  rotate_left
  · kernel_rfl
  · simp +decide [feq_h4, C1_, C1_n, K2, C3_]
  simp +decide [feq_o4a, C1_, C1_n, K2, C3_]
theorem feq_f4 {n : Nat} {a0 : Form} {a1 : Form} (C1 : (a0.1.length : Int) = (a1.1.length : Int)) (B2a : H a0.2 ≤ 17179869184) (B2b : H a1.2 ≤ 17179869184) (C3 : a0.2 = a1.2) (L4 : loopG Tryz.prog (tab n) 0 57 (livesOf 22) 4 feq_C4 (feq_h4 a0 a1 0) = some (.exit 0, feq_o4b )) :
    run n 22 [formV a0, formV a1] = some (.lit (.bool true)) := by
  have C1_ : ((a0.1.length : Int) == (a1.1.length : Int)) = true := by rw [C1]; simp
  have C1_n : ((a0.1.length : Int) != (a1.1.length : Int)) = false := by rw [C1]; simp
  have K2 := r_same (p := a0.2) (q := a1.2) B2a B2b
  have C3_ : decide (a0.2 = a1.2) = true := decide_eq_true C3
  unfold run fnP
  simp +decide [Tryz.f22, C1_, C1_n, K2, C3_]
  rw [loopX_G (C' := feq_C4) (e := (feq_h4 a0 a1 0)) ?_ ?_, L4]
  rotate_left
  · kernel_rfl
  · simp +decide [feq_h4, C1_, C1_n, K2, C3_]
  simp +decide [feq_o4b, C1_, C1_n, K2, C3_]
/-! relucertref07.Make, level 2 -/
end Go.Proofs.YthkkmokbjmempaaGreatDoor
