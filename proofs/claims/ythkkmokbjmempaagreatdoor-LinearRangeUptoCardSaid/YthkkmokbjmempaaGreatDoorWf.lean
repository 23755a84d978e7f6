/- Walks: relucertref07.Valid. -/
import Derived.Test.YthkkmokbjmempaaGreatDoorUe
set_option linter.all false
set_option linter.all false
set_option maxRecDepth 100000
set_option maxHeartbeats 6400000
namespace Go.Proofs.YthkkmokbjmempaaGreatDoor
open Go.RowKit

/-! relucertref07.Valid, level 0 -/
noncomputable def va_C2 : Code := (loopsOf (bodyOf Tryz.f18)).getD 0 .skip
def va_h2 (a0 : Form) (a1 : Int) (i_2 : Nat) : St :=
  ⟨[(1, .lit (.int .i64 a1)), (2, .ptr 0 0), (5, .lit (.int .i64 (i_2 : Int)))],
   [(0, some (.box 29 [.sl 4 (a0.1.map termC), .lit (.bool (rawQ a0.2).s), natA (rawQ a0.2).l1, natA (rawQ a0.2).l2] false))], 1⟩
def va_o2a (a0 : Form) : St :=
  ⟨[(2, .ptr 0 0), (4, .lit (.bool false))],
   [(0, some (.box 29 [.sl 4 (a0.1.map termC), .lit (.bool (rawQ a0.2).s), natA (rawQ a0.2).l1, natA (rawQ a0.2).l2] false))], 1⟩
def va_o2b (a0 : Form) : St :=
  ⟨[(2, .ptr 0 0), (4, .any)],
   [(0, some (.box 29 [.sl 4 (a0.1.map termC), .lit (.bool (rawQ a0.2).s), natA (rawQ a0.2).l1, natA (rawQ a0.2).l2] false))], 1⟩
theorem va_r2_1 {n : Nat} {a0 : Form} {a1 : Int} {i_2 : Nat} {v4 : Int} {q4 : Rat} {v5 : Int} {q5 : Rat} (C1 : (i_2 : Int) < (a0.1.length : Int)) (E2 : a0.1[i_2]? = some (v4, q4)) (C3 : ¬ v4 < 0) (C4 : ¬ a1 ≤ v4) (C5 : 0 < (i_2 : Int)) (W6 : InI ((i_2 : Int) - 1)) (E7 : a0.1[i_2 - 1]? = some (v5, q5)) (Z7 : 1 ≤ i_2) (C8 : ¬ v4 ≤ v5) (B9a : H q4 ≤ 17179869184) (C10 : ¬ sgR q4 = 0) (W12 : InI ((i_2 : Int) + 1)) :
    Cont 0 (exec Tryz.prog (tab n) 0 59 (livesOf 18) big va_C2) (livesOf 18 2) (va_h2 a0 a1 i_2) (va_h2 a0 a1 (i_2 + 1)) := by
  have C1_ : i_2 < a0.1.length := by omega
  obtain ⟨EL2, EG2⟩ := List.getElem?_eq_some_iff.1 E2
  have C5_ : 0 < i_2 := by omega
  have C5_z : (i_2 : Int) ≠ 0 := by omega
  have C5_e : ((i_2 : Int) == 0) = false := by simpa using C5_z
  have C5_g : ((i_2 : Int) != 0) = true := by simpa using C5_z
  have W6_ : IntKind.i64.wrap ((i_2 : Int) - 1) = (i_2 : Int) - 1 := wr64 W6.1 W6.2
  obtain ⟨EL7, EG7⟩ := List.getElem?_eq_some_iff.1 E7
  have Z7_0 : (1 : Int) ≤ (i_2 : Int) := by omega
  have Z7_1 : 0 ≤ (i_2 : Int) - 1 := by omega
  have K9 := r_sign (p := q4) B9a
  have C10_ : (sgR q4 == 0) = false := by simpa using C10
  have C10_n : (sgR q4 != 0) = true := by simpa using C10
  have K11 := r_valid (p := q4) B9a
  have W12_ : IntKind.i64.wrap ((i_2 : Int) + 1) = (i_2 : Int) + 1 := wr64 W12.1 W12.2
  unfold Cont
  simp +decide [va_h2, loopsOf, Tryz.f18, va_C2, C1, C1_, EL2, EG2, E2, C3, C4, C5, C5_, C5_e, C5_g, W6_, EL7, EG7, E7, Z7, Z7_0, Z7_1, C8, K9, C10_, C10_n, K11, W12_]
theorem va_r2_2 {n : Nat} {a0 : Form} {a1 : Int} {i_2 : Nat} {v4 : Int} {q4 : Rat} (C1 : (i_2 : Int) < (a0.1.length : Int)) (E2 : a0.1[i_2]? = some (v4, q4)) (C3 : ¬ v4 < 0) (C4 : ¬ a1 ≤ v4) (C5 : ¬ 0 < (i_2 : Int)) (B6a : H q4 ≤ 17179869184) (C7 : ¬ sgR q4 = 0) (W9 : InI ((i_2 : Int) + 1)) :
    Cont 0 (exec Tryz.prog (tab n) 0 59 (livesOf 18) big va_C2) (livesOf 18 2) (va_h2 a0 a1 i_2) (va_h2 a0 a1 (i_2 + 1)) := by
  have C1_ : i_2 < a0.1.length := by omega
  obtain ⟨EL2, EG2⟩ := List.getElem?_eq_some_iff.1 E2
  have C5_ : ¬ 0 < i_2 := by omega
  have C5_z : (i_2 : Int) = 0 := by omega
  have C5_e : ((i_2 : Int) == 0) = true := by rw [C5_z]; simp
  have C5_g : ((i_2 : Int) != 0) = false := by rw [C5_z]; simp
  have K6 := r_sign (p := q4) B6a
  have C7_ : (sgR q4 == 0) = false := by simpa using C7
  have C7_n : (sgR q4 != 0) = true := by simpa using C7
  have K8 := r_valid (p := q4) B6a
  have W9_ : IntKind.i64.wrap ((i_2 : Int) + 1) = (i_2 : Int) + 1 := wr64 W9.1 W9.2
  unfold Cont
  simp +decide [va_h2, loopsOf, Tryz.f18, va_C2, C1, C1_, EL2, EG2, E2, C3, C4, C5, C5_, C5_e, C5_g, K6, C7_, C7_n, K8, W9_]
theorem va_x2_1 {n : Nat} {a0 : Form} {a1 : Int} {i_2 : Nat} {v4 : Int} {q4 : Rat} (C1 : (i_2 : Int) < (a0.1.length : Int)) (E2 : a0.1[i_2]? = some (v4, q4)) (C3 : v4 < 0) :
    Leave 0 (exec Tryz.prog (tab n) 0 59 (livesOf 18) big va_C2) (livesOf 18 (outOf 2)) (va_h2 a0 a1 i_2) (.ret) (va_o2a a0) := by
  have C1_ : i_2 < a0.1.length := by omega
  obtain ⟨EL2, EG2⟩ := List.getElem?_eq_some_iff.1 E2
  unfold Leave
  simp +decide [va_h2, loopsOf, Tryz.f18, va_o2a, va_C2, C1, C1_, EL2, EG2, E2, C3]
theorem va_x2_2 {n : Nat} {a0 : Form} {a1 : Int} {i_2 : Nat} {v4 : Int} {q4 : Rat} (C1 : (i_2 : Int) < (a0.1.length : Int)) (E2 : a0.1[i_2]? = some (v4, q4)) (C3 : ¬ v4 < 0) (C4 : a1 ≤ v4) :
    Leave 0 (exec Tryz.prog (tab n) 0 59 (livesOf 18) big va_C2) (livesOf 18 (outOf 2)) (va_h2 a0 a1 i_2) (.ret) (va_o2a a0) := by
  have C1_ : i_2 < a0.1.length := by omega
  obtain ⟨EL2, EG2⟩ := List.getElem?_eq_some_iff.1 E2
  unfold Leave
  simp +decide [va_h2, loopsOf, Tryz.f18, va_o2a, va_C2, C1, C1_, EL2, EG2, E2, C3, C4]
theorem va_x2_3 {n : Nat} {a0 : Form} {a1 : Int} {i_2 : Nat} {v4 : Int} {q4 : Rat} {v5 : Int} {q5 : Rat} (C1 : (i_2 : Int) < (a0.1.length : Int)) (E2 : a0.1[i_2]? = some (v4, q4)) (C3 : ¬ v4 < 0) (C4 : ¬ a1 ≤ v4) (C5 : 0 < (i_2 : Int)) (W6 : InI ((i_2 : Int) - 1)) (E7 : a0.1[i_2 - 1]? = some (v5, q5)) (Z7 : 1 ≤ i_2) (C8 : v4 ≤ v5) :
    Leave 0 (exec Tryz.prog (tab n) 0 59 (livesOf 18) big va_C2) (livesOf 18 (outOf 2)) (va_h2 a0 a1 i_2) (.ret) (va_o2a a0) := by
  have C1_ : i_2 < a0.1.length := by omega
  obtain ⟨EL2, EG2⟩ := List.getElem?_eq_some_iff.1 E2
  have C5_ : 0 < i_2 := by omega
  have C5_z : (i_2 : Int) ≠ 0 := by omega
  have C5_e : ((i_2 : Int) == 0) = false := by simpa using C5_z
  have C5_g : ((i_2 : Int) != 0) = true := by simpa using C5_z
  have W6_ : IntKind.i64.wrap ((i_2 : Int) - 1) = (i_2 : Int) - 1 := wr64 W6.1 W6.2
  obtain ⟨EL7, EG7⟩ := List.getElem?_eq_some_iff.1 E7
  have Z7_0 : (1 : Int) ≤ (i_2 : Int) := by omega
  have Z7_1 : 0 ≤ (i_2 : Int) - 1 := by omega
  unfold Leave
  simp +decide [va_h2, loopsOf, Tryz.f18, va_o2a, va_C2, C1, C1_, EL2, EG2, E2, C3, C4, C5, C5_, C5_e, C5_g, W6_, EL7, EG7, E7, Z7, Z7_0, Z7_1, C8]
theorem va_x2_4 {n : Nat} {a0 : Form} {a1 : Int} {i_2 : Nat} {v4 : Int} {q4 : Rat} {v5 : Int} {q5 : Rat} (C1 : (i_2 : Int) < (a0.1.length : Int)) (E2 : a0.1[i_2]? = some (v4, q4)) (C3 : ¬ v4 < 0) (C4 : ¬ a1 ≤ v4) (C5 : 0 < (i_2 : Int)) (W6 : InI ((i_2 : Int) - 1)) (E7 : a0.1[i_2 - 1]? = some (v5, q5)) (Z7 : 1 ≤ i_2) (C8 : ¬ v4 ≤ v5) (B9a : H q4 ≤ 17179869184) (C10 : sgR q4 = 0) :
    Leave 0 (exec Tryz.prog (tab n) 0 59 (livesOf 18) big va_C2) (livesOf 18 (outOf 2)) (va_h2 a0 a1 i_2) (.ret) (va_o2a a0) := by
  have C1_ : i_2 < a0.1.length := by omega
  obtain ⟨EL2, EG2⟩ := List.getElem?_eq_some_iff.1 E2
  have C5_ : 0 < i_2 := by omega
  have C5_z : (i_2 : Int) ≠ 0 := by omega
  have C5_e : ((i_2 : Int) == 0) = false := by simpa using C5_z
  have C5_g : ((i_2 : Int) != 0) = true := by simpa using C5_z
  have W6_ : IntKind.i64.wrap ((i_2 : Int) - 1) = (i_2 : Int) - 1 := wr64 W6.1 W6.2
  obtain ⟨EL7, EG7⟩ := List.getElem?_eq_some_iff.1 E7
  have Z7_0 : (1 : Int) ≤ (i_2 : Int) := by omega
  have Z7_1 : 0 ≤ (i_2 : Int) - 1 := by omega
  have K9 := r_sign (p := q4) B9a
  have C10_ : (sgR q4 == 0) = true := by rw [C10]; simp
  have C10_n : (sgR q4 != 0) = false := by rw [C10]; simp
  unfold Leave
  simp +decide [va_h2, loopsOf, Tryz.f18, va_o2a, va_C2, C1, C1_, EL2, EG2, E2, C3, C4, C5, C5_, C5_e, C5_g, W6_, EL7, EG7, E7, Z7, Z7_0, Z7_1, C8, K9, C10_, C10_n]
theorem va_x2_5 {n : Nat} {a0 : Form} {a1 : Int} {i_2 : Nat} {v4 : Int} {q4 : Rat} (C1 : (i_2 : Int) < (a0.1.length : Int)) (E2 : a0.1[i_2]? = some (v4, q4)) (C3 : ¬ v4 < 0) (C4 : ¬ a1 ≤ v4) (C5 : ¬ 0 < (i_2 : Int)) (B6a : H q4 ≤ 17179869184) (C7 : sgR q4 = 0) :
    Leave 0 (exec Tryz.prog (tab n) 0 59 (livesOf 18) big va_C2) (livesOf 18 (outOf 2)) (va_h2 a0 a1 i_2) (.ret) (va_o2a a0) := by
  have C1_ : i_2 < a0.1.length := by omega
  obtain ⟨EL2, EG2⟩ := List.getElem?_eq_some_iff.1 E2
  have C5_ : ¬ 0 < i_2 := by omega
  have C5_z : (i_2 : Int) = 0 := by omega
  have C5_e : ((i_2 : Int) == 0) = true := by rw [C5_z]; simp
  have C5_g : ((i_2 : Int) != 0) = false := by rw [C5_z]; simp
  have K6 := r_sign (p := q4) B6a
  have C7_ : (sgR q4 == 0) = true := by rw [C7]; simp
  have C7_n : (sgR q4 != 0) = false := by rw [C7]; simp
  unfold Leave
  simp +decide [va_h2, loopsOf, Tryz.f18, va_o2a, va_C2, C1, C1_, EL2, EG2, E2, C3, C4, C5, C5_, C5_e, C5_g, K6, C7_, C7_n]
theorem va_x2_6 {n : Nat} {a0 : Form} {a1 : Int} {i_2 : Nat} (C1 : ¬ (i_2 : Int) < (a0.1.length : Int)) :
    Leave 0 (exec Tryz.prog (tab n) 0 59 (livesOf 18) big va_C2) (livesOf 18 (outOf 2)) (va_h2 a0 a1 i_2) (.exit 0) (va_o2b a0) := by
  have C1_ : ¬ i_2 < a0.1.length := by omega
  unfold Leave
  simp +decide [va_h2, loopsOf, Tryz.f18, va_o2b, va_C2, C1, C1_]
theorem va_f1 {n : Nat} {a0 : Form} {a1 : Int} (L1 : loopG Tryz.prog (tab n) 0 59 (livesOf 18) 2 va_C2 (va_h2 a0 a1 0) = some (.ret, va_o2a a0)) :
    run n 18 [formV a0, .lit (.int .i64 a1)] = some (.lit (.bool false)) := by
  unfold run fnP
  simp +decide [Tryz.f18]
  rw [loopX_G (C' := va_C2) (e := (va_h2 a0 a1 0)) ?_ ?_, L1]
  rotate_left
  · kernel_rfl
  · simp +decide [va_h2]
  simp +decide [va_o2a]
theorem va_f2 {n : Nat} {a0 : Form} {a1 : Int} (L1 : loopG Tryz.prog (tab n) 0 59 (livesOf 18) 2 va_C2 (va_h2 a0 a1 0) = some (.exit 0, va_o2b a0)) (B2a : H a0.2 ≤ 17179869184) :
    run n 18 [formV a0, .lit (.int .i64 a1)] = some (.lit (.bool true)) := by
  have K2 := r_valid (p := a0.2) B2a
  unfold run fnP
  simp +decide [Tryz.f18, K2]
  rw [loopX_G (C' := va_C2) (e := (va_h2 a0 a1 0)) ?_ ?_, L1]
  rotate_left
  · kernel_rfl
  · simp +decide [va_h2, K2]
  simp +decide [va_o2b, K2]
end Go.Proofs.YthkkmokbjmempaaGreatDoor
