/- Walks: relucertref07.Valid, relucertref07.ValidAll. Walks: relucertref15.Valid, relucertref15.Vars. Walks: relucertref15.Values, relucertref15.forms, relucertref15.Pre. Walks: relucertref15.Outputs, relucertref15.Small, relucertref15.Point. -/
import Derived.Test.YtlpmemelhlnfbaaGreatDoorGA5
set_option linter.all false
set_option linter.all false
set_option maxRecDepth 100000
set_option maxHeartbeats 6400000
namespace Go.Proofs.YtlpmemelhlnfbaaGreatDoor
open Go.RowKit

/-! relucertref07.Valid, level 0 -/
noncomputable def va_C2 : Code := (loopsOf (bodyOf Tryz.f51)).getD 0 .skip
def va_h2 (a0 : Form) (a1 : Int) (i_2 : Nat) : St :=
  ⟨[(1, .lit (.int .i64 a1)), (2, .ptr 0 0), (5, .lit (.int .i64 (i_2 : Int)))],
   [(0, some (.box 29 [.sl 4 (a0.1.map termC), .lit (.bool (rawQ a0.2).s), natA (rawQ a0.2).l1, natA (rawQ a0.2).l2] false))], 1⟩
def va_o2a (a0 : Form) : St :=
  ⟨[(2, .ptr 0 0), (4, .lit (.bool false))],
   [(0, some (.box 29 [.sl 4 (a0.1.map termC), .lit (.bool (rawQ a0.2).s), natA (rawQ a0.2).l1, natA (rawQ a0.2).l2] false))], 1⟩
def va_o2b (a0 : Form) : St :=
  ⟨[(2, .ptr 0 0), (4, .any)],
   [(0, some (.box 29 [.sl 4 (a0.1.map termC), .lit (.bool (rawQ a0.2).s), natA (rawQ a0.2).l1, natA (rawQ a0.2).l2] false))], 1⟩
theorem va_r2_1 {n : Nat} {a0 : Form} {a1 : Int} {i_2 : Nat} {v4 : Int} {q4 : Rat} {v5 : Int} {q5 : Rat} (C1 : (i_2 : Int) < (a0.1.length : Int)) (E2 : a0.1[i_2]? = some (v4, q4)) (C3 : ¬ v4 < 0) (C4 : ¬ a1 ≤ v4) (C5 : 0 < (i_2 : Int)) (W6 : InI ((i_2 : Int) - 1)) (E7 : a0.1[i_2 - 1]? = some (v5, q5)) (Z7 : 1 ≤ i_2) (C8 : ¬ v4 ≤ v5) (B9a : H q4 ≤ 17179869184) (C10 : ¬ sgR q4 = 0) (W12 : InI ((i_2 : Int) + 1)) :
    Cont 0 (exec Tryz.prog (tab n) 0 59 (livesOf 51) big va_C2) (livesOf 51 2) (va_h2 a0 a1 i_2) (va_h2 a0 a1 (i_2 + 1)) := by
  have C1_ : i_2 < a0.1.length := by omega
  obtain ⟨EL2, EG2⟩ := List.getElem?_eq_some_iff.1 E2
  have C5_ : 0 < i_2 := by omega
  have C5_z : (i_2 : Int) ≠ 0 := by omega
  have C5_e : ((i_2 : Int) == 0) = false := by simpa using C5_z
  have C5_g : ((i_2 : Int) != 0) = true := by simpa using C5_z
  have W6_ : IntKind.i64.wrap ((i_2 : Int) - 1) = (i_2 : Int) - 1 := wr64 W6.1 W6.2
  obtain ⟨EL7, EG7⟩ := List.getElem?_eq_some_iff.1 E7
  have Z7_0 : (1 : Int) ≤ (i_2 : Int) := by omega
  have Z7_1 : 0 ≤ (i_2 : Int) - 1 := by omega
  have K9 := r_sign (p := q4) B9a
  have C10_ : (sgR q4 == 0) = false := by simpa using C10
  have C10_n : (sgR q4 != 0) = true := by simpa using C10
  have K11 := r_valid (p := q4) B9a
  have W12_ : IntKind.i64.wrap ((i_2 : Int) + 1) = (i_2 : Int) + 1 := wr64 W12.1 W12.2
  unfold Cont
  simp +decide [va_h2, loopsOf, Tryz.f51, va_C2, C1, C1_, EL2, EG2, E2, C3, C4, C5, C5_, C5_e, C5_g, W6_, EL7, EG7, E7, Z7, Z7_0, Z7_1, C8, K9, C10_, C10_n, K11, W12_]
theorem va_r2_2 {n : Nat} {a0 : Form} {a1 : Int} {i_2 : Nat} {v4 : Int} {q4 : Rat} (C1 : (i_2 : Int) < (a0.1.length : Int)) (E2 : a0.1[i_2]? = some (v4, q4)) (C3 : ¬ v4 < 0) (C4 : ¬ a1 ≤ v4) (C5 : ¬ 0 < (i_2 : Int)) (B6a : H q4 ≤ 17179869184) (C7 : ¬ sgR q4 = 0) (W9 : InI ((i_2 : Int) + 1)) :
    Cont 0 (exec Tryz.prog (tab n) 0 59 (livesOf 51) big va_C2) (livesOf 51 2) (va_h2 a0 a1 i_2) (va_h2 a0 a1 (i_2 + 1)) := by
  have C1_ : i_2 < a0.1.length := by omega
  obtain ⟨EL2, EG2⟩ := List.getElem?_eq_some_iff.1 E2
  have C5_ : ¬ 0 < i_2 := by omega
  have C5_z : (i_2 : Int) = 0 := by omega
  have C5_e : ((i_2 : Int) == 0) = true := by rw [C5_z]; simp
  have C5_g : ((i_2 : Int) != 0) = false := by rw [C5_z]; simp
  have K6 := r_sign (p := q4) B6a
  have C7_ : (sgR q4 == 0) = false := by simpa using C7
  have C7_n : (sgR q4 != 0) = true := by simpa using C7
  have K8 := r_valid (p := q4) B6a
  have W9_ : IntKind.i64.wrap ((i_2 : Int) + 1) = (i_2 : Int) + 1 := wr64 W9.1 W9.2
  unfold Cont
  simp +decide [va_h2, loopsOf, Tryz.f51, va_C2, C1, C1_, EL2, EG2, E2, C3, C4, C5, C5_, C5_e, C5_g, K6, C7_, C7_n, K8, W9_]
theorem va_x2_1 {n : Nat} {a0 : Form} {a1 : Int} {i_2 : Nat} {v4 : Int} {q4 : Rat} (C1 : (i_2 : Int) < (a0.1.length : Int)) (E2 : a0.1[i_2]? = some (v4, q4)) (C3 : v4 < 0) :
    Leave 0 (exec Tryz.prog (tab n) 0 59 (livesOf 51) big va_C2) (livesOf 51 (outOf 2)) (va_h2 a0 a1 i_2) (.ret) (va_o2a a0) := by
  have C1_ : i_2 < a0.1.length := by omega
  obtain ⟨EL2, EG2⟩ := List.getElem?_eq_some_iff.1 E2
  unfold Leave
  simp +decide [va_h2, loopsOf, Tryz.f51, va_o2a, va_C2, C1, C1_, EL2, EG2, E2, C3]
theorem va_x2_2 {n : Nat} {a0 : Form} {a1 : Int} {i_2 : Nat} {v4 : Int} {q4 : Rat} (C1 : (i_2 : Int) < (a0.1.length : Int)) (E2 : a0.1[i_2]? = some (v4, q4)) (C3 : ¬ v4 < 0) (C4 : a1 ≤ v4) :
    Leave 0 (exec Tryz.prog (tab n) 0 59 (livesOf 51) big va_C2) (livesOf 51 (outOf 2)) (va_h2 a0 a1 i_2) (.ret) (va_o2a a0) := by
  have C1_ : i_2 < a0.1.length := by omega
  obtain ⟨EL2, EG2⟩ := List.getElem?_eq_some_iff.1 E2
  unfold Leave
  simp +decide [va_h2, loopsOf, Tryz.f51, va_o2a, va_C2, C1, C1_, EL2, EG2, E2, C3, C4]
theorem va_x2_3 {n : Nat} {a0 : Form} {a1 : Int} {i_2 : Nat} {v4 : Int} {q4 : Rat} {v5 : Int} {q5 : Rat} (C1 : (i_2 : Int) < (a0.1.length : Int)) (E2 : a0.1[i_2]? = some (v4, q4)) (C3 : ¬ v4 < 0) (C4 : ¬ a1 ≤ v4) (C5 : 0 < (i_2 : Int)) (W6 : InI ((i_2 : Int) - 1)) (E7 : a0.1[i_2 - 1]? = some (v5, q5)) (Z7 : 1 ≤ i_2) (C8 : v4 ≤ v5) :
    Leave 0 (exec Tryz.prog (tab n) 0 59 (livesOf 51) big va_C2) (livesOf 51 (outOf 2)) (va_h2 a0 a1 i_2) (.ret) (va_o2a a0) := by
  have C1_ : i_2 < a0.1.length := by omega
  obtain ⟨EL2, EG2⟩ := List.getElem?_eq_some_iff.1 E2
  have C5_ : 0 < i_2 := by omega
  have C5_z : (i_2 : Int) ≠ 0 := by omega
  have C5_e : ((i_2 : Int) == 0) = false := by simpa using C5_z
  have C5_g : ((i_2 : Int) != 0) = true := by simpa using C5_z
  have W6_ : IntKind.i64.wrap ((i_2 : Int) - 1) = (i_2 : Int) - 1 := wr64 W6.1 W6.2
  obtain ⟨EL7, EG7⟩ := List.getElem?_eq_some_iff.1 E7
  have Z7_0 : (1 : Int) ≤ (i_2 : Int) := by omega
  have Z7_1 : 0 ≤ (i_2 : Int) - 1 := by omega
  unfold Leave
  simp +decide [va_h2, loopsOf, Tryz.f51, va_o2a, va_C2, C1, C1_, EL2, EG2, E2, C3, C4, C5, C5_, C5_e, C5_g, W6_, EL7, EG7, E7, Z7, Z7_0, Z7_1, C8]
theorem va_x2_4 {n : Nat} {a0 : Form} {a1 : Int} {i_2 : Nat} {v4 : Int} {q4 : Rat} {v5 : Int} {q5 : Rat} (C1 : (i_2 : Int) < (a0.1.length : Int)) (E2 : a0.1[i_2]? = some (v4, q4)) (C3 : ¬ v4 < 0) (C4 : ¬ a1 ≤ v4) (C5 : 0 < (i_2 : Int)) (W6 : InI ((i_2 : Int) - 1)) (E7 : a0.1[i_2 - 1]? = some (v5, q5)) (Z7 : 1 ≤ i_2) (C8 : ¬ v4 ≤ v5) (B9a : H q4 ≤ 17179869184) (C10 : sgR q4 = 0) :
    Leave 0 (exec Tryz.prog (tab n) 0 59 (livesOf 51) big va_C2) (livesOf 51 (outOf 2)) (va_h2 a0 a1 i_2) (.ret) (va_o2a a0) := by
  have C1_ : i_2 < a0.1.length := by omega
  obtain ⟨EL2, EG2⟩ := List.getElem?_eq_some_iff.1 E2
  have C5_ : 0 < i_2 := by omega
  have C5_z : (i_2 : Int) ≠ 0 := by omega
  have C5_e : ((i_2 : Int) == 0) = false := by simpa using C5_z
  have C5_g : ((i_2 : Int) != 0) = true := by simpa using C5_z
  have W6_ : IntKind.i64.wrap ((i_2 : Int) - 1) = (i_2 : Int) - 1 := wr64 W6.1 W6.2
  obtain ⟨EL7, EG7⟩ := List.getElem?_eq_some_iff.1 E7
  have Z7_0 : (1 : Int) ≤ (i_2 : Int) := by omega
  have Z7_1 : 0 ≤ (i_2 : Int) - 1 := by omega
  have K9 := r_sign (p := q4) B9a
  have C10_ : (sgR q4 == 0) = true := by rw [C10]; simp
  have C10_n : (sgR q4 != 0) = false := by rw [C10]; simp
  unfold Leave
  simp +decide [va_h2, loopsOf, Tryz.f51, va_o2a, va_C2, C1, C1_, EL2, EG2, E2, C3, C4, C5, C5_, C5_e, C5_g, W6_, EL7, EG7, E7, Z7, Z7_0, Z7_1, C8, K9, C10_, C10_n]
theorem va_x2_5 {n : Nat} {a0 : Form} {a1 : Int} {i_2 : Nat} {v4 : Int} {q4 : Rat} (C1 : (i_2 : Int) < (a0.1.length : Int)) (E2 : a0.1[i_2]? = some (v4, q4)) (C3 : ¬ v4 < 0) (C4 : ¬ a1 ≤ v4) (C5 : ¬ 0 < (i_2 : Int)) (B6a : H q4 ≤ 17179869184) (C7 : sgR q4 = 0) :
    Leave 0 (exec Tryz.prog (tab n) 0 59 (livesOf 51) big va_C2) (livesOf 51 (outOf 2)) (va_h2 a0 a1 i_2) (.ret) (va_o2a a0) := by
  have C1_ : i_2 < a0.1.length := by omega
  obtain ⟨EL2, EG2⟩ := List.getElem?_eq_some_iff.1 E2
  have C5_ : ¬ 0 < i_2 := by omega
  have C5_z : (i_2 : Int) = 0 := by omega
  have C5_e : ((i_2 : Int) == 0) = true := by rw [C5_z]; simp
  have C5_g : ((i_2 : Int) != 0) = false := by rw [C5_z]; simp
  have K6 := r_sign (p := q4) B6a
  have C7_ : (sgR q4 == 0) = true := by rw [C7]; simp
  have C7_n : (sgR q4 != 0) = false := by rw [C7]; simp
  unfold Leave
  simp +decide [va_h2, loopsOf, Tryz.f51, va_o2a, va_C2, C1, C1_, EL2, EG2, E2, C3, C4, C5, C5_, C5_e, C5_g, K6, C7_, C7_n]
theorem va_x2_6 {n : Nat} {a0 : Form} {a1 : Int} {i_2 : Nat} (C1 : ¬ (i_2 : Int) < (a0.1.length : Int)) :
    Leave 0 (exec Tryz.prog (tab n) 0 59 (livesOf 51) big va_C2) (livesOf 51 (outOf 2)) (va_h2 a0 a1 i_2) (.exit 0) (va_o2b a0) := by
  have C1_ : ¬ i_2 < a0.1.length := by omega
  unfold Leave
  simp +decide [va_h2, loopsOf, Tryz.f51, va_o2b, va_C2, C1, C1_]
theorem va_f1 {n : Nat} {a0 : Form} {a1 : Int} (L1 : loopG Tryz.prog (tab n) 0 59 (livesOf 51) 2 va_C2 (va_h2 a0 a1 0) = some (.ret, va_o2a a0)) :
    run n 51 [formV a0, .lit (.int .i64 a1)] = some (.lit (.bool false)) := by
  unfold run fnP
  simp +decide [Tryz.f51]
  rw [loopX_G (C' := va_C2) (e := (va_h2 a0 a1 0)) ?_ ?_, L1]
  rotate_left
  · kernel_rfl
  · simp +decide [va_h2]
  simp +decide [va_o2a]
theorem va_f2 {n : Nat} {a0 : Form} {a1 : Int} (L1 : loopG Tryz.prog (tab n) 0 59 (livesOf 51) 2 va_C2 (va_h2 a0 a1 0) = some (.exit 0, va_o2b a0)) (B2a : H a0.2 ≤ 17179869184) :
    run n 51 [formV a0, .lit (.int .i64 a1)] = some (.lit (.bool true)) := by
  have K2 := r_valid (p := a0.2) B2a
  unfold run fnP
  simp +decide [Tryz.f51, K2]
  rw [loopX_G (C' := va_C2) (e := (va_h2 a0 a1 0)) ?_ ?_, L1]
  rotate_left
  · kernel_rfl
  · simp +decide [va_h2, K2]
  simp +decide [va_o2b, K2]
/-! relucertref07.ValidAll, level 1 -/
noncomputable def vl_C2 : Code := (loopsOf (bodyOf Tryz.f91)).getD 0 .skip
def vl_h2 (a0 : List Form) (a1 : Int) (i_2 : Nat) : St :=
  ⟨[(0, .sl 4 (a0.map formC)), (1, .lit (.int .i64 a1)), (5, .lit (.int .i64 (i_2 : Int)))],
   [], 0⟩
def vl_o2a  : St :=
  ⟨[(4, .lit (.bool false))],
   [], 0⟩
def vl_o2b  : St :=
  ⟨[(4, .any)],
   [], 0⟩
theorem vl_r2_1 {n : Nat} {a0 : List Form} {a1 : Int} {i_2 : Nat} {F3 : List (Int × Rat)} {q3 : Rat} {r3 : Bool} (C1 : (i_2 : Int) < (a0.length : Int)) (E2 : a0[i_2]? = some (F3, q3)) (K3 : run n 51 [formV (F3, q3), .lit (.int .i64 a1)] = some (.lit (.bool r3))) (C4 : r3 = true) (W5 : InI ((i_2 : Int) + 1)) :
    Cont 0 (exec Tryz.prog (tab (n + 1)) 0 19 (livesOf 91) big vl_C2) (livesOf 91 2) (vl_h2 a0 a1 i_2) (vl_h2 a0 a1 (i_2 + 1)) := by
  have C1_ : i_2 < a0.length := by omega
  obtain ⟨EL2, EG2⟩ := List.getElem?_eq_some_iff.1 E2
  simp only [formV] at K3
  have W5_ : IntKind.i64.wrap ((i_2 : Int) + 1) = (i_2 : Int) + 1 := wr64 W5.1 W5.2
  unfold Cont
  simp +decide [vl_h2, loopsOf, Tryz.f91, vl_C2, C1, C1_, EL2, EG2, E2, K3, C4, W5_]
theorem vl_x2_1 {n : Nat} {a0 : List Form} {a1 : Int} {i_2 : Nat} {F3 : List (Int × Rat)} {q3 : Rat} {r3 : Bool} (C1 : (i_2 : Int) < (a0.length : Int)) (E2 : a0[i_2]? = some (F3, q3)) (K3 : run n 51 [formV (F3, q3), .lit (.int .i64 a1)] = some (.lit (.bool r3))) (C4 : r3 = false) :
    Leave 0 (exec Tryz.prog (tab (n + 1)) 0 19 (livesOf 91) big vl_C2) (livesOf 91 (outOf 2)) (vl_h2 a0 a1 i_2) (.ret) (vl_o2a ) := by
  have C1_ : i_2 < a0.length := by omega
  obtain ⟨EL2, EG2⟩ := List.getElem?_eq_some_iff.1 E2
  simp only [formV] at K3
  unfold Leave
  simp +decide [vl_h2, loopsOf, Tryz.f91, vl_o2a, vl_C2, C1, C1_, EL2, EG2, E2, K3, C4]
theorem vl_x2_2 {n : Nat} {a0 : List Form} {a1 : Int} {i_2 : Nat} (C1 : ¬ (i_2 : Int) < (a0.length : Int)) :
    Leave 0 (exec Tryz.prog (tab (n + 1)) 0 19 (livesOf 91) big vl_C2) (livesOf 91 (outOf 2)) (vl_h2 a0 a1 i_2) (.exit 0) (vl_o2b ) := by
  have C1_ : ¬ i_2 < a0.length := by omega
  unfold Leave
  simp +decide [vl_h2, loopsOf, Tryz.f91, vl_o2b, vl_C2, C1, C1_]
theorem vl_f1 {n : Nat} {a0 : List Form} {a1 : Int} (L1 : loopG Tryz.prog (tab (n + 1)) 0 19 (livesOf 91) 2 vl_C2 (vl_h2 a0 a1 0) = some (.ret, vl_o2a )) :
    run (n + 1) 91 [.sl 4 (a0.map formC), .lit (.int .i64 a1)] = some (.lit (.bool false)) := by
  unfold run fnP
  simp +decide [Tryz.f91]
  rw [loopX_G (C' := vl_C2) (e := (vl_h2 a0 a1 0)) ?_ ?_, L1]
  rotate_left
  · kernel_rfl
  · simp +decide [vl_h2]
  simp +decide [vl_o2a]
theorem vl_f2 {n : Nat} {a0 : List Form} {a1 : Int} (L1 : loopG Tryz.prog (tab (n + 1)) 0 19 (livesOf 91) 2 vl_C2 (vl_h2 a0 a1 0) = some (.exit 0, vl_o2b )) :
    run (n + 1) 91 [.sl 4 (a0.map formC), .lit (.int .i64 a1)] = some (.lit (.bool true)) := by
  unfold run fnP
  simp +decide [Tryz.f91]
  rw [loopX_G (C' := vl_C2) (e := (vl_h2 a0 a1 0)) ?_ ?_, L1]
  rotate_left
  · kernel_rfl
  · simp +decide [vl_h2]
  simp +decide [vl_o2b]
end Go.Proofs.YtlpmemelhlnfbaaGreatDoor
set_option linter.all false
set_option maxRecDepth 100000
set_option maxHeartbeats 6400000
namespace Go.Proofs.YtlpmemelhlnfbaaGreatDoor
open Go.RowKit

/-! relucertref15.Valid, level 2 -/
noncomputable def vg_C4 : Code := (loopsOf (bodyOf Tryz.f25)).getD 0 .skip
def vg_h4 (a0 : TGraph) (i_4 : Nat) : St :=
  ⟨[(1, .ptr 0 0), (3, .lit (.int .i64 (i_4 : Int)))],
   [(0, some (.box 38 [.lit (.int .i64 (a0.Inputs)), .sl 4 (a0.Units.map formC), .sl 4 (a0.Outputs.map formC)] false))], 1⟩
def vg_o4a (a0 : TGraph) : St :=
  ⟨[(1, .ptr 0 0), (2, .lit (.bool false))],
   [(0, some (.box 38 [.lit (.int .i64 (a0.Inputs)), .sl 4 (a0.Units.map formC), .sl 4 (a0.Outputs.map formC)] false))], 1⟩
def vg_o4b (a0 : TGraph) : St :=
  ⟨[(1, .ptr 0 0), (2, .any)],
   [(0, some (.box 38 [.lit (.int .i64 (a0.Inputs)), .sl 4 (a0.Units.map formC), .sl 4 (a0.Outputs.map formC)] false))], 1⟩
theorem vg_r4_1 {n : Nat} {a0 : TGraph} {i_4 : Nat} {F3 : List (Int × Rat)} {q3 : Rat} {r3 : Bool} (C1 : (i_4 : Int) < (a0.Units.length : Int)) (E2 : a0.Units[i_4]? = some (F3, q3)) (W3 : InI (a0.Inputs + (i_4 : Int))) (K4 : run (n + 1) 51 [formV (F3, q3), .lit (.int .i64 (a0.Inputs + (i_4 : Int)))] = some (.lit (.bool r3))) (C5 : r3 = true) (W6 : InI ((i_4 : Int) + 1)) :
    Cont 0 (exec Tryz.prog (tab (n + 2)) 0 57 (livesOf 25) big vg_C4) (livesOf 25 4) (vg_h4 a0 i_4) (vg_h4 a0 (i_4 + 1)) := by
  have C1_ : i_4 < a0.Units.length := by omega
  obtain ⟨EL2, EG2⟩ := List.getElem?_eq_some_iff.1 E2
  have W3_ : IntKind.i64.wrap (a0.Inputs + (i_4 : Int)) = a0.Inputs + (i_4 : Int) := wr64 W3.1 W3.2
  simp only [formV] at K4
  have W6_ : IntKind.i64.wrap ((i_4 : Int) + 1) = (i_4 : Int) + 1 := wr64 W6.1 W6.2
  unfold Cont
  simp +decide [vg_h4, loopsOf, Tryz.f25, vg_C4, C1, C1_, EL2, EG2, E2, W3_, K4, C5, W6_]
theorem vg_x4_1 {n : Nat} {a0 : TGraph} {i_4 : Nat} {F3 : List (Int × Rat)} {q3 : Rat} {r3 : Bool} (C1 : (i_4 : Int) < (a0.Units.length : Int)) (E2 : a0.Units[i_4]? = some (F3, q3)) (W3 : InI (a0.Inputs + (i_4 : Int))) (K4 : run (n + 1) 51 [formV (F3, q3), .lit (.int .i64 (a0.Inputs + (i_4 : Int)))] = some (.lit (.bool r3))) (C5 : r3 = false) :
    Leave 0 (exec Tryz.prog (tab (n + 2)) 0 57 (livesOf 25) big vg_C4) (livesOf 25 (outOf 4)) (vg_h4 a0 i_4) (.ret) (vg_o4a a0) := by
  have C1_ : i_4 < a0.Units.length := by omega
  obtain ⟨EL2, EG2⟩ := List.getElem?_eq_some_iff.1 E2
  have W3_ : IntKind.i64.wrap (a0.Inputs + (i_4 : Int)) = a0.Inputs + (i_4 : Int) := wr64 W3.1 W3.2
  simp only [formV] at K4
  unfold Leave
  simp +decide [vg_h4, loopsOf, Tryz.f25, vg_o4a, vg_C4, C1, C1_, EL2, EG2, E2, W3_, K4, C5]
theorem vg_x4_2 {n : Nat} {a0 : TGraph} {i_4 : Nat} (C1 : ¬ (i_4 : Int) < (a0.Units.length : Int)) :
    Leave 0 (exec Tryz.prog (tab (n + 2)) 0 57 (livesOf 25) big vg_C4) (livesOf 25 (outOf 4)) (vg_h4 a0 i_4) (.exit 0) (vg_o4b a0) := by
  have C1_ : ¬ i_4 < a0.Units.length := by omega
  unfold Leave
  simp +decide [vg_h4, loopsOf, Tryz.f25, vg_o4b, vg_C4, C1, C1_]
theorem vg_f1 {n : Nat} {a0 : TGraph} (C1 : a0.Inputs < 1) :
    run (n + 2) 25 [graphV a0] = some (.lit (.bool false)) := by
  unfold run fnP
  simp +decide [Tryz.f25, C1]
theorem vg_f2 {n : Nat} {a0 : TGraph} (C1 : ¬ a0.Inputs < 1) (C2 : 256 < a0.Inputs) :
    run (n + 2) 25 [graphV a0] = some (.lit (.bool false)) := by
  unfold run fnP
  simp +decide [Tryz.f25, C1, C2]
theorem vg_f3 {n : Nat} {a0 : TGraph} (C1 : ¬ a0.Inputs < 1) (C2 : ¬ 256 < a0.Inputs) (C3 : 1024 < (a0.Units.length : Int)) :
    run (n + 2) 25 [graphV a0] = some (.lit (.bool false)) := by
  have C3_ : 1024 < a0.Units.length := by omega
  unfold run fnP
  simp +decide [Tryz.f25, C1, C2, C3, C3_]
theorem vg_f4 {n : Nat} {a0 : TGraph} (C1 : ¬ a0.Inputs < 1) (C2 : ¬ 256 < a0.Inputs) (C3 : ¬ 1024 < (a0.Units.length : Int)) (C4 : (a0.Outputs.length : Int) < 1) :
    run (n + 2) 25 [graphV a0] = some (.lit (.bool false)) := by
  have C3_ : ¬ 1024 < a0.Units.length := by omega
  have C4_ : a0.Outputs.length < 1 := by omega
  unfold run fnP
  simp +decide [Tryz.f25, C1, C2, C3, C3_, C4, C4_]
theorem vg_f5 {n : Nat} {a0 : TGraph} (C1 : ¬ a0.Inputs < 1) (C2 : ¬ 256 < a0.Inputs) (C3 : ¬ 1024 < (a0.Units.length : Int)) (C4 : ¬ (a0.Outputs.length : Int) < 1) (C5 : 256 < (a0.Outputs.length : Int)) :
    run (n + 2) 25 [graphV a0] = some (.lit (.bool false)) := by
  have C3_ : ¬ 1024 < a0.Units.length := by omega
  have C4_ : ¬ a0.Outputs.length < 1 := by omega
  have C5_ : 256 < a0.Outputs.length := by omega
  unfold run fnP
  simp +decide [Tryz.f25, C1, C2, C3, C3_, C4, C4_, C5, C5_]
theorem vg_f6 {n : Nat} {a0 : TGraph} (C1 : ¬ a0.Inputs < 1) (C2 : ¬ 256 < a0.Inputs) (C3 : ¬ 1024 < (a0.Units.length : Int)) (C4 : ¬ (a0.Outputs.length : Int) < 1) (C5 : ¬ 256 < (a0.Outputs.length : Int)) (L6 : loopG Tryz.prog (tab (n + 2)) 0 57 (livesOf 25) 4 vg_C4 (vg_h4 a0 0) = some (.ret, vg_o4a a0)) :
    run (n + 2) 25 [graphV a0] = some (.lit (.bool false)) := by
  have C3_ : ¬ 1024 < a0.Units.length := by omega
  have C4_ : ¬ a0.Outputs.length < 1 := by omega
  have C5_ : ¬ 256 < a0.Outputs.length := by omega
  unfold run fnP
  simp +decide [Tryz.f25, C1, C2, C3, C3_, C4, C4_, C5, C5_]
  rw [loopX_G (C' := vg_C4) (e := (vg_h4 a0 0)) ?_ ?_, L6]
  rotate_left
  · kernel_rfl
  · simp +decide [vg_h4, C1, C2, C3, C3_, C4, C4_, C5, C5_]
  simp +decide [vg_o4a, C1, C2, C3, C3_, C4, C4_, C5, C5_]
theorem vg_f7 {n : Nat} {a0 : TGraph} {r4 : Bool} (C1 : ¬ a0.Inputs < 1) (C2 : ¬ 256 < a0.Inputs) (C3 : ¬ 1024 < (a0.Units.length : Int)) (C4 : ¬ (a0.Outputs.length : Int) < 1) (C5 : ¬ 256 < (a0.Outputs.length : Int)) (L6 : loopG Tryz.prog (tab (n + 2)) 0 57 (livesOf 25) 4 vg_C4 (vg_h4 a0 0) = some (.exit 0, vg_o4b a0)) (W7 : InI (a0.Inputs + (a0.Units.length : Int))) (K8 : run (n + 1) 91 [.sl 4 (a0.Outputs.map formC), .lit (.int .i64 (a0.Inputs + (a0.Units.length : Int)))] = some (.lit (.bool r4))) :
    run (n + 2) 25 [graphV a0] = some (.lit (.bool r4)) := by
  have C3_ : ¬ 1024 < a0.Units.length := by omega
  have C4_ : ¬ a0.Outputs.length < 1 := by omega
  have C5_ : ¬ 256 < a0.Outputs.length := by omega
  have W7_ : IntKind.i64.wrap (a0.Inputs + (a0.Units.length : Int)) = a0.Inputs + (a0.Units.length : Int) := wr64 W7.1 W7.2
  unfold run fnP
  simp +decide [Tryz.f25, C1, C2, C3, C3_, C4, C4_, C5, C5_, W7_, K8]
  rw [loopX_G (C' := vg_C4) (e := (vg_h4 a0 0)) ?_ ?_, L6]
  rotate_left
  · kernel_rfl
  · simp +decide [vg_h4, C1, C2, C3, C3_, C4, C4_, C5, C5_, W7_, K8]
  simp +decide [vg_o4b, C1, C2, C3, C3_, C4, C4_, C5, C5_, W7_, K8]
/-! relucertref15.Vars, level 3 -/
end Go.Proofs.YtlpmemelhlnfbaaGreatDoor
set_option linter.all false
set_option maxRecDepth 100000
set_option maxHeartbeats 6400000
namespace Go.Proofs.YtlpmemelhlnfbaaGreatDoor
open Go.RowKit

/-! relucertref15.Values, level 3 -/
noncomputable def vs_C5 : Code := (loopsOf (bodyOf Tryz.f35)).getD 0 .skip
noncomputable def vs_C9 : Code := (loopsOf (bodyOf Tryz.f35)).getD 1 .skip
def vs_h5 (a0 : TGraph) (a1 : List Rat) (out_5 : List Rat) (i_5 : Nat) : St :=
  ⟨[(1, .sl 3 (a1.map ratC)), (2, .ptr 0 0), (6, .own 1 out_5.length), (7, .lit (.int .i64 (i_5 : Int)))],
   [(0, some (.box 38 [.lit (.int .i64 (a0.Inputs)), .sl 4 (a0.Units.map formC), .sl 4 (a0.Outputs.map formC)] false)),
    (1, some (.row 27 3 (out_5.map ratC) 0))], 2⟩
def vs_h9 (a0 : TGraph) (out_9 : List Rat) (i_9 : Nat) (fz_9 : Nat) : St :=
  ⟨[(2, .ptr 0 0), (6, .own 1 out_9.length), (8, .lit (.int .i64 (i_9 : Int)))],
   [(0, some (.box 38 [.lit (.int .i64 (a0.Inputs)), .sl 4 (a0.Units.map formC), .sl 4 (a0.Outputs.map formC)] false)),
    (1, some (.row 27 3 (out_9.map ratC) fz_9))], 2⟩
def vs_o5a (a0 : TGraph) (out_5 : List Rat) : St :=
  ⟨[(2, .ptr 0 0), (6, .own 1 out_5.length)],
   [(0, some (.box 38 [.lit (.int .i64 (a0.Inputs)), .sl 4 (a0.Units.map formC), .sl 4 (a0.Outputs.map formC)] false)),
    (1, some (.row 27 3 (out_5.map ratC) 0))], 2⟩
def vs_o9a (out_9 : List Rat) (fz_9 : Nat) : St :=
  ⟨[(6, .own 0 out_9.length)],
   [(0, some (.row 27 3 (out_9.map ratC) fz_9))], 1⟩
theorem vs_r5_1 {n : Nat} {a0 : TGraph} {a1 : List Rat} {i_5 : Nat} {x3 : Rat} {out_5 : List Rat} (C1 : (i_5 : Int) < (a1.length : Int)) (E2 : a1[i_5]? = some x3) (B3a : H x3 ≤ 17179869184) (M4 : out_5.length + 1 ≤ 100000000) (W5 : InI ((i_5 : Int) + 1)) :
    Cont 0 (exec Tryz.prog (tab (n + 3)) 0 59 (livesOf 35) big vs_C5) (livesOf 35 5) (vs_h5 a0 a1 out_5 i_5) (vs_h5 a0 a1 (out_5 ++ [x3]) (i_5 + 1)) := by
  have C1_ : i_5 < a1.length := by omega
  obtain ⟨EL2, EG2⟩ := List.getElem?_eq_some_iff.1 E2
  have K3 := r_canon (p := x3) B3a
  have M4_ : ∀ b, b ≤ 10000 → roomy (out_5.length + 1) b = true := fun b hb => roomy_s M4 hb
  have W5_ : IntKind.i64.wrap ((i_5 : Int) + 1) = (i_5 : Int) + 1 := wr64 W5.1 W5.2
  unfold Cont
  simp +decide [vs_h5, loopsOf, Tryz.f35, vs_C5, C1, C1_, EL2, EG2, E2, K3, M4_, W5_]
theorem vs_x5_1 {n : Nat} {a0 : TGraph} {a1 : List Rat} {i_5 : Nat} {out_5 : List Rat} (C1 : ¬ (i_5 : Int) < (a1.length : Int)) :
    Leave 0 (exec Tryz.prog (tab (n + 3)) 0 59 (livesOf 35) big vs_C5) (livesOf 35 (outOf 5)) (vs_h5 a0 a1 out_5 i_5) (.exit 0) (vs_o5a a0 out_5) := by
  have C1_ : ¬ i_5 < a1.length := by omega
  unfold Leave
  simp +decide [vs_h5, loopsOf, Tryz.f35, vs_o5a, vs_C5, C1, C1_]
theorem vs_r9_1 {n : Nat} {a0 : TGraph} {i_9 : Nat} {F3 : List (Int × Rat)} {q3 : Rat} {out_9 : List Rat} {r8 : Rat} {r9 : Int} {r10 : Rat} {fz_9 : Nat} (C1 : (i_9 : Int) < (a0.Units.length : Int)) (E2 : a0.Units[i_9]? = some (F3, q3)) (K3 : run (n + 2) 99 [formV (F3, q3), .sl 3 (out_9.map ratC)] = some (.tup [ratV r8, .lit (.int .i64 r9)])) (K4 : run (n + 2) 100 [ratV r8, .agg [.lit (.bool false), .sl 1 [], .sl 1 []]] = some (ratV r10)) (M5 : out_9.length + 1 ≤ 100000000) (W6 : InI ((i_9 : Int) + 1)) :
    Cont 0 (exec Tryz.prog (tab (n + 3)) 0 59 (livesOf 35) big vs_C9) (livesOf 35 9) (vs_h9 a0 out_9 i_9 fz_9) (vs_h9 a0 (out_9 ++ [r10]) (i_9 + 1) out_9.length) := by
  have C1_ : i_9 < a0.Units.length := by omega
  obtain ⟨EL2, EG2⟩ := List.getElem?_eq_some_iff.1 E2
  simp only [ratV, formV] at K3
  simp only [ratV] at K4
  have M5_ : ∀ b, b ≤ 10000 → roomy (out_9.length + 1) b = true := fun b hb => roomy_s M5 hb
  have W6_ : IntKind.i64.wrap ((i_9 : Int) + 1) = (i_9 : Int) + 1 := wr64 W6.1 W6.2
  unfold Cont
  simp +decide [vs_h9, loopsOf, Tryz.f35, vs_C9, C1, C1_, EL2, EG2, E2, K3, K4, M5_, W6_]
theorem vs_x9_1 {n : Nat} {a0 : TGraph} {i_9 : Nat} {out_9 : List Rat} {fz_9 : Nat} (C1 : ¬ (i_9 : Int) < (a0.Units.length : Int)) :
    Leave 0 (exec Tryz.prog (tab (n + 3)) 0 59 (livesOf 35) big vs_C9) (livesOf 35 (outOf 9)) (vs_h9 a0 out_9 i_9 fz_9) (.exit 2) (vs_o9a out_9 fz_9) := by
  have C1_ : ¬ i_9 < a0.Units.length := by omega
  unfold Leave
  simp +decide [vs_h9, loopsOf, Tryz.f35, vs_o9a, vs_C9, C1, C1_]
theorem vs_f3 {n : Nat} {a0 : TGraph} {a1 : List Rat} {r : Bool} {out_5 : List Rat} {out_9 : List Rat} {fz_9 : Nat} (K1 : run (n + 2) 25 [graphV a0] = some (.lit (.bool r))) (C2 : r = true) (C3 : (a1.length : Int) = a0.Inputs) (L4 : loopG Tryz.prog (tab (n + 3)) 0 59 (livesOf 35) 5 vs_C5 (vs_h5 a0 a1 [] 0) = some (.exit 0, vs_o5a a0 out_5)) (L5 : loopG Tryz.prog (tab (n + 3)) 0 59 (livesOf 35) 9 vs_C9 (vs_h9 a0 out_5 0 0) = some (.exit 2, vs_o9a out_9 fz_9)) :
    run (n + 3) 35 [graphV a0, .sl 3 (a1.map ratC)] = some (.tup [.sl 3 (out_9.map ratC), .lit (.int .i64 0)]) := by
  simp only [graphV] at K1
  have C3_ : ((a1.length : Int) == a0.Inputs) = true := by rw [C3]; simp
  have C3_n : ((a1.length : Int) != a0.Inputs) = false := by rw [C3]; simp
  unfold run fnP
  simp +decide [Tryz.f35, K1, C2, C3_, C3_n]
  rw [loopX_G (C' := vs_C5) (e := (vs_h5 a0 a1 [] 0)) ?_ ?_, L4]
  rotate_left
  · kernel_rfl
  · simp +decide [vs_h5, K1, C2, C3_, C3_n]
  simp +decide [vs_o5a, K1, C2, C3_, C3_n]
  rw [loopX_G (C' := vs_C9) (e := (vs_h9 a0 out_5 0 0)) ?_ ?_, L5]
  rotate_left
  · kernel_rfl
  · simp +decide [vs_h9, K1, C2, C3_, C3_n]
  simp +decide [vs_o9a, K1, C2, C3_, C3_n]
/-! relucertref15.forms, level 4 -/
/-! relucertref15.Pre, level 5 -/
end Go.Proofs.YtlpmemelhlnfbaaGreatDoor
set_option linter.all false
set_option maxRecDepth 100000
set_option maxHeartbeats 6400000
namespace Go.Proofs.YtlpmemelhlnfbaaGreatDoor
open Go.RowKit

/-! relucertref15.Outputs, level 5 -/
/-! relucertref15.Small, level 5 -/
/-! relucertref15.Point, level 2 -/
end Go.Proofs.YtlpmemelhlnfbaaGreatDoor
