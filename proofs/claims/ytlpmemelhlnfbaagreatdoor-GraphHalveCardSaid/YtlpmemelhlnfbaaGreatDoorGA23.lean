import Derived.Test.YtlpmemelhlnfbaaGreatDoorGA16
import Derived.Test.YtlpmemelhlnfbaaGreatDoorGA22
import Derived.Test.YtlpmemelhlnfbaaGreatDoorGA21
set_option linter.all false
set_option maxRecDepth 100000
set_option maxHeartbeats 6400000
namespace Go.Proofs.YtlpmemelhlnfbaaGreatDoor
open Go.RowKit
noncomputable def lva_C2 : Code := (loopsOf (bodyOf Tryz.f60)).getD 0 .skip
def lva_h2 (a0 : Form) (a1 : Int) (i_2 : Nat) : St :=
  ⟨[(1, .lit (.int .i64 a1)), (2, .ptr 0 0), (8, .sl 4 (a0.1.map termC)), (9, .lit (.int .i64 (a0.1.length : Int))), (10, .lit (.int .i64 (i_2 : Int)))],
   [(0, some (.box 29 [.sl 4 (a0.1.map termC), .lit (.bool (rawQ a0.2).s), natA (rawQ a0.2).l1, natA (rawQ a0.2).l2] false))], 1⟩
def lva_o2a (a0 : Form) : St :=
  ⟨[(2, .ptr 0 0), (4, .lit (.bool false))],
   [(0, some (.box 29 [.sl 4 (a0.1.map termC), .lit (.bool (rawQ a0.2).s), natA (rawQ a0.2).l1, natA (rawQ a0.2).l2] false))], 1⟩
def lva_o2b (a0 : Form) : St :=
  ⟨[(2, .ptr 0 0), (4, .any)],
   [(0, some (.box 29 [.sl 4 (a0.1.map termC), .lit (.bool (rawQ a0.2).s), natA (rawQ a0.2).l1, natA (rawQ a0.2).l2] false))], 1⟩
section
variable {a1 : Int} {v4 : Int} {i_2 : Nat} {v5 : Int} {q4 : Rat} {a0 : Form} {q5 : Rat} {n : Nat}
theorem lva_r2_1 (C1 : (i_2 : Int) < (a0.1.length : Int)) (E2 : a0.1[i_2]? = some (v4, q4)) (C3 : ¬ v4 < 0) (C4 : ¬ a1 ≤ v4) (C5 : 0 < (i_2 : Int)) (W6 : InI ((i_2 : Int) - 1)) (E7 : a0.1[i_2 - 1]? = some (v5, q5)) (Z7 : 1 ≤ i_2) (C8 : ¬ v4 ≤ v5) (B9a : H q4 ≤ 17179869184) (C10 : ¬ sgR q4 = 0) (W12 : InI ((i_2 : Int) + 1)) :
    Cont 0 (exec Tryz.prog (tab n) 0 56 (livesOf 60) big lva_C2) (livesOf 60 2) (lva_h2 a0 a1 i_2) (lva_h2 a0 a1 (i_2 + 1)) := by
  have C1_ : i_2 < a0.1.length := by omega
  obtain ⟨EL2, EG2⟩ := List.getElem?_eq_some_iff.1 E2
  have C5_ : 0 < i_2 := by omega
  have C5_z : (i_2 : Int) ≠ 0 := by omega
  have C5_e : ((i_2 : Int) == 0) = false := by simpa using C5_z
  have C5_g : ((i_2 : Int) != 0) = true := by simpa using C5_z
  have W6_ : IntKind.i64.wrap ((i_2 : Int) - 1) = (i_2 : Int) - 1 := wr64 W6.1 W6.2
  obtain ⟨EL7, EG7⟩ := List.getElem?_eq_some_iff.1 E7
  have Z7_0 : (1 : Int) ≤ (i_2 : Int) := by omega
  have Z7_1 : 0 ≤ (i_2 : Int) - 1 := by omega
  have K9 := r_sign (p := q4) B9a
  have C10_ : (sgR q4 == 0) = false := by simpa using C10
  have C10_n : (sgR q4 != 0) = true := by simpa using C10
  have K11 := r_valid (p := q4) B9a
  have W12_ : IntKind.i64.wrap ((i_2 : Int) + 1) = (i_2 : Int) + 1 := wr64 W12.1 W12.2
  unfold Cont
  simp +decide [lva_h2, loopsOf, Tryz.f60, lva_C2, C1, C1_, EL2, EG2, E2, C3, C4, C5, C5_, C5_e, C5_g, W6_, EL7, EG7, E7, Z7, Z7_0, Z7_1, C8, K9, C10_, C10_n, K11, W12_]
theorem lva_r2_2 (C1 : (i_2 : Int) < (a0.1.length : Int)) (E2 : a0.1[i_2]? = some (v4, q4)) (C3 : ¬ v4 < 0) (C4 : ¬ a1 ≤ v4) (C5 : ¬ 0 < (i_2 : Int)) (B6a : H q4 ≤ 17179869184) (C7 : ¬ sgR q4 = 0) (W9 : InI ((i_2 : Int) + 1)) :
    Cont 0 (exec Tryz.prog (tab n) 0 56 (livesOf 60) big lva_C2) (livesOf 60 2) (lva_h2 a0 a1 i_2) (lva_h2 a0 a1 (i_2 + 1)) := by
  have C1_ : i_2 < a0.1.length := by omega
  obtain ⟨EL2, EG2⟩ := List.getElem?_eq_some_iff.1 E2
  have C5_ : ¬ 0 < i_2 := by omega
  have C5_z : (i_2 : Int) = 0 := by omega
  have C5_e : ((i_2 : Int) == 0) = true := by rw [C5_z]; simp
  have C5_g : ((i_2 : Int) != 0) = false := by rw [C5_z]; simp
  have K6 := r_sign (p := q4) B6a
  have C7_ : (sgR q4 == 0) = false := by simpa using C7
  have C7_n : (sgR q4 != 0) = true := by simpa using C7
  have K8 := r_valid (p := q4) B6a
  have W9_ : IntKind.i64.wrap ((i_2 : Int) + 1) = (i_2 : Int) + 1 := wr64 W9.1 W9.2
  unfold Cont
  simp +decide [lva_h2, loopsOf, Tryz.f60, lva_C2, C1, C1_, EL2, EG2, E2, C3, C4, C5, C5_, C5_e, C5_g, K6, C7_, C7_n, K8, W9_]
theorem lva_x2_1 (C1 : (i_2 : Int) < (a0.1.length : Int)) (E2 : a0.1[i_2]? = some (v4, q4)) (C3 : v4 < 0) :
    Leave 0 (exec Tryz.prog (tab n) 0 56 (livesOf 60) big lva_C2) (livesOf 60 (outOf 2)) (lva_h2 a0 a1 i_2) (.ret) (lva_o2a a0) := by
  have C1_ : i_2 < a0.1.length := by omega
  obtain ⟨EL2, EG2⟩ := List.getElem?_eq_some_iff.1 E2
  unfold Leave
  simp +decide [lva_h2, loopsOf, Tryz.f60, lva_o2a, lva_C2, C1, C1_, EL2, EG2, E2, C3]
theorem lva_x2_2 (C1 : (i_2 : Int) < (a0.1.length : Int)) (E2 : a0.1[i_2]? = some (v4, q4)) (C3 : ¬ v4 < 0) (C4 : a1 ≤ v4) :
    Leave 0 (exec Tryz.prog (tab n) 0 56 (livesOf 60) big lva_C2) (livesOf 60 (outOf 2)) (lva_h2 a0 a1 i_2) (.ret) (lva_o2a a0) := by
  have C1_ : i_2 < a0.1.length := by omega
  obtain ⟨EL2, EG2⟩ := List.getElem?_eq_some_iff.1 E2
  unfold Leave
  simp +decide [lva_h2, loopsOf, Tryz.f60, lva_o2a, lva_C2, C1, C1_, EL2, EG2, E2, C3, C4]
theorem lva_x2_3 (C1 : (i_2 : Int) < (a0.1.length : Int)) (E2 : a0.1[i_2]? = some (v4, q4)) (C3 : ¬ v4 < 0) (C4 : ¬ a1 ≤ v4) (C5 : 0 < (i_2 : Int)) (W6 : InI ((i_2 : Int) - 1)) (E7 : a0.1[i_2 - 1]? = some (v5, q5)) (Z7 : 1 ≤ i_2) (C8 : v4 ≤ v5) :
    Leave 0 (exec Tryz.prog (tab n) 0 56 (livesOf 60) big lva_C2) (livesOf 60 (outOf 2)) (lva_h2 a0 a1 i_2) (.ret) (lva_o2a a0) := by
  have C1_ : i_2 < a0.1.length := by omega
  obtain ⟨EL2, EG2⟩ := List.getElem?_eq_some_iff.1 E2
  have C5_ : 0 < i_2 := by omega
  have C5_z : (i_2 : Int) ≠ 0 := by omega
  have C5_e : ((i_2 : Int) == 0) = false := by simpa using C5_z
  have C5_g : ((i_2 : Int) != 0) = true := by simpa using C5_z
  have W6_ : IntKind.i64.wrap ((i_2 : Int) - 1) = (i_2 : Int) - 1 := wr64 W6.1 W6.2
  obtain ⟨EL7, EG7⟩ := List.getElem?_eq_some_iff.1 E7
  have Z7_0 : (1 : Int) ≤ (i_2 : Int) := by omega
  have Z7_1 : 0 ≤ (i_2 : Int) - 1 := by omega
  unfold Leave
  simp +decide [lva_h2, loopsOf, Tryz.f60, lva_o2a, lva_C2, C1, C1_, EL2, EG2, E2, C3, C4, C5, C5_, C5_e, C5_g, W6_, EL7, EG7, E7, Z7, Z7_0, Z7_1, C8]
theorem lva_x2_4 (C1 : (i_2 : Int) < (a0.1.length : Int)) (E2 : a0.1[i_2]? = some (v4, q4)) (C3 : ¬ v4 < 0) (C4 : ¬ a1 ≤ v4) (C5 : 0 < (i_2 : Int)) (W6 : InI ((i_2 : Int) - 1)) (E7 : a0.1[i_2 - 1]? = some (v5, q5)) (Z7 : 1 ≤ i_2) (C8 : ¬ v4 ≤ v5) (B9a : H q4 ≤ 17179869184) (C10 : sgR q4 = 0) :
    Leave 0 (exec Tryz.prog (tab n) 0 56 (livesOf 60) big lva_C2) (livesOf 60 (outOf 2)) (lva_h2 a0 a1 i_2) (.ret) (lva_o2a a0) := by
  have C1_ : i_2 < a0.1.length := by omega
  obtain ⟨EL2, EG2⟩ := List.getElem?_eq_some_iff.1 E2
  have C5_ : 0 < i_2 := by omega
  have C5_z : (i_2 : Int) ≠ 0 := by omega
  have C5_e : ((i_2 : Int) == 0) = false := by simpa using C5_z
  have C5_g : ((i_2 : Int) != 0) = true := by simpa using C5_z
  have W6_ : IntKind.i64.wrap ((i_2 : Int) - 1) = (i_2 : Int) - 1 := wr64 W6.1 W6.2
  obtain ⟨EL7, EG7⟩ := List.getElem?_eq_some_iff.1 E7
  have Z7_0 : (1 : Int) ≤ (i_2 : Int) := by omega
  have Z7_1 : 0 ≤ (i_2 : Int) - 1 := by omega
  have K9 := r_sign (p := q4) B9a
  have C10_ : (sgR q4 == 0) = true := by rw [C10]; simp
  have C10_n : (sgR q4 != 0) = false := by rw [C10]; simp
  unfold Leave
  simp +decide [lva_h2, loopsOf, Tryz.f60, lva_o2a, lva_C2, C1, C1_, EL2, EG2, E2, C3, C4, C5, C5_, C5_e, C5_g, W6_, EL7, EG7, E7, Z7, Z7_0, Z7_1, C8, K9, C10_, C10_n]
theorem lva_x2_5 (C1 : (i_2 : Int) < (a0.1.length : Int)) (E2 : a0.1[i_2]? = some (v4, q4)) (C3 : ¬ v4 < 0) (C4 : ¬ a1 ≤ v4) (C5 : ¬ 0 < (i_2 : Int)) (B6a : H q4 ≤ 17179869184) (C7 : sgR q4 = 0) :
    Leave 0 (exec Tryz.prog (tab n) 0 56 (livesOf 60) big lva_C2) (livesOf 60 (outOf 2)) (lva_h2 a0 a1 i_2) (.ret) (lva_o2a a0) := by
  have C1_ : i_2 < a0.1.length := by omega
  obtain ⟨EL2, EG2⟩ := List.getElem?_eq_some_iff.1 E2
  have C5_ : ¬ 0 < i_2 := by omega
  have C5_z : (i_2 : Int) = 0 := by omega
  have C5_e : ((i_2 : Int) == 0) = true := by rw [C5_z]; simp
  have C5_g : ((i_2 : Int) != 0) = false := by rw [C5_z]; simp
  have K6 := r_sign (p := q4) B6a
  have C7_ : (sgR q4 == 0) = true := by rw [C7]; simp
  have C7_n : (sgR q4 != 0) = false := by rw [C7]; simp
  unfold Leave
  simp +decide [lva_h2, loopsOf, Tryz.f60, lva_o2a, lva_C2, C1, C1_, EL2, EG2, E2, C3, C4, C5, C5_, C5_e, C5_g, K6, C7_, C7_n]
theorem lva_x2_6 (C1 : ¬ (i_2 : Int) < (a0.1.length : Int)) :
    Leave 0 (exec Tryz.prog (tab n) 0 56 (livesOf 60) big lva_C2) (livesOf 60 (outOf 2)) (lva_h2 a0 a1 i_2) (.exit 0) (lva_o2b a0) := by
  have C1_ : ¬ i_2 < a0.1.length := by omega
  unfold Leave
  simp +decide [lva_h2, loopsOf, Tryz.f60, lva_o2b, lva_C2, C1, C1_]
theorem lva_f1 (L1 : loopG Tryz.prog (tab n) 0 56 (livesOf 60) 2 lva_C2 (lva_h2 a0 a1 0) = some (.ret, lva_o2a a0)) :
    run n 60 [formV a0, .lit (.int .i64 a1)] = some (.lit (.bool false)) := by
  unfold run fnP
  simp +decide [Tryz.f60]
  rw [loopX_G (C' := lva_C2) (e := (lva_h2 a0 a1 0)) ?_ ?_, L1]
  rotate_left
  · kernel_rfl
  · simp +decide [lva_h2]
  simp +decide [lva_o2a]
theorem lva_f2 (L1 : loopG Tryz.prog (tab n) 0 56 (livesOf 60) 2 lva_C2 (lva_h2 a0 a1 0) = some (.exit 0, lva_o2b a0)) (B2a : H a0.2 ≤ 17179869184) :
    run n 60 [formV a0, .lit (.int .i64 a1)] = some (.lit (.bool true)) := by
  have K2 := r_valid (p := a0.2) B2a
  unfold run fnP
  simp +decide [Tryz.f60, K2]
  rw [loopX_G (C' := lva_C2) (e := (lva_h2 a0 a1 0)) ?_ ?_, L1]
  rotate_left
  · kernel_rfl
  · simp +decide [lva_h2, K2]
  simp +decide [lva_o2b, K2]
end
theorem gvc_f1 {n : Nat} {a0 : Form} {c0 : Int} {r : Bool} (K1 : run n 60 [formV a0, .lit (.int .i64 c0)] = some (.lit (.bool r))) :
    run (n + 1) 171 [formV a0, .mem [.lit (.int .i64 c0)]] = some (.lit (.bool (!r))) := by
  simp only [formV] at K1
  unfold run fnP
  simp +decide [Tryz.f171, K1]
noncomputable def ifg_C2 : Code := (loopsOf (bodyOf Tryz.f207)).getD 0 .skip
def ifg_h2 (a0 : List Form) (c0 : Int) (i_2 : Nat) : St :=
  ⟨[(0, .sl 4 (a0.map formC)), (1, .clo 171 [.mem [.lit (.int .i64 c0)]]), (7, .lit (.int .i64 (a0.length : Int))), (8, .lit (.int .i64 (i_2 : Int)))],
   [], 0⟩
def ifg_o2a (i_2 : Nat) : St :=
  ⟨[(4, .lit (.int .i64 (i_2 : Int)))],
   [], 0⟩
def ifg_o2b  : St :=
  ⟨[(4, .any)],
   [], 0⟩
section
variable {r3 : Bool} {i_2 : Nat} {q3 : Rat} {a0 : List Form} {F3 : List (Int × Rat)} {c0 : Int} {n : Nat}
theorem ifg_r2_1 (C1 : (i_2 : Int) < (a0.length : Int)) (E2 : a0[i_2]? = some (F3, q3)) (K3 : run (n + 1) 171 [formV (F3, q3), .mem [.lit (.int .i64 c0)]] = some (.lit (.bool r3))) (C4 : r3 = false) (W5 : InI ((i_2 : Int) + 1)) :
    Cont 0 (exec Tryz.prog (tab (n + 2)) 0 19 (livesOf 207) big ifg_C2) (livesOf 207 2) (ifg_h2 a0 c0 i_2) (ifg_h2 a0 c0 (i_2 + 1)) := by
  have C1_ : i_2 < a0.length := by omega
  obtain ⟨EL2, EG2⟩ := List.getElem?_eq_some_iff.1 E2
  simp only [formV] at K3
  have W5_ : IntKind.i64.wrap ((i_2 : Int) + 1) = (i_2 : Int) + 1 := wr64 W5.1 W5.2
  unfold Cont
  simp +decide [ifg_h2, loopsOf, Tryz.f207, ifg_C2, C1, C1_, EL2, EG2, E2, K3, C4, W5_]
theorem ifg_x2_1 (C1 : (i_2 : Int) < (a0.length : Int)) (E2 : a0[i_2]? = some (F3, q3)) (K3 : run (n + 1) 171 [formV (F3, q3), .mem [.lit (.int .i64 c0)]] = some (.lit (.bool r3))) (C4 : r3 = true) :
    Leave 0 (exec Tryz.prog (tab (n + 2)) 0 19 (livesOf 207) big ifg_C2) (livesOf 207 (outOf 2)) (ifg_h2 a0 c0 i_2) (.ret) (ifg_o2a i_2) := by
  have C1_ : i_2 < a0.length := by omega
  obtain ⟨EL2, EG2⟩ := List.getElem?_eq_some_iff.1 E2
  simp only [formV] at K3
  unfold Leave
  simp +decide [ifg_h2, loopsOf, Tryz.f207, ifg_o2a, ifg_C2, C1, C1_, EL2, EG2, E2, K3, C4]
theorem ifg_x2_2 (C1 : ¬ (i_2 : Int) < (a0.length : Int)) :
    Leave 0 (exec Tryz.prog (tab (n + 2)) 0 19 (livesOf 207) big ifg_C2) (livesOf 207 (outOf 2)) (ifg_h2 a0 c0 i_2) (.exit 0) (ifg_o2b ) := by
  have C1_ : ¬ i_2 < a0.length := by omega
  unfold Leave
  simp +decide [ifg_h2, loopsOf, Tryz.f207, ifg_o2b, ifg_C2, C1, C1_]
theorem ifg_f1 (L1 : loopG Tryz.prog (tab (n + 2)) 0 19 (livesOf 207) 2 ifg_C2 (ifg_h2 a0 c0 0) = some (.ret, ifg_o2a i_2)) :
    run (n + 2) 207 [.sl 4 (a0.map formC), .clo 171 [.mem [.lit (.int .i64 c0)]]] = some (.lit (.int .i64 (i_2 : Int))) := by
  unfold run fnP
  simp +decide [Tryz.f207]
  rw [loopX_G (C' := ifg_C2) (e := (ifg_h2 a0 c0 0)) ?_ ?_, L1]
  rotate_left
  · kernel_rfl
  · simp +decide [ifg_h2]
  simp +decide [ifg_o2a]
theorem ifg_f2 (L1 : loopG Tryz.prog (tab (n + 2)) 0 19 (livesOf 207) 2 ifg_C2 (ifg_h2 a0 c0 0) = some (.exit 0, ifg_o2b )) :
    run (n + 2) 207 [.sl 4 (a0.map formC), .clo 171 [.mem [.lit (.int .i64 c0)]]] = some (.lit (.int .i64 (-1))) := by
  unfold run fnP
  simp +decide [Tryz.f207]
  rw [loopX_G (C' := ifg_C2) (e := (ifg_h2 a0 c0 0)) ?_ ?_, L1]
  rotate_left
  · kernel_rfl
  · simp +decide [ifg_h2]
  simp +decide [ifg_o2b]
end
theorem cfg_f1 {n : Nat} {a0 : List Form} {c0 : Int} {r : Int} (K1 : run (n + 2) 207 [.sl 4 (a0.map formC), .clo 171 [.mem [.lit (.int .i64 c0)]]] = some (.lit (.int .i64 r))) :
    run (n + 3) 170 [.sl 4 (a0.map formC), .clo 171 [.mem [.lit (.int .i64 c0)]]] = some (.lit (.bool (decide (0 ≤ r)))) := by
  unfold run fnP
  simp +decide [Tryz.f170, K1]
theorem gva_f1 {n : Nat} {a0 : List Form} {a1 : Int} {r : Bool} (K1 : run (n + 3) 170 [.sl 4 (a0.map formC), .clo 171 [.mem [.lit (.int .i64 a1)]]] = some (.lit (.bool r))) :
    run (n + 4) 104 [.sl 4 (a0.map formC), .lit (.int .i64 a1)] = some (.lit (.bool (!r))) := by
  unfold run fnP
  simp +decide [Tryz.f104, K1]
noncomputable def gV_C4 : Code := (loopsOf (bodyOf Tryz.f41)).getD 0 .skip
def gV_h4 (a0 : TGraph) (i_4 : Nat) : St :=
  ⟨[(1, .ptr 0 0), (32, .sl 4 (a0.Units.map formC)), (33, .lit (.int .i64 (a0.Units.length : Int))), (34, .lit (.int .i64 (i_4 : Int)))],
   [(0, some (.box 38 [.lit (.int .i64 (a0.Inputs)), .sl 4 (a0.Units.map formC), .sl 4 (a0.Outputs.map formC)] false))], 1⟩
def gV_o4a (a0 : TGraph) : St :=
  ⟨[(1, .ptr 0 0), (2, .lit (.bool false))],
   [(0, some (.box 38 [.lit (.int .i64 (a0.Inputs)), .sl 4 (a0.Units.map formC), .sl 4 (a0.Outputs.map formC)] false))], 1⟩
def gV_o4b (a0 : TGraph) : St :=
  ⟨[(1, .ptr 0 0), (2, .any)],
   [(0, some (.box 38 [.lit (.int .i64 (a0.Inputs)), .sl 4 (a0.Units.map formC), .sl 4 (a0.Outputs.map formC)] false))], 1⟩
section
variable {r3 : Bool} {q3 : Rat} {i_4 : Nat} {a0 : TGraph} {F3 : List (Int × Rat)} {n : Nat} {r4 : Bool}
theorem gV_r4_1 (C1 : (i_4 : Int) < (a0.Units.length : Int)) (E2 : a0.Units[i_4]? = some (F3, q3)) (W3 : InI (a0.Inputs + (i_4 : Int))) (K4 : run (n + 4) 60 [formV (F3, q3), .lit (.int .i64 (a0.Inputs + (i_4 : Int)))] = some (.lit (.bool r3))) (C5 : r3 = true) (W6 : InI ((i_4 : Int) + 1)) :
    Cont 0 (exec Tryz.prog (tab (n + 5)) 0 56 (livesOf 41) big gV_C4) (livesOf 41 4) (gV_h4 a0 i_4) (gV_h4 a0 (i_4 + 1)) := by
  have C1_ : i_4 < a0.Units.length := by omega
  obtain ⟨EL2, EG2⟩ := List.getElem?_eq_some_iff.1 E2
  have W3_ : IntKind.i64.wrap (a0.Inputs + (i_4 : Int)) = a0.Inputs + (i_4 : Int) := wr64 W3.1 W3.2
  simp only [formV] at K4
  have W6_ : IntKind.i64.wrap ((i_4 : Int) + 1) = (i_4 : Int) + 1 := wr64 W6.1 W6.2
  unfold Cont
  simp +decide [gV_h4, loopsOf, Tryz.f41, gV_C4, C1, C1_, EL2, EG2, E2, W3_, K4, C5, W6_]
theorem gV_x4_1 (C1 : (i_4 : Int) < (a0.Units.length : Int)) (E2 : a0.Units[i_4]? = some (F3, q3)) (W3 : InI (a0.Inputs + (i_4 : Int))) (K4 : run (n + 4) 60 [formV (F3, q3), .lit (.int .i64 (a0.Inputs + (i_4 : Int)))] = some (.lit (.bool r3))) (C5 : r3 = false) :
    Leave 0 (exec Tryz.prog (tab (n + 5)) 0 56 (livesOf 41) big gV_C4) (livesOf 41 (outOf 4)) (gV_h4 a0 i_4) (.ret) (gV_o4a a0) := by
  have C1_ : i_4 < a0.Units.length := by omega
  obtain ⟨EL2, EG2⟩ := List.getElem?_eq_some_iff.1 E2
  have W3_ : IntKind.i64.wrap (a0.Inputs + (i_4 : Int)) = a0.Inputs + (i_4 : Int) := wr64 W3.1 W3.2
  simp only [formV] at K4
  unfold Leave
  simp +decide [gV_h4, loopsOf, Tryz.f41, gV_o4a, gV_C4, C1, C1_, EL2, EG2, E2, W3_, K4, C5]
theorem gV_x4_2 (C1 : ¬ (i_4 : Int) < (a0.Units.length : Int)) :
    Leave 0 (exec Tryz.prog (tab (n + 5)) 0 56 (livesOf 41) big gV_C4) (livesOf 41 (outOf 4)) (gV_h4 a0 i_4) (.exit 0) (gV_o4b a0) := by
  have C1_ : ¬ i_4 < a0.Units.length := by omega
  unfold Leave
  simp +decide [gV_h4, loopsOf, Tryz.f41, gV_o4b, gV_C4, C1, C1_]
theorem gV_f1 (C1 : a0.Inputs < 1) :
    run (n + 5) 41 [graphV a0] = some (.lit (.bool false)) := by
  unfold run fnP
  simp +decide [Tryz.f41, C1]
theorem gV_f2 (C1 : ¬ a0.Inputs < 1) (C2 : 256 < a0.Inputs) :
    run (n + 5) 41 [graphV a0] = some (.lit (.bool false)) := by
  unfold run fnP
  simp +decide [Tryz.f41, C1, C2]
theorem gV_f3 (C1 : ¬ a0.Inputs < 1) (C2 : ¬ 256 < a0.Inputs) (C3 : 1024 < (a0.Units.length : Int)) :
    run (n + 5) 41 [graphV a0] = some (.lit (.bool false)) := by
  have C3_ : 1024 < a0.Units.length := by omega
  unfold run fnP
  simp +decide [Tryz.f41, C1, C2, C3, C3_]
theorem gV_f4 (C1 : ¬ a0.Inputs < 1) (C2 : ¬ 256 < a0.Inputs) (C3 : ¬ 1024 < (a0.Units.length : Int)) (C4 : (a0.Outputs.length : Int) < 1) :
    run (n + 5) 41 [graphV a0] = some (.lit (.bool false)) := by
  have C3_ : ¬ 1024 < a0.Units.length := by omega
  have C4_ : a0.Outputs.length < 1 := by omega
  unfold run fnP
  simp +decide [Tryz.f41, C1, C2, C3, C3_, C4, C4_]
theorem gV_f5 (C1 : ¬ a0.Inputs < 1) (C2 : ¬ 256 < a0.Inputs) (C3 : ¬ 1024 < (a0.Units.length : Int)) (C4 : ¬ (a0.Outputs.length : Int) < 1) (C5 : 256 < (a0.Outputs.length : Int)) :
    run (n + 5) 41 [graphV a0] = some (.lit (.bool false)) := by
  have C3_ : ¬ 1024 < a0.Units.length := by omega
  have C4_ : ¬ a0.Outputs.length < 1 := by omega
  have C5_ : 256 < a0.Outputs.length := by omega
  unfold run fnP
  simp +decide [Tryz.f41, C1, C2, C3, C3_, C4, C4_, C5, C5_]
theorem gV_f6 (C1 : ¬ a0.Inputs < 1) (C2 : ¬ 256 < a0.Inputs) (C3 : ¬ 1024 < (a0.Units.length : Int)) (C4 : ¬ (a0.Outputs.length : Int) < 1) (C5 : ¬ 256 < (a0.Outputs.length : Int)) (L6 : loopG Tryz.prog (tab (n + 5)) 0 56 (livesOf 41) 4 gV_C4 (gV_h4 a0 0) = some (.ret, gV_o4a a0)) :
    run (n + 5) 41 [graphV a0] = some (.lit (.bool false)) := by
  have C3_ : ¬ 1024 < a0.Units.length := by omega
  have C4_ : ¬ a0.Outputs.length < 1 := by omega
  have C5_ : ¬ 256 < a0.Outputs.length := by omega
  unfold run fnP
  simp +decide [Tryz.f41, C1, C2, C3, C3_, C4, C4_, C5, C5_]
  rw [loopX_G (C' := gV_C4) (e := (gV_h4 a0 0)) ?_ ?_, L6]
  rotate_left
  · kernel_rfl
  · simp +decide [gV_h4, C1, C2, C3, C3_, C4, C4_, C5, C5_]
  simp +decide [gV_o4a, C1, C2, C3, C3_, C4, C4_, C5, C5_]
theorem gV_f7 (C1 : ¬ a0.Inputs < 1) (C2 : ¬ 256 < a0.Inputs) (C3 : ¬ 1024 < (a0.Units.length : Int)) (C4 : ¬ (a0.Outputs.length : Int) < 1) (C5 : ¬ 256 < (a0.Outputs.length : Int)) (L6 : loopG Tryz.prog (tab (n + 5)) 0 56 (livesOf 41) 4 gV_C4 (gV_h4 a0 0) = some (.exit 0, gV_o4b a0)) (W7 : InI (a0.Inputs + (a0.Units.length : Int))) (K8 : run (n + 4) 104 [.sl 4 (a0.Outputs.map formC), .lit (.int .i64 (a0.Inputs + (a0.Units.length : Int)))] = some (.lit (.bool r4))) :
    run (n + 5) 41 [graphV a0] = some (.lit (.bool r4)) := by
  have C3_ : ¬ 1024 < a0.Units.length := by omega
  have C4_ : ¬ a0.Outputs.length < 1 := by omega
  have C5_ : ¬ 256 < a0.Outputs.length := by omega
  have W7_ : IntKind.i64.wrap (a0.Inputs + (a0.Units.length : Int)) = a0.Inputs + (a0.Units.length : Int) := wr64 W7.1 W7.2
  unfold run fnP
  simp +decide [Tryz.f41, C1, C2, C3, C3_, C4, C4_, C5, C5_, W7_, K8]
  rw [loopX_G (C' := gV_C4) (e := (gV_h4 a0 0)) ?_ ?_, L6]
  rotate_left
  · kernel_rfl
  · simp +decide [gV_h4, C1, C2, C3, C3_, C4, C4_, C5, C5_, W7_, K8]
  simp +decide [gV_o4b, C1, C2, C3, C3_, C4, C4_, C5, C5_, W7_, K8]
end
end Go.Proofs.YtlpmemelhlnfbaaGreatDoor
set_option linter.all false
set_option maxRecDepth 100000
set_option maxHeartbeats 6400000
namespace Go.Proofs.YtlpmemelhlnfbaaGreatDoor
open Go.RowKit
attribute [local irreducible] run runL loopG exec
theorem lvalid_c {n : Nat} {f : Form} {vars : Int} (hB : BdF 17179869184 f) : run n 60 [formV f, .lit (.int .i64 vars)] = some (.lit (.bool (tv (OkFm f vars)))) := by
  have hl := hB.l
  have L := loopG_all (O := tab n) (P := Tryz.prog) (m := 0) (N := 56) (lives := livesOf 60) (r := 2) (C := lva_C2) (M := f.1.length) (enc := lva_h2 f vars) (p := fun i => tv (OkTm f.1 vars i)) (exN := .exit 0) (exE := .ret) (out := lva_o2b f) (outE := lva_o2a f) (by omega) (by simp) (by simp)
    (fun i hi hI => by
      have hx : f.1[i]? = some f.1[i] := List.getElem?_eq_getElem hi
      generalize f.1[i] = t at hx
      obtain ⟨v, c⟩ := t
      have hc : H c ≤ 17179869184 := hB.t _ (List.mem_of_getElem? hx)
      have C1 : (i : Int) < (f.1.length : Int) := by omega
      have W : InI ((i : Int) + 1) := ⟨by omega, by omega⟩
      have W2 : InI ((i : Int) - 1) := ⟨by omega, by omega⟩
      have hs : sgR c = 0 ↔ c = 0 := sgR_eq_zero
      by_cases h0 : 0 < i
      · have hy : f.1[i - 1]? = some (f.1[i - 1]'(by omega)) := List.getElem?_eq_getElem _
        generalize f.1[i - 1]'(by omega) = t at hy
        obtain ⟨v', c'⟩ := t
        refine ⟨fun hp => ?_, fun hp => ?_⟩
        · obtain ⟨a1, a2, a3, a4⟩ := tv_true hp v c hx
          have a5 := a4 v' c' h0 hy
          exact lva_r2_1 C1 hx (by omega) (by omega) (by omega) W2 hy (by omega) (by omega) hc (fun h => a3 (hs.1 h)) W
        · by_cases b1 : v < 0
          · exact lva_x2_1 C1 hx b1
          · by_cases b2 : vars ≤ v
            · exact lva_x2_2 C1 hx b1 b2
            · by_cases b3 : v ≤ v'
              · exact lva_x2_3 C1 hx b1 b2 (by omega) W2 hy (by omega) b3
              · by_cases b4 : c = 0
                · exact lva_x2_4 C1 hx b1 b2 (by omega) W2 hy (by omega) b3 hc (hs.2 b4)
                · refine absurd (fun u d hu => ?_) (tv_false hp)
                  rw [hx] at hu; cases hu
                  exact ⟨by omega, by omega, b4, fun v2 c2 _ h2 => by rw [hy] at h2; cases h2; omega⟩
      · refine ⟨fun hp => ?_, fun hp => ?_⟩
        · obtain ⟨a1, a2, a3, a4⟩ := tv_true hp v c hx
          exact lva_r2_2 C1 hx (by omega) (by omega) (by omega) hc (fun h => a3 (hs.1 h)) W
        · by_cases b1 : v < 0
          · exact lva_x2_1 C1 hx b1
          · by_cases b2 : vars ≤ v
            · exact lva_x2_2 C1 hx b1 b2
            · by_cases b4 : c = 0
              · exact lva_x2_5 C1 hx b1 b2 (by omega) hc (hs.2 b4)
              · refine absurd (fun u d hu => ?_) (tv_false hp)
                rw [hx] at hu; cases hu
                exact ⟨by omega, by omega, b4, fun v2 c2 h2 => absurd h2 h0⟩)
    (lva_x2_6 (by omega))
  by_cases h : OkFm f vars
  · rw [if_pos (fun i hi => tv_t (h i hi))] at L
    rw [tv_t h]
    exact lva_f2 L hB.k
  · rw [if_neg (fun h2 => h fun i hi => tv_true (h2 i hi))] at L
    rw [tv_f h]
    exact lva_f1 L
theorem gvc_c {n : Nat} {f : Form} {vars : Int} (hB : BdF 17179869184 f) : run (n + 1) 171 [formV f, .mem [.lit (.int .i64 vars)]] = some (.lit (.bool (!tv (OkFm f vars)))) := gvc_f1 (lvalid_c (n := n) hB)
theorem ifg_c {n : Nat} {L : List Form} {vars : Int} (hl : L.length ≤ 100000000) (hB : ∀ f ∈ L, BdF 17179869184 f) : ∃ r : Int, run (n + 2) 207 [.sl 4 (L.map formC), .clo 171 [.mem [.lit (.int .i64 vars)]]] = some (.lit (.int .i64 r)) ∧ (0 ≤ r ↔ ¬ ∀ f ∈ L, OkFm f vars) := by
  obtain ⟨ex, t, h1, h2⟩ := loopG_Q (β := Unit) (P := Tryz.prog) (O := tab (n + 2)) (m := 0) (N := 19) (lives := livesOf 207) (r := 2) (C := ifg_C2) (M := L.length) (enc := fun i _ => ifg_h2 L vars i)
    (fun i _ => ∀ j f, j < i → L[j]? = some f → OkFm f vars) (fun ex t => (ex = .exit 0 ∧ t = ifg_o2b ∧ ∀ f ∈ L, OkFm f vars) ∨ (ex = .ret ∧ ∃ i : Nat, t = ifg_o2a i ∧ ¬ ∀ f ∈ L, OkFm f vars)) () (fun j f hj => by omega) (by omega)
    (fun i b hi hI => by
      have hx : L[i]? = some L[i] := List.getElem?_eq_getElem hi
      generalize L[i] = f at hx
      have K := gvc_c (n := n) (vars := vars) (hB f (List.mem_of_getElem? hx))
      by_cases h : OkFm f vars
      · rw [tv_t h] at K
        refine .inl ⟨(), ifg_r2_1 (by omega) hx K rfl ⟨by omega, by omega⟩, fun j g hj hg => ?_⟩
        rcases Nat.lt_succ_iff_lt_or_eq.1 hj with h2 | rfl
        · exact hI j g h2 hg
        · rw [hx] at hg; cases hg; exact h
      · rw [tv_f h] at K
        exact .inr ⟨_, _, by simp, ifg_x2_1 (by omega) hx K rfl, .inr ⟨rfl, i, rfl, fun h2 => h (h2 f (List.mem_of_getElem? hx))⟩⟩)
    (fun b hI => ⟨_, _, by simp, ifg_x2_2 (by omega), .inl ⟨rfl, rfl, fun f hf => by
      obtain ⟨j, hj⟩ := List.mem_iff_getElem?.1 hf
      exact hI j f (List.getElem?_eq_some_iff.1 hj).1 hj⟩⟩)
  rcases h2 with ⟨rfl, rfl, h3⟩ | ⟨rfl, i, rfl, h3⟩
  · exact ⟨-1, ifg_f2 h1, fun h => by omega, fun h => absurd h3 h⟩
  · exact ⟨(i : Int), ifg_f1 h1, fun _ => h3, fun _ => by omega⟩
theorem gvs_c {n : Nat} {L : List Form} {vars : Int} (hl : L.length ≤ 100000000) (hB : ∀ f ∈ L, BdF 17179869184 f) : run (n + 4) 104 [.sl 4 (L.map formC), .lit (.int .i64 vars)] = some (.lit (.bool (tv (∀ f ∈ L, OkFm f vars)))) := by
  obtain ⟨r, h1, h2⟩ := ifg_c (n := n) (vars := vars) hl hB
  have h3 := gva_f1 (n := n) (cfg_f1 (n := n) h1)
  rw [h3]
  by_cases h : ∀ f ∈ L, OkFm f vars
  · rw [tv_t h, decide_eq_false (fun h4 => (h2.1 h4) h)]; rfl
  · rw [tv_f h, decide_eq_true (h2.2 h)]; rfl
theorem gvalid_c {n : Nat} {g : TGraph} (hB : BdG 17179869184 g) : run (n + 5) 41 [graphV g] = some (.lit (.bool (tv (OkGr g)))) := by
  have hlu := hB.lu
  have hlo := hB.lo
  by_cases c1 : g.Inputs < 1
  · rw [tv_f (fun h => by have := h.i0; omega)]; exact gV_f1 c1
  by_cases c2 : 256 < g.Inputs
  · rw [tv_f (fun h => by have := h.i1; omega)]; exact gV_f2 c1 c2
  by_cases c3 : 1024 < (g.Units.length : Int)
  · rw [tv_f (fun h => by have := h.u; omega)]; exact gV_f3 c1 c2 c3
  by_cases c4 : (g.Outputs.length : Int) < 1
  · rw [tv_f (fun h => by have := h.o0; omega)]; exact gV_f4 c1 c2 c3 c4
  by_cases c5 : 256 < (g.Outputs.length : Int)
  · rw [tv_f (fun h => by have := h.o1; omega)]; exact gV_f5 c1 c2 c3 c4 c5
  have hG := loopG_all (O := tab (n + 5)) (P := Tryz.prog) (m := 0) (N := 56) (lives := livesOf 41) (r := 4) (C := gV_C4) (M := g.Units.length) (enc := gV_h4 g) (p := fun i => tv (∀ f, g.Units[i]? = some f → OkFm f (g.Inputs + (i : Int)))) (exN := .exit 0) (exE := .ret) (out := gV_o4b g) (outE := gV_o4a g) (by omega) (by simp) (by simp)
    (fun i hi hI => by
      have hx : g.Units[i]? = some g.Units[i] := List.getElem?_eq_getElem hi
      generalize g.Units[i] = f at hx
      have C1 : (i : Int) < (g.Units.length : Int) := by omega
      have W : InI ((i : Int) + 1) := ⟨by omega, by omega⟩
      have W2 : InI (g.Inputs + (i : Int)) := ⟨by omega, by omega⟩
      have K := lvalid_c (n := n + 4) (vars := g.Inputs + (i : Int)) (hB.u f (List.mem_of_getElem? hx))
      have e : tv (∀ f, g.Units[i]? = some f → OkFm f (g.Inputs + (i : Int))) = tv (OkFm f (g.Inputs + (i : Int))) := tv_iff ⟨fun h => h f hx, fun h g hg => by rw [hx] at hg; cases hg; exact h⟩
      rw [e]
      exact ⟨fun hp => gV_r4_1 C1 hx W2 K hp W, fun hp => gV_x4_1 C1 hx W2 K hp⟩)
    (gV_x4_2 (by omega))
  by_cases h : ∀ i, i < g.Units.length → ∀ f, g.Units[i]? = some f → OkFm f (g.Inputs + (i : Int))
  · rw [if_pos (fun i hi => tv_t (h i hi))] at hG
    have K := gvs_c (n := n) (vars := g.Inputs + (g.Units.length : Int)) hlo hB.o
    have e : tv (OkGr g) = tv (∀ f ∈ g.Outputs, OkFm f (g.Inputs + (g.Units.length : Int))) := tv_iff ⟨fun k => k.ou, fun k => ⟨by omega, by omega, by omega, by omega, by omega, h, k⟩⟩
    rw [e]
    exact gV_f7 c1 c2 c3 c4 c5 hG ⟨by omega, by omega⟩ K
  · rw [if_neg (fun h2 => h fun i hi => tv_true (h2 i hi))] at hG
    rw [tv_f (fun k => h k.un)]
    exact gV_f6 c1 c2 c3 c4 c5 hG
end Go.Proofs.YtlpmemelhlnfbaaGreatDoor
set_option linter.all false
set_option maxRecDepth 100000
set_option maxHeartbeats 6400000
namespace Go.Proofs.YtlpmemelhlnfbaaGreatDoor
open Go.RowKit
attribute [local irreducible] run runL loopG exec
def evV (X : List Rat) (f : Form) : Rat := f.1.foldl (fun s t => s + t.2 * X.getD t.1.toNat 0) f.2
def evF (X : List Rat) (i : Nat) (s : Rat) (t : Int × Rat) : Except Rat Rat :=
  if t.1 < 0 ∨ (X.length : Int) ≤ t.1 then .error s else .ok (s + t.2 * X.getD t.1.toNat 0)
theorem evF_ok {X : List Rat} : ∀ {F : List (Int × Rat)} (i : Nat) (s : Rat), (∀ t ∈ F, 0 ≤ t.1 ∧ t.1 < (X.length : Int)) → foldE (evF X) i s F = .ok (F.foldl (fun s t => s + t.2 * X.getD t.1.toNat 0) s)
  | [], i, s, _ => rfl
  | t :: F, i, s, h => by
    have h1 := h t List.mem_cons_self
    have e : evF X i s t = .ok (s + t.2 * X.getD t.1.toNat 0) := if_neg (by omega)
    rw [foldE, e, List.foldl_cons]
    exact evF_ok (i + 1) _ fun u hu => h u (List.mem_cons_of_mem _ hu)
def evR (X : List Rat) (f : Form) : AV :=
  match foldE (evF X) 0 f.2 f.1 with
  | .ok s => .tup [ratV s, .lit (.int .i64 0)]
  | .error _ => .tup [.agg [.lit (.bool false), .sl 1 [], .sl 1 []], .lit (.int .i64 2)]
theorem eval_c {n : Nat} {f : Form} {X : List Rat} {a b k : Nat} (ha : ∀ t ∈ f.1, H t.2 ≤ a) (hb : ∀ q ∈ X, H q ≤ b) (hk : H f.2 ≤ k) (hX : X.length ≤ 100000000) (hF : f.1.length ≤ 100000000) (hs : k + f.1.length * (a + b + 1) ≤ 17179869184) (hab : a + b ≤ 17179869184) :
    run n 99 [formV f, .sl 3 (X.map ratC)] = some (evR X f) ∧ ∀ s, foldE (evF X) 0 f.2 f.1 = .ok s → H s ≤ k + f.1.length * (a + b + 1) := by
  have L := loopG_E (O := tab n) (P := Tryz.prog) (m := 0) (N := 45) (lives := livesOf 99) (r := 3) (C := ev_C3) (L := f.1) (f := evF X) (enc := fun i s => ev_h3 f X i s) (exN := .exit 0) (exE := .ret) (out := ev_o3b) (outE := ev_o3a) (Inv := fun i s => H s ≤ k + i * (a + b + 1) ∧ i ≤ f.1.length) f.2 ⟨by omega, by omega⟩ (by omega) (by simp) (by simp)
    (fun i t s hi hI => by
      obtain ⟨v, c⟩ := t
      obtain ⟨hI, hle⟩ := hI
      have hlt := (List.getElem?_eq_some_iff.1 hi).1
      have hm : (i + 1) * (a + b + 1) ≤ f.1.length * (a + b + 1) := Nat.mul_le_mul_right _ hlt
      rw [Nat.add_mul, Nat.one_mul] at hm
      have C1 : (i : Int) < (f.1.length : Int) := by omega
      have W : InI ((i : Int) + 1) := ⟨by omega, by omega⟩
      unfold evF
      by_cases hv : v < 0 ∨ (X.length : Int) ≤ v
      · rw [if_pos hv]
        by_cases h0 : v < 0
        · exact ev_x3_1 C1 hi h0
        · exact ev_x3_2 C1 hi h0 (by omega)
      · rw [if_neg hv]
        have hl : v.toNat < X.length := by omega
        have h1 : X[v.toNat]? = some (X.getD v.toNat 0) := by rw [List.getD_eq_getElem?_getD, List.getElem?_eq_getElem hl]; rfl
        have hc : H c ≤ a := ha _ (List.mem_of_getElem? hi)
        have hq : H (X.getD v.toNat 0) ≤ b := hb _ (List.mem_of_getElem? h1)
        have h2 := H_mul c (X.getD v.toNat 0)
        have h3 := H_add s (c * X.getD v.toNat 0)
        dsimp only
        refine ⟨ev_r3_1 C1 hi (by omega) (by omega) h1 (by omega) (by omega) (by omega) (by omega) (by omega) W, ?_, hlt⟩
        rw [Nat.add_mul, Nat.one_mul]
        omega)
    (fun b hI => ev_x3_3 (by omega))
  refine ⟨?_, fun s hs' => (L.2 s hs').1⟩
  unfold evR
  cases hE : foldE (evF X) 0 f.2 f.1 with
  | ok s => rw [hE] at L; exact ev_f2 L.1
  | error s => rw [hE] at L; exact ev_f1 L.1
theorem eval_ok {n : Nat} {f : Form} {X : List Rat} {a b k : Nat} (ha : ∀ t ∈ f.1, H t.2 ≤ a) (hb : ∀ q ∈ X, H q ≤ b) (hk : H f.2 ≤ k) (hX : X.length ≤ 100000000) (hF : f.1.length ≤ 100000000) (hs : k + f.1.length * (a + b + 1) ≤ 17179869184) (hab : a + b ≤ 17179869184)
    (hv : ∀ t ∈ f.1, 0 ≤ t.1 ∧ t.1 < (X.length : Int)) :
    run n 99 [formV f, .sl 3 (X.map ratC)] = some (.tup [ratV (evV X f), .lit (.int .i64 0)]) ∧ H (evV X f) ≤ k + f.1.length * (a + b + 1) := by
  have h := eval_c (n := n) ha hb hk hX hF hs hab
  have e : foldE (evF X) 0 f.2 f.1 = .ok (evV X f) := evF_ok 0 f.2 hv
  refine ⟨?_, h.2 _ e⟩
  have h1 := h.1
  unfold evR at h1
  rw [e] at h1
  exact h1
end Go.Proofs.YtlpmemelhlnfbaaGreatDoor
set_option linter.all false
set_option maxRecDepth 100000
set_option maxHeartbeats 6400000
namespace Go.Proofs.YtlpmemelhlnfbaaGreatDoor
open Go.RowKit
noncomputable def vs_C5 : Code := (loopsOf (bodyOf Tryz.f35)).getD 0 .skip
noncomputable def vs_C9 : Code := (loopsOf (bodyOf Tryz.f35)).getD 1 .skip
def vs_h5 (a0 : TGraph) (a1 : List Rat) (out_5 : List Rat) (i_5 : Nat) : St :=
  ⟨[(1, .sl 3 (a1.map ratC)), (2, .ptr 0 0), (6, .own 1 out_5.length), (7, .lit (.int .i64 (i_5 : Int)))],
   [(0, some (.box 38 [.lit (.int .i64 (a0.Inputs)), .sl 4 (a0.Units.map formC), .sl 4 (a0.Outputs.map formC)] false)),
    (1, some (.row 27 3 (out_5.map ratC) 0))], 2⟩
def vs_h9 (a0 : TGraph) (out_9 : List Rat) (i_9 : Nat) (fz_9 : Nat) : St :=
  ⟨[(2, .ptr 0 0), (6, .own 1 out_9.length), (8, .lit (.int .i64 (i_9 : Int)))],
   [(0, some (.box 38 [.lit (.int .i64 (a0.Inputs)), .sl 4 (a0.Units.map formC), .sl 4 (a0.Outputs.map formC)] false)),
    (1, some (.row 27 3 (out_9.map ratC) fz_9))], 2⟩
def vs_o5a (a0 : TGraph) (out_5 : List Rat) : St :=
  ⟨[(2, .ptr 0 0), (6, .own 1 out_5.length)],
   [(0, some (.box 38 [.lit (.int .i64 (a0.Inputs)), .sl 4 (a0.Units.map formC), .sl 4 (a0.Outputs.map formC)] false)),
    (1, some (.row 27 3 (out_5.map ratC) 0))], 2⟩
def vs_o9a (out_9 : List Rat) (fz_9 : Nat) : St :=
  ⟨[(6, .own 0 out_9.length)],
   [(0, some (.row 27 3 (out_9.map ratC) fz_9))], 1⟩
section
variable {a1 : List Rat} {a0 : TGraph} {out_5 : List Rat} {i_5 : Nat} {x3 : Rat} {n : Nat} {i_9 : Nat} {fz_9 : Nat} {out_9 : List Rat} {q3 : Rat} {r10 : Rat} {F3 : List (Int × Rat)} {r8 : Rat} {r9 : Int} {r : Bool}
theorem vs_r5_1 (C1 : (i_5 : Int) < (a1.length : Int)) (E2 : a1[i_5]? = some x3) (B3a : H x3 ≤ 17179869184) (M4 : out_5.length + 1 ≤ 100000000) (W5 : InI ((i_5 : Int) + 1)) :
    Cont 0 (exec Tryz.prog (tab (n + 3)) 0 59 (livesOf 35) big vs_C5) (livesOf 35 5) (vs_h5 a0 a1 out_5 i_5) (vs_h5 a0 a1 (out_5 ++ [x3]) (i_5 + 1)) := by
  have C1_ : i_5 < a1.length := by omega
  obtain ⟨EL2, EG2⟩ := List.getElem?_eq_some_iff.1 E2
  have K3 := r_canon (p := x3) B3a
  have M4_ : ∀ b, b ≤ 10000 → roomy (out_5.length + 1) b = true := fun b hb => roomy_s M4 hb
  have W5_ : IntKind.i64.wrap ((i_5 : Int) + 1) = (i_5 : Int) + 1 := wr64 W5.1 W5.2
  unfold Cont
  simp +decide [vs_h5, loopsOf, Tryz.f35, vs_C5, C1, C1_, EL2, EG2, E2, K3, M4_, W5_]
theorem vs_x5_1 (C1 : ¬ (i_5 : Int) < (a1.length : Int)) :
    Leave 0 (exec Tryz.prog (tab (n + 3)) 0 59 (livesOf 35) big vs_C5) (livesOf 35 (outOf 5)) (vs_h5 a0 a1 out_5 i_5) (.exit 0) (vs_o5a a0 out_5) := by
  have C1_ : ¬ i_5 < a1.length := by omega
  unfold Leave
  simp +decide [vs_h5, loopsOf, Tryz.f35, vs_o5a, vs_C5, C1, C1_]
theorem vs_r9_1 (C1 : (i_9 : Int) < (a0.Units.length : Int)) (E2 : a0.Units[i_9]? = some (F3, q3)) (K3 : run (n + 2) 99 [formV (F3, q3), .sl 3 (out_9.map ratC)] = some (.tup [ratV r8, .lit (.int .i64 r9)])) (K4 : run (n + 2) 100 [ratV r8, .agg [.lit (.bool false), .sl 1 [], .sl 1 []]] = some (ratV r10)) (M5 : out_9.length + 1 ≤ 100000000) (W6 : InI ((i_9 : Int) + 1)) :
    Cont 0 (exec Tryz.prog (tab (n + 3)) 0 59 (livesOf 35) big vs_C9) (livesOf 35 9) (vs_h9 a0 out_9 i_9 fz_9) (vs_h9 a0 (out_9 ++ [r10]) (i_9 + 1) out_9.length) := by
  have C1_ : i_9 < a0.Units.length := by omega
  obtain ⟨EL2, EG2⟩ := List.getElem?_eq_some_iff.1 E2
  simp only [ratV, formV] at K3
  simp only [ratV] at K4
  have M5_ : ∀ b, b ≤ 10000 → roomy (out_9.length + 1) b = true := fun b hb => roomy_s M5 hb
  have W6_ : IntKind.i64.wrap ((i_9 : Int) + 1) = (i_9 : Int) + 1 := wr64 W6.1 W6.2
  unfold Cont
  simp +decide [vs_h9, loopsOf, Tryz.f35, vs_C9, C1, C1_, EL2, EG2, E2, K3, K4, M5_, W6_]
theorem vs_x9_1 (C1 : ¬ (i_9 : Int) < (a0.Units.length : Int)) :
    Leave 0 (exec Tryz.prog (tab (n + 3)) 0 59 (livesOf 35) big vs_C9) (livesOf 35 (outOf 9)) (vs_h9 a0 out_9 i_9 fz_9) (.exit 2) (vs_o9a out_9 fz_9) := by
  have C1_ : ¬ i_9 < a0.Units.length := by omega
  unfold Leave
  simp +decide [vs_h9, loopsOf, Tryz.f35, vs_o9a, vs_C9, C1, C1_]
theorem vs_f3 (K1 : run (n + 2) 25 [graphV a0] = some (.lit (.bool r))) (C2 : r = true) (C3 : (a1.length : Int) = a0.Inputs) (L4 : loopG Tryz.prog (tab (n + 3)) 0 59 (livesOf 35) 5 vs_C5 (vs_h5 a0 a1 [] 0) = some (.exit 0, vs_o5a a0 out_5)) (L5 : loopG Tryz.prog (tab (n + 3)) 0 59 (livesOf 35) 9 vs_C9 (vs_h9 a0 out_5 0 0) = some (.exit 2, vs_o9a out_9 fz_9)) :
    run (n + 3) 35 [graphV a0, .sl 3 (a1.map ratC)] = some (.tup [.sl 3 (out_9.map ratC), .lit (.int .i64 0)]) := by
  simp only [graphV] at K1
  have C3_ : ((a1.length : Int) == a0.Inputs) = true := by rw [C3]; simp
  have C3_n : ((a1.length : Int) != a0.Inputs) = false := by rw [C3]; simp
  unfold run fnP
  simp +decide [Tryz.f35, K1, C2, C3_, C3_n]
  rw [loopX_G (C' := vs_C5) (e := (vs_h5 a0 a1 [] 0)) ?_ ?_, L4]
  rotate_left
  · kernel_rfl
  · simp +decide [vs_h5, K1, C2, C3_, C3_n]
  simp +decide [vs_o5a, K1, C2, C3_, C3_n]
  rw [loopX_G (C' := vs_C9) (e := (vs_h9 a0 out_5 0 0)) ?_ ?_, L5]
  rotate_left
  · kernel_rfl
  · simp +decide [vs_h9, K1, C2, C3_, C3_n]
  simp +decide [vs_o9a, K1, C2, C3_, C3_n]
end
noncomputable def fm_C6 : Code := (loopsOf (bodyOf Tryz.f101)).getD 0 .skip
def fm_h6 (a1 : List Form) (r : List Rat) (out_6 : List Rat) (i_6 : Nat) : St :=
  ⟨[(1, .sl 4 (a1.map formC)), (8, .sl 3 (r.map ratC)), (10, .own 0 out_6.length), (11, .lit (.int .i64 (i_6 : Int)))],
   [(0, some (.row 27 3 (out_6.map ratC) 0))], 1⟩
def fm_o6a (out_6 : List Rat) : St :=
  ⟨[(10, .own 0 out_6.length)],
   [(0, some (.row 27 3 (out_6.map ratC) 0))], 1⟩
section
variable {a1 : List Form} {q3 : Rat} {r7 : Rat} {out_6 : List Rat} {i_6 : Nat} {F3 : List (Int × Rat)} {r8 : Int} {r : List Rat} {n : Nat} {r2 : Int} {a2 : List Rat} {a0 : TGraph}
theorem fm_r6_1 (C1 : (i_6 : Int) < (a1.length : Int)) (E2 : a1[i_6]? = some (F3, q3)) (K3 : run (n + 3) 99 [formV (F3, q3), .sl 3 (r.map ratC)] = some (.tup [ratV r7, .lit (.int .i64 r8)])) (M4 : out_6.length + 1 ≤ 100000000) (W5 : InI ((i_6 : Int) + 1)) :
    Cont 0 (exec Tryz.prog (tab (n + 4)) 0 43 (livesOf 101) big fm_C6) (livesOf 101 6) (fm_h6 a1 r out_6 i_6) (fm_h6 a1 r (out_6 ++ [r7]) (i_6 + 1)) := by
  have C1_ : i_6 < a1.length := by omega
  obtain ⟨EL2, EG2⟩ := List.getElem?_eq_some_iff.1 E2
  simp only [ratV, formV] at K3
  have M4_ : ∀ b, b ≤ 10000 → roomy (out_6.length + 1) b = true := fun b hb => roomy_s M4 hb
  have W5_ : IntKind.i64.wrap ((i_6 : Int) + 1) = (i_6 : Int) + 1 := wr64 W5.1 W5.2
  unfold Cont
  simp +decide [fm_h6, loopsOf, Tryz.f101, fm_C6, C1, C1_, EL2, EG2, E2, K3, M4_, W5_]
theorem fm_x6_1 (C1 : ¬ (i_6 : Int) < (a1.length : Int)) :
    Leave 0 (exec Tryz.prog (tab (n + 4)) 0 43 (livesOf 101) big fm_C6) (livesOf 101 (outOf 6)) (fm_h6 a1 r out_6 i_6) (.exit 0) (fm_o6a out_6) := by
  have C1_ : ¬ i_6 < a1.length := by omega
  unfold Leave
  simp +decide [fm_h6, loopsOf, Tryz.f101, fm_o6a, fm_C6, C1, C1_]
theorem fm_f2 (K1 : run (n + 3) 35 [graphV a0, .sl 3 (a2.map ratC)] = some (.tup [.sl 3 (r.map ratC), .lit (.int .i64 r2)])) (C2 : r2 = 0) (L3 : loopG Tryz.prog (tab (n + 4)) 0 43 (livesOf 101) 6 fm_C6 (fm_h6 a1 r [] 0) = some (.exit 0, fm_o6a out_6)) :
    run (n + 4) 101 [graphV a0, .sl 4 (a1.map formC), .sl 3 (a2.map ratC)] = some (.tup [.sl 3 (out_6.map ratC), .lit (.int .i64 0)]) := by
  simp only [graphV] at K1
  have C2_ : (r2 == 0) = true := by rw [C2]; simp
  have C2_n : (r2 != 0) = false := by rw [C2]; simp
  unfold run fnP
  simp +decide [Tryz.f101, K1, C2_, C2_n]
  rw [loopX_G (C' := fm_C6) (e := (fm_h6 a1 r [] 0)) ?_ ?_, L3]
  rotate_left
  · kernel_rfl
  · simp +decide [fm_h6, K1, C2_, C2_n]
  simp +decide [fm_o6a, K1, C2_, C2_n]
end
end Go.Proofs.YtlpmemelhlnfbaaGreatDoor
set_option linter.all false
set_option maxRecDepth 100000
set_option maxHeartbeats 6400000
namespace Go.Proofs.YtlpmemelhlnfbaaGreatDoor
open Go.RowKit
attribute [local irreducible] run runL loopG exec
def max0 (q : Rat) : Rat := if 0 ≤ q then q else 0
theorem max0_H (q : Rat) : H (max0 q) ≤ H q := by
  unfold max0
  split
  · exact Nat.le_refl _
  · have : H 0 ≤ 1 := by decide
    have h2 : H 0 = 1 ∨ H 0 = 0 := by decide
    unfold H
    have : (lmb (q.den)).length ≥ 1 := by
      have := q.den_pos
      rcases Nat.eq_zero_or_pos (lmb q.den).length with h | h
      · have e : lmb q.den = [] := List.eq_nil_of_length_eq_zero h
        have e2 := val_lmb q.den
        rw [e] at e2
        have : q.den = 0 := by rw [← e2]; rfl
        omega
      · exact h
    have h3 : (max (lmb (0 : Rat).num.natAbs).length (lmb (0 : Rat).den).length) ≤ 1 := by decide
    omega
theorem max0_c {n : Nat} {q : Rat} (hq : H q ≤ 17179869184) : run n 100 [ratV q, .agg [.lit (.bool false), .sl 1 [], .sl 1 []]] = some (ratV (max0 q)) := by
  have e : ratV 0 = .agg [.lit (.bool false), .sl 1 [], .sl 1 []] := by simp
  have e2 : q - 0 = q := by grind
  rw [← e]
  have h0 : H 0 ≤ 17179869184 := by decide
  unfold max0
  split
  · rename_i h
    exact mx_f1 hq h0 (by rw [e2]; exact sgq_nonneg.2 h)
  · rename_i h
    exact mx_f2 hq h0 (by rw [e2]; exact fun h2 => h (sgq_nonneg.1 h2))
def valV (U : List Form) (X : List Rat) : List Rat := foldI (fun _ out f => out ++ [max0 (evV out f)]) 0 X U
def bndV (a l b : Nat) : Nat → Nat
  | 0 => b
  | i + 1 => bndV a l b i + a + l * (a + bndV a l b i + 1)
theorem bndV_mono (a l b : Nat) : ∀ {i j : Nat}, i ≤ j → bndV a l b i ≤ bndV a l b j
  | i, 0, h => by
    have e : i = 0 := by omega
    subst e
    exact Nat.le_refl _
  | i, j + 1, h => by
    by_cases e : i = j + 1
    · subst e; exact Nat.le_refl _
    · have := bndV_mono a l b (i := i) (j := j) (by omega)
      rw [bndV]; omega
theorem values_c {n : Nat} {g : TGraph} {X : List Rat} {a l b : Nat} (hG : OkGr g) (hB : BdG a g) (ha : a ≤ 1000000) (hl : ∀ f ∈ g.Units, f.1.length ≤ l) (hX : (X.length : Int) = g.Inputs) (hb : ∀ q ∈ X, H q ≤ b) (hbnd : bndV a l b g.Units.length ≤ 100000000) :
    run (n + 3) 35 [graphV g, .sl 3 (X.map ratC)] = some (.tup [.sl 3 ((valV g.Units X).map ratC), .lit (.int .i64 0)]) ∧ (∀ q ∈ valV g.Units X, H q ≤ bndV a l b g.Units.length) ∧ (valV g.Units X).length = X.length + g.Units.length := by
  have hi0 := hG.i0
  have hi1 := hG.i1
  have hu := hG.u
  have K := validG_c (n := n) (hB.mono (by omega))
  rw [tv_t hG] at K
  have hb0 : b ≤ 100000000 := Nat.le_trans (bndV_mono a l b (Nat.zero_le _)) hbnd
  have L1 := (loopG_I (O := tab (n + 3)) (P := Tryz.prog) (m := 0) (N := 59) (lives := livesOf 35) (r := 5) (C := vs_C5) (L := X) (f := fun _ o x => o ++ [x]) (enc := fun i o => vs_h5 g X o i) (exN := .exit 0) (out := fun o => vs_o5a g o) (Inv := fun i o => o.length = i) [] rfl (by omega) (by simp)
    (fun i x o hi hI => by
      have hlt := (List.getElem?_eq_some_iff.1 hi).1
      have := hb x (List.mem_of_getElem? hi)
      exact ⟨vs_r5_1 (by omega) hi (by omega) (by omega) ⟨by omega, by omega⟩, by rw [List.length_append, hI]; rfl⟩)
    (fun o hI => vs_x5_1 (by omega))).1
  have key : ∀ (R : List Rat) (i : Nat) (o : List Rat), foldI (fun _ o x => o ++ [x]) i o R = o ++ R := fun R => by
    induction R with
    | nil => intro i o; simp [foldI]
    | cons x R ih => intro i o; rw [foldI, ih]; simp
  rw [key, List.nil_append] at L1
  have L2 := loopG_I (O := tab (n + 3)) (P := Tryz.prog) (m := 0) (N := 59) (lives := livesOf 35) (r := 9) (C := vs_C9) (L := g.Units) (f := fun _ (o : List Rat × Nat) f => (o.1 ++ [max0 (evV o.1 f)], o.1.length)) (enc := fun i o => vs_h9 g o.1 i o.2) (exN := .exit 2) (out := fun o => vs_o9a o.1 o.2) (Inv := fun i o => o.1.length = X.length + i ∧ (∀ q ∈ o.1, H q ≤ bndV a l b i) ∧ i ≤ g.Units.length) (X, 0) ⟨rfl, hb, by omega⟩ (by omega) (by simp)
    (fun i f o hi hI => by
      obtain ⟨o, fz⟩ := o
      obtain ⟨h1, h2, h3⟩ := hI
      dsimp only at h1 h2
      have hlt := (List.getElem?_eq_some_iff.1 hi).1
      have hf := List.mem_of_getElem? hi
      have hBf := hB.u f hf
      have hlf := hl f hf
      have hOk := hG.un i hlt f hi
      have hm : bndV a l b (i + 1) ≤ bndV a l b g.Units.length := bndV_mono a l b hlt
      have e1 : bndV a l b (i + 1) = bndV a l b i + a + l * (a + bndV a l b i + 1) := rfl
      have hmul : f.1.length * (a + bndV a l b i + 1) ≤ l * (a + bndV a l b i + 1) := Nat.mul_le_mul_right _ hlf
      have hE := eval_ok (n := n + 2) (f := f) (X := o) hBf.t h2 hBf.k (by omega) hBf.l (by omega) (by omega) (fun t ht => by
        obtain ⟨j, hj⟩ := List.mem_iff_getElem?.1 ht
        have := hOk j (List.getElem?_eq_some_iff.1 hj).1 t.1 t.2 hj
        exact ⟨this.1, by omega⟩)
      have hM := max0_c (n := n + 2) (q := evV o f) (by omega)
      have hH := max0_H (evV o f)
      have hk := hBf.k
      have hE2 := hE.2
      dsimp only
      refine ⟨vs_r9_1 (r8 := evV o f) (by omega) hi hE.1 hM (by omega) ⟨by omega, by omega⟩, by rw [List.length_append, h1]; rfl, fun q hq => ?_, hlt⟩
      rcases List.mem_append.1 hq with h | h
      · exact Nat.le_trans (h2 q h) (bndV_mono a l b (by omega))
      · rw [List.mem_singleton.1 h]; omega)
    (fun o hI => vs_x9_1 (by omega))
  have key2 : ∀ (U : List Form) (i : Nat) (o : List Rat) (z : Nat), (foldI (fun _ (o : List Rat × Nat) f => (o.1 ++ [max0 (evV o.1 f)], o.1.length)) i (o, z) U).1 = foldI (fun _ out f => out ++ [max0 (evV out f)]) i o U := fun U => by
    induction U with
    | nil => intro i o z; rfl
    | cons f U ih => intro i o z; exact ih (i + 1) _ _
  have e : (foldI (fun _ (o : List Rat × Nat) f => (o.1 ++ [max0 (evV o.1 f)], o.1.length)) 0 (X, 0) g.Units).1 = valV g.Units X := key2 _ _ _ _
  obtain ⟨L3, h1, h2, _⟩ := L2
  rw [e] at L3 h1 h2
  exact ⟨vs_f3 K rfl hX L1 L3, h2, h1⟩
theorem forms_c {n : Nat} {g : TGraph} {X : List Rat} {L : List Form} {a l b : Nat} (hG : OkGr g) (hB : BdG a g) (ha : a ≤ 1000000) (hl : ∀ f ∈ g.Units, f.1.length ≤ l) (hX : (X.length : Int) = g.Inputs) (hb : ∀ q ∈ X, H q ≤ b) (hbnd : bndV a l b (g.Units.length + 1) ≤ 100000000)
    (hL : L.length ≤ 100000000) (hLb : ∀ f ∈ L, BdF a f ∧ f.1.length ≤ l ∧ ∀ t ∈ f.1, 0 ≤ t.1 ∧ t.1 < g.Inputs + (g.Units.length : Int)) :
    run (n + 4) 101 [graphV g, .sl 4 (L.map formC), .sl 3 (X.map ratC)] = some (.tup [.sl 3 ((L.map fun f => evV (valV g.Units X) f).map ratC), .lit (.int .i64 0)]) ∧ ∀ f ∈ L, H (evV (valV g.Units X) f) ≤ bndV a l b (g.Units.length + 1) := by
  have e1 : bndV a l b (g.Units.length + 1) = bndV a l b g.Units.length + a + l * (a + bndV a l b g.Units.length + 1) := rfl
  obtain ⟨K, hV, hVl⟩ := values_c (n := n) hG hB ha hl hX hb (by omega)
  have hi1 := hG.i1
  have hu := hG.u
  have hE : ∀ f ∈ L, run (n + 3) 99 [formV f, .sl 3 ((valV g.Units X).map ratC)] = some (.tup [ratV (evV (valV g.Units X) f), .lit (.int .i64 0)]) ∧ H (evV (valV g.Units X) f) ≤ a + f.1.length * (a + bndV a l b g.Units.length + 1) := fun f hf => by
    obtain ⟨h1, h2, h3⟩ := hLb f hf
    have hmul : f.1.length * (a + bndV a l b g.Units.length + 1) ≤ l * (a + bndV a l b g.Units.length + 1) := Nat.mul_le_mul_right _ h2
    exact eval_ok h1.t hV h1.k (by omega) h1.l (by omega) (by omega) (fun t ht => ⟨(h3 t ht).1, by have := (h3 t ht).2; omega⟩)
  have L1 := (loopG_I (O := tab (n + 4)) (P := Tryz.prog) (m := 0) (N := 43) (lives := livesOf 101) (r := 6) (C := fm_C6) (L := L) (f := fun _ o f => o ++ [evV (valV g.Units X) f]) (enc := fun i o => fm_h6 L (valV g.Units X) o i) (exN := .exit 0) (out := fun o => fm_o6a o) (Inv := fun i o => o.length = i) [] rfl (by omega) (by simp)
    (fun i f o hi hI => by
      have hlt := (List.getElem?_eq_some_iff.1 hi).1
      exact ⟨fm_r6_1 (by omega) hi (hE f (List.mem_of_getElem? hi)).1 (by omega) ⟨by omega, by omega⟩, by rw [List.length_append, hI]; rfl⟩)
    (fun o hI => fm_x6_1 (by omega))).1
  have key : ∀ (R : List Form) (i : Nat) (o : List Rat), foldI (fun _ o f => o ++ [evV (valV g.Units X) f]) i o R = o ++ R.map fun f => evV (valV g.Units X) f := fun R => by
    induction R with
    | nil => intro i o; simp [foldI]
    | cons x R ih => intro i o; rw [foldI, ih]; simp
  rw [key, List.nil_append] at L1
  refine ⟨fm_f2 K rfl L1, fun f hf => ?_⟩
  have hmul : f.1.length * (a + bndV a l b g.Units.length + 1) ≤ l * (a + bndV a l b g.Units.length + 1) := Nat.mul_le_mul_right _ (hLb f hf).2.1
  have := (hE f hf).2
  omega
end Go.Proofs.YtlpmemelhlnfbaaGreatDoor
