/- Walks: linear.Valid, graph.valid$1, slices.IndexFunc[[]relucert/api.Affine,relucert/api.Affine]~1:graph.valid$1, slices.ContainsFunc[[]relucert/api.Affine,relucert/api.Affine]~1:graph.valid$1, graph.valid, graph.Valid. -/
import Derived.Test.YtlpmemelhlnfbaaGreatDoorGA5
set_option linter.all false
set_option linter.all false
set_option maxRecDepth 100000
set_option maxHeartbeats 6400000
namespace Go.Proofs.YtlpmemelhlnfbaaGreatDoor
open Go.RowKit

/-! linear.Valid, level 0 -/
noncomputable def lva_C2 : Code := (loopsOf (bodyOf Tryz.f60)).getD 0 .skip
def lva_h2 (a0 : Form) (a1 : Int) (i_2 : Nat) : St :=
  ⟨[(1, .lit (.int .i64 a1)), (2, .ptr 0 0), (8, .sl 4 (a0.1.map termC)), (9, .lit (.int .i64 (a0.1.length : Int))), (10, .lit (.int .i64 (i_2 : Int)))],
   [(0, some (.box 29 [.sl 4 (a0.1.map termC), .lit (.bool (rawQ a0.2).s), natA (rawQ a0.2).l1, natA (rawQ a0.2).l2] false))], 1⟩
def lva_o2a (a0 : Form) : St :=
  ⟨[(2, .ptr 0 0), (4, .lit (.bool false))],
   [(0, some (.box 29 [.sl 4 (a0.1.map termC), .lit (.bool (rawQ a0.2).s), natA (rawQ a0.2).l1, natA (rawQ a0.2).l2] false))], 1⟩
def lva_o2b (a0 : Form) : St :=
  ⟨[(2, .ptr 0 0), (4, .any)],
   [(0, some (.box 29 [.sl 4 (a0.1.map termC), .lit (.bool (rawQ a0.2).s), natA (rawQ a0.2).l1, natA (rawQ a0.2).l2] false))], 1⟩
theorem lva_r2_1 {n : Nat} {a0 : Form} {a1 : Int} {i_2 : Nat} {v4 : Int} {q4 : Rat} {v5 : Int} {q5 : Rat} (C1 : (i_2 : Int) < (a0.1.length : Int)) (E2 : a0.1[i_2]? = some (v4, q4)) (C3 : ¬ v4 < 0) (C4 : ¬ a1 ≤ v4) (C5 : 0 < (i_2 : Int)) (W6 : InI ((i_2 : Int) - 1)) (E7 : a0.1[i_2 - 1]? = some (v5, q5)) (Z7 : 1 ≤ i_2) (C8 : ¬ v4 ≤ v5) (B9a : H q4 ≤ 17179869184) (C10 : ¬ sgR q4 = 0) (W12 : InI ((i_2 : Int) + 1)) :
    Cont 0 (exec Tryz.prog (tab n) 0 56 (livesOf 60) big lva_C2) (livesOf 60 2) (lva_h2 a0 a1 i_2) (lva_h2 a0 a1 (i_2 + 1)) := by
  have C1_ : i_2 < a0.1.length := by omega
  obtain ⟨EL2, EG2⟩ := List.getElem?_eq_some_iff.1 E2
  have C5_ : 0 < i_2 := by omega
  have C5_z : (i_2 : Int) ≠ 0 := by omega
  have C5_e : ((i_2 : Int) == 0) = false := by simpa using C5_z
  have C5_g : ((i_2 : Int) != 0) = true := by simpa using C5_z
  have W6_ : IntKind.i64.wrap ((i_2 : Int) - 1) = (i_2 : Int) - 1 := wr64 W6.1 W6.2
  obtain ⟨EL7, EG7⟩ := List.getElem?_eq_some_iff.1 E7
  have Z7_0 : (1 : Int) ≤ (i_2 : Int) := by omega
  have Z7_1 : 0 ≤ (i_2 : Int) - 1 := by omega
  have K9 := r_sign (p := q4) B9a
  have C10_ : (sgR q4 == 0) = false := by simpa using C10
  have C10_n : (sgR q4 != 0) = true := by simpa using C10
  have K11 := r_valid (p := q4) B9a
  have W12_ : IntKind.i64.wrap ((i_2 : Int) + 1) = (i_2 : Int) + 1 := wr64 W12.1 W12.2
  unfold Cont
  simp +decide [lva_h2, loopsOf, Tryz.f60, lva_C2, C1, C1_, EL2, EG2, E2, C3, C4, C5, C5_, C5_e, C5_g, W6_, EL7, EG7, E7, Z7, Z7_0, Z7_1, C8, K9, C10_, C10_n, K11, W12_]
theorem lva_r2_2 {n : Nat} {a0 : Form} {a1 : Int} {i_2 : Nat} {v4 : Int} {q4 : Rat} (C1 : (i_2 : Int) < (a0.1.length : Int)) (E2 : a0.1[i_2]? = some (v4, q4)) (C3 : ¬ v4 < 0) (C4 : ¬ a1 ≤ v4) (C5 : ¬ 0 < (i_2 : Int)) (B6a : H q4 ≤ 17179869184) (C7 : ¬ sgR q4 = 0) (W9 : InI ((i_2 : Int) + 1)) :
    Cont 0 (exec Tryz.prog (tab n) 0 56 (livesOf 60) big lva_C2) (livesOf 60 2) (lva_h2 a0 a1 i_2) (lva_h2 a0 a1 (i_2 + 1)) := by
  have C1_ : i_2 < a0.1.length := by omega
  obtain ⟨EL2, EG2⟩ := List.getElem?_eq_some_iff.1 E2
  have C5_ : ¬ 0 < i_2 := by omega
  have C5_z : (i_2 : Int) = 0 := by omega
  have C5_e : ((i_2 : Int) == 0) = true := by rw [C5_z]; simp
  have C5_g : ((i_2 : Int) != 0) = false := by rw [C5_z]; simp
  have K6 := r_sign (p := q4) B6a
  have C7_ : (sgR q4 == 0) = false := by simpa using C7
  have C7_n : (sgR q4 != 0) = true := by simpa using C7
  have K8 := r_valid (p := q4) B6a
  have W9_ : IntKind.i64.wrap ((i_2 : Int) + 1) = (i_2 : Int) + 1 := wr64 W9.1 W9.2
  unfold Cont
  simp +decide [lva_h2, loopsOf, Tryz.f60, lva_C2, C1, C1_, EL2, EG2, E2, C3, C4, C5, C5_, C5_e, C5_g, K6, C7_, C7_n, K8, W9_]
theorem lva_x2_1 {n : Nat} {a0 : Form} {a1 : Int} {i_2 : Nat} {v4 : Int} {q4 : Rat} (C1 : (i_2 : Int) < (a0.1.length : Int)) (E2 : a0.1[i_2]? = some (v4, q4)) (C3 : v4 < 0) :
    Leave 0 (exec Tryz.prog (tab n) 0 56 (livesOf 60) big lva_C2) (livesOf 60 (outOf 2)) (lva_h2 a0 a1 i_2) (.ret) (lva_o2a a0) := by
  have C1_ : i_2 < a0.1.length := by omega
  obtain ⟨EL2, EG2⟩ := List.getElem?_eq_some_iff.1 E2
  unfold Leave
  simp +decide [lva_h2, loopsOf, Tryz.f60, lva_o2a, lva_C2, C1, C1_, EL2, EG2, E2, C3]
theorem lva_x2_2 {n : Nat} {a0 : Form} {a1 : Int} {i_2 : Nat} {v4 : Int} {q4 : Rat} (C1 : (i_2 : Int) < (a0.1.length : Int)) (E2 : a0.1[i_2]? = some (v4, q4)) (C3 : ¬ v4 < 0) (C4 : a1 ≤ v4) :
    Leave 0 (exec Tryz.prog (tab n) 0 56 (livesOf 60) big lva_C2) (livesOf 60 (outOf 2)) (lva_h2 a0 a1 i_2) (.ret) (lva_o2a a0) := by
  have C1_ : i_2 < a0.1.length := by omega
  obtain ⟨EL2, EG2⟩ := List.getElem?_eq_some_iff.1 E2
  unfold Leave
  simp +decide [lva_h2, loopsOf, Tryz.f60, lva_o2a, lva_C2, C1, C1_, EL2, EG2, E2, C3, C4]
theorem lva_x2_3 {n : Nat} {a0 : Form} {a1 : Int} {i_2 : Nat} {v4 : Int} {q4 : Rat} {v5 : Int} {q5 : Rat} (C1 : (i_2 : Int) < (a0.1.length : Int)) (E2 : a0.1[i_2]? = some (v4, q4)) (C3 : ¬ v4 < 0) (C4 : ¬ a1 ≤ v4) (C5 : 0 < (i_2 : Int)) (W6 : InI ((i_2 : Int) - 1)) (E7 : a0.1[i_2 - 1]? = some (v5, q5)) (Z7 : 1 ≤ i_2) (C8 : v4 ≤ v5) :
    Leave 0 (exec Tryz.prog (tab n) 0 56 (livesOf 60) big lva_C2) (livesOf 60 (outOf 2)) (lva_h2 a0 a1 i_2) (.ret) (lva_o2a a0) := by
  have C1_ : i_2 < a0.1.length := by omega
  obtain ⟨EL2, EG2⟩ := List.getElem?_eq_some_iff.1 E2
  have C5_ : 0 < i_2 := by omega
  have C5_z : (i_2 : Int) ≠ 0 := by omega
  have C5_e : ((i_2 : Int) == 0) = false := by simpa using C5_z
  have C5_g : ((i_2 : Int) != 0) = true := by simpa using C5_z
  have W6_ : IntKind.i64.wrap ((i_2 : Int) - 1) = (i_2 : Int) - 1 := wr64 W6.1 W6.2
  obtain ⟨EL7, EG7⟩ := List.getElem?_eq_some_iff.1 E7
  have Z7_0 : (1 : Int) ≤ (i_2 : Int) := by omega
  have Z7_1 : 0 ≤ (i_2 : Int) - 1 := by omega
  unfold Leave
  simp +decide [lva_h2, loopsOf, Tryz.f60, lva_o2a, lva_C2, C1, C1_, EL2, EG2, E2, C3, C4, C5, C5_, C5_e, C5_g, W6_, EL7, EG7, E7, Z7, Z7_0, Z7_1, C8]
theorem lva_x2_4 {n : Nat} {a0 : Form} {a1 : Int} {i_2 : Nat} {v4 : Int} {q4 : Rat} {v5 : Int} {q5 : Rat} (C1 : (i_2 : Int) < (a0.1.length : Int)) (E2 : a0.1[i_2]? = some (v4, q4)) (C3 : ¬ v4 < 0) (C4 : ¬ a1 ≤ v4) (C5 : 0 < (i_2 : Int)) (W6 : InI ((i_2 : Int) - 1)) (E7 : a0.1[i_2 - 1]? = some (v5, q5)) (Z7 : 1 ≤ i_2) (C8 : ¬ v4 ≤ v5) (B9a : H q4 ≤ 17179869184) (C10 : sgR q4 = 0) :
    Leave 0 (exec Tryz.prog (tab n) 0 56 (livesOf 60) big lva_C2) (livesOf 60 (outOf 2)) (lva_h2 a0 a1 i_2) (.ret) (lva_o2a a0) := by
  have C1_ : i_2 < a0.1.length := by omega
  obtain ⟨EL2, EG2⟩ := List.getElem?_eq_some_iff.1 E2
  have C5_ : 0 < i_2 := by omega
  have C5_z : (i_2 : Int) ≠ 0 := by omega
  have C5_e : ((i_2 : Int) == 0) = false := by simpa using C5_z
  have C5_g : ((i_2 : Int) != 0) = true := by simpa using C5_z
  have W6_ : IntKind.i64.wrap ((i_2 : Int) - 1) = (i_2 : Int) - 1 := wr64 W6.1 W6.2
  obtain ⟨EL7, EG7⟩ := List.getElem?_eq_some_iff.1 E7
  have Z7_0 : (1 : Int) ≤ (i_2 : Int) := by omega
  have Z7_1 : 0 ≤ (i_2 : Int) - 1 := by omega
  have K9 := r_sign (p := q4) B9a
  have C10_ : (sgR q4 == 0) = true := by rw [C10]; simp
  have C10_n : (sgR q4 != 0) = false := by rw [C10]; simp
  unfold Leave
  simp +decide [lva_h2, loopsOf, Tryz.f60, lva_o2a, lva_C2, C1, C1_, EL2, EG2, E2, C3, C4, C5, C5_, C5_e, C5_g, W6_, EL7, EG7, E7, Z7, Z7_0, Z7_1, C8, K9, C10_, C10_n]
theorem lva_x2_5 {n : Nat} {a0 : Form} {a1 : Int} {i_2 : Nat} {v4 : Int} {q4 : Rat} (C1 : (i_2 : Int) < (a0.1.length : Int)) (E2 : a0.1[i_2]? = some (v4, q4)) (C3 : ¬ v4 < 0) (C4 : ¬ a1 ≤ v4) (C5 : ¬ 0 < (i_2 : Int)) (B6a : H q4 ≤ 17179869184) (C7 : sgR q4 = 0) :
    Leave 0 (exec Tryz.prog (tab n) 0 56 (livesOf 60) big lva_C2) (livesOf 60 (outOf 2)) (lva_h2 a0 a1 i_2) (.ret) (lva_o2a a0) := by
  have C1_ : i_2 < a0.1.length := by omega
  obtain ⟨EL2, EG2⟩ := List.getElem?_eq_some_iff.1 E2
  have C5_ : ¬ 0 < i_2 := by omega
  have C5_z : (i_2 : Int) = 0 := by omega
  have C5_e : ((i_2 : Int) == 0) = true := by rw [C5_z]; simp
  have C5_g : ((i_2 : Int) != 0) = false := by rw [C5_z]; simp
  have K6 := r_sign (p := q4) B6a
  have C7_ : (sgR q4 == 0) = true := by rw [C7]; simp
  have C7_n : (sgR q4 != 0) = false := by rw [C7]; simp
  unfold Leave
  simp +decide [lva_h2, loopsOf, Tryz.f60, lva_o2a, lva_C2, C1, C1_, EL2, EG2, E2, C3, C4, C5, C5_, C5_e, C5_g, K6, C7_, C7_n]
theorem lva_x2_6 {n : Nat} {a0 : Form} {a1 : Int} {i_2 : Nat} (C1 : ¬ (i_2 : Int) < (a0.1.length : Int)) :
    Leave 0 (exec Tryz.prog (tab n) 0 56 (livesOf 60) big lva_C2) (livesOf 60 (outOf 2)) (lva_h2 a0 a1 i_2) (.exit 0) (lva_o2b a0) := by
  have C1_ : ¬ i_2 < a0.1.length := by omega
  unfold Leave
  simp +decide [lva_h2, loopsOf, Tryz.f60, lva_o2b, lva_C2, C1, C1_]
theorem lva_f1 {n : Nat} {a0 : Form} {a1 : Int} (L1 : loopG Tryz.prog (tab n) 0 56 (livesOf 60) 2 lva_C2 (lva_h2 a0 a1 0) = some (.ret, lva_o2a a0)) :
    run n 60 [formV a0, .lit (.int .i64 a1)] = some (.lit (.bool false)) := by
  unfold run fnP
  simp +decide [Tryz.f60]
  rw [loopX_G (C' := lva_C2) (e := (lva_h2 a0 a1 0)) ?_ ?_, L1]
  rotate_left
  · kernel_rfl
  · simp +decide [lva_h2]
  simp +decide [lva_o2a]
theorem lva_f2 {n : Nat} {a0 : Form} {a1 : Int} (L1 : loopG Tryz.prog (tab n) 0 56 (livesOf 60) 2 lva_C2 (lva_h2 a0 a1 0) = some (.exit 0, lva_o2b a0)) (B2a : H a0.2 ≤ 17179869184) :
    run n 60 [formV a0, .lit (.int .i64 a1)] = some (.lit (.bool true)) := by
  have K2 := r_valid (p := a0.2) B2a
  unfold run fnP
  simp +decide [Tryz.f60, K2]
  rw [loopX_G (C' := lva_C2) (e := (lva_h2 a0 a1 0)) ?_ ?_, L1]
  rotate_left
  · kernel_rfl
  · simp +decide [lva_h2, K2]
  simp +decide [lva_o2b, K2]
/-! graph.valid$1, level 1 -/
theorem gvc_f1 {n : Nat} {a0 : Form} {c0 : Int} {r : Bool} (K1 : run n 60 [formV a0, .lit (.int .i64 c0)] = some (.lit (.bool r))) :
    run (n + 1) 171 [formV a0, .mem [.lit (.int .i64 c0)]] = some (.lit (.bool (!r))) := by
  simp only [formV] at K1
  unfold run fnP
  simp +decide [Tryz.f171, K1]
/-! slices.IndexFunc[[]api.Affine,api.Affine], level 2 -/
noncomputable def ifg_C2 : Code := (loopsOf (bodyOf Tryz.f207)).getD 0 .skip
def ifg_h2 (a0 : List Form) (c0 : Int) (i_2 : Nat) : St :=
  ⟨[(0, .sl 4 (a0.map formC)), (1, .clo 171 [.mem [.lit (.int .i64 c0)]]), (7, .lit (.int .i64 (a0.length : Int))), (8, .lit (.int .i64 (i_2 : Int)))],
   [], 0⟩
def ifg_o2a (i_2 : Nat) : St :=
  ⟨[(4, .lit (.int .i64 (i_2 : Int)))],
   [], 0⟩
def ifg_o2b  : St :=
  ⟨[(4, .any)],
   [], 0⟩
theorem ifg_r2_1 {n : Nat} {a0 : List Form} {c0 : Int} {i_2 : Nat} {F3 : List (Int × Rat)} {q3 : Rat} {r3 : Bool} (C1 : (i_2 : Int) < (a0.length : Int)) (E2 : a0[i_2]? = some (F3, q3)) (K3 : run (n + 1) 171 [formV (F3, q3), .mem [.lit (.int .i64 c0)]] = some (.lit (.bool r3))) (C4 : r3 = false) (W5 : InI ((i_2 : Int) + 1)) :
    Cont 0 (exec Tryz.prog (tab (n + 2)) 0 19 (livesOf 207) big ifg_C2) (livesOf 207 2) (ifg_h2 a0 c0 i_2) (ifg_h2 a0 c0 (i_2 + 1)) := by
  have C1_ : i_2 < a0.length := by omega
  obtain ⟨EL2, EG2⟩ := List.getElem?_eq_some_iff.1 E2
  simp only [formV] at K3
  have W5_ : IntKind.i64.wrap ((i_2 : Int) + 1) = (i_2 : Int) + 1 := wr64 W5.1 W5.2
  unfold Cont
  simp +decide [ifg_h2, loopsOf, Tryz.f207, ifg_C2, C1, C1_, EL2, EG2, E2, K3, C4, W5_]
theorem ifg_x2_1 {n : Nat} {a0 : List Form} {c0 : Int} {i_2 : Nat} {F3 : List (Int × Rat)} {q3 : Rat} {r3 : Bool} (C1 : (i_2 : Int) < (a0.length : Int)) (E2 : a0[i_2]? = some (F3, q3)) (K3 : run (n + 1) 171 [formV (F3, q3), .mem [.lit (.int .i64 c0)]] = some (.lit (.bool r3))) (C4 : r3 = true) :
    Leave 0 (exec Tryz.prog (tab (n + 2)) 0 19 (livesOf 207) big ifg_C2) (livesOf 207 (outOf 2)) (ifg_h2 a0 c0 i_2) (.ret) (ifg_o2a i_2) := by
  have C1_ : i_2 < a0.length := by omega
  obtain ⟨EL2, EG2⟩ := List.getElem?_eq_some_iff.1 E2
  simp only [formV] at K3
  unfold Leave
  simp +decide [ifg_h2, loopsOf, Tryz.f207, ifg_o2a, ifg_C2, C1, C1_, EL2, EG2, E2, K3, C4]
theorem ifg_x2_2 {n : Nat} {a0 : List Form} {c0 : Int} {i_2 : Nat} (C1 : ¬ (i_2 : Int) < (a0.length : Int)) :
    Leave 0 (exec Tryz.prog (tab (n + 2)) 0 19 (livesOf 207) big ifg_C2) (livesOf 207 (outOf 2)) (ifg_h2 a0 c0 i_2) (.exit 0) (ifg_o2b ) := by
  have C1_ : ¬ i_2 < a0.length := by omega
  unfold Leave
  simp +decide [ifg_h2, loopsOf, Tryz.f207, ifg_o2b, ifg_C2, C1, C1_]
theorem ifg_f1 {n : Nat} {a0 : List Form} {c0 : Int} {i_2 : Nat} (L1 : loopG Tryz.prog (tab (n + 2)) 0 19 (livesOf 207) 2 ifg_C2 (ifg_h2 a0 c0 0) = some (.ret, ifg_o2a i_2)) :
    run (n + 2) 207 [.sl 4 (a0.map formC), .clo 171 [.mem [.lit (.int .i64 c0)]]] = some (.lit (.int .i64 (i_2 : Int))) := by
  unfold run fnP
  simp +decide [Tryz.f207]
  rw [loopX_G (C' := ifg_C2) (e := (ifg_h2 a0 c0 0)) ?_ ?_, L1]
  rotate_left
  · kernel_rfl
  · simp +decide [ifg_h2]
  simp +decide [ifg_o2a]
theorem ifg_f2 {n : Nat} {a0 : List Form} {c0 : Int} (L1 : loopG Tryz.prog (tab (n + 2)) 0 19 (livesOf 207) 2 ifg_C2 (ifg_h2 a0 c0 0) = some (.exit 0, ifg_o2b )) :
    run (n + 2) 207 [.sl 4 (a0.map formC), .clo 171 [.mem [.lit (.int .i64 c0)]]] = some (.lit (.int .i64 (-1))) := by
  unfold run fnP
  simp +decide [Tryz.f207]
  rw [loopX_G (C' := ifg_C2) (e := (ifg_h2 a0 c0 0)) ?_ ?_, L1]
  rotate_left
  · kernel_rfl
  · simp +decide [ifg_h2]
  simp +decide [ifg_o2b]
/-! slices.ContainsFunc[[]api.Affine,api.Affine], level 3 -/
theorem cfg_f1 {n : Nat} {a0 : List Form} {c0 : Int} {r : Int} (K1 : run (n + 2) 207 [.sl 4 (a0.map formC), .clo 171 [.mem [.lit (.int .i64 c0)]]] = some (.lit (.int .i64 r))) :
    run (n + 3) 170 [.sl 4 (a0.map formC), .clo 171 [.mem [.lit (.int .i64 c0)]]] = some (.lit (.bool (decide (0 ≤ r)))) := by
  unfold run fnP
  simp +decide [Tryz.f170, K1]
/-! graph.valid, level 4 -/
theorem gva_f1 {n : Nat} {a0 : List Form} {a1 : Int} {r : Bool} (K1 : run (n + 3) 170 [.sl 4 (a0.map formC), .clo 171 [.mem [.lit (.int .i64 a1)]]] = some (.lit (.bool r))) :
    run (n + 4) 104 [.sl 4 (a0.map formC), .lit (.int .i64 a1)] = some (.lit (.bool (!r))) := by
  unfold run fnP
  simp +decide [Tryz.f104, K1]
/-! graph.Valid, level 5 -/
noncomputable def gV_C4 : Code := (loopsOf (bodyOf Tryz.f41)).getD 0 .skip
def gV_h4 (a0 : TGraph) (i_4 : Nat) : St :=
  ⟨[(1, .ptr 0 0), (32, .sl 4 (a0.Units.map formC)), (33, .lit (.int .i64 (a0.Units.length : Int))), (34, .lit (.int .i64 (i_4 : Int)))],
   [(0, some (.box 38 [.lit (.int .i64 (a0.Inputs)), .sl 4 (a0.Units.map formC), .sl 4 (a0.Outputs.map formC)] false))], 1⟩
def gV_o4a (a0 : TGraph) : St :=
  ⟨[(1, .ptr 0 0), (2, .lit (.bool false))],
   [(0, some (.box 38 [.lit (.int .i64 (a0.Inputs)), .sl 4 (a0.Units.map formC), .sl 4 (a0.Outputs.map formC)] false))], 1⟩
def gV_o4b (a0 : TGraph) : St :=
  ⟨[(1, .ptr 0 0), (2, .any)],
   [(0, some (.box 38 [.lit (.int .i64 (a0.Inputs)), .sl 4 (a0.Units.map formC), .sl 4 (a0.Outputs.map formC)] false))], 1⟩
theorem gV_r4_1 {n : Nat} {a0 : TGraph} {i_4 : Nat} {F3 : List (Int × Rat)} {q3 : Rat} {r3 : Bool} (C1 : (i_4 : Int) < (a0.Units.length : Int)) (E2 : a0.Units[i_4]? = some (F3, q3)) (W3 : InI (a0.Inputs + (i_4 : Int))) (K4 : run (n + 4) 60 [formV (F3, q3), .lit (.int .i64 (a0.Inputs + (i_4 : Int)))] = some (.lit (.bool r3))) (C5 : r3 = true) (W6 : InI ((i_4 : Int) + 1)) :
    Cont 0 (exec Tryz.prog (tab (n + 5)) 0 56 (livesOf 41) big gV_C4) (livesOf 41 4) (gV_h4 a0 i_4) (gV_h4 a0 (i_4 + 1)) := by
  have C1_ : i_4 < a0.Units.length := by omega
  obtain ⟨EL2, EG2⟩ := List.getElem?_eq_some_iff.1 E2
  have W3_ : IntKind.i64.wrap (a0.Inputs + (i_4 : Int)) = a0.Inputs + (i_4 : Int) := wr64 W3.1 W3.2
  simp only [formV] at K4
  have W6_ : IntKind.i64.wrap ((i_4 : Int) + 1) = (i_4 : Int) + 1 := wr64 W6.1 W6.2
  unfold Cont
  simp +decide [gV_h4, loopsOf, Tryz.f41, gV_C4, C1, C1_, EL2, EG2, E2, W3_, K4, C5, W6_]
theorem gV_x4_1 {n : Nat} {a0 : TGraph} {i_4 : Nat} {F3 : List (Int × Rat)} {q3 : Rat} {r3 : Bool} (C1 : (i_4 : Int) < (a0.Units.length : Int)) (E2 : a0.Units[i_4]? = some (F3, q3)) (W3 : InI (a0.Inputs + (i_4 : Int))) (K4 : run (n + 4) 60 [formV (F3, q3), .lit (.int .i64 (a0.Inputs + (i_4 : Int)))] = some (.lit (.bool r3))) (C5 : r3 = false) :
    Leave 0 (exec Tryz.prog (tab (n + 5)) 0 56 (livesOf 41) big gV_C4) (livesOf 41 (outOf 4)) (gV_h4 a0 i_4) (.ret) (gV_o4a a0) := by
  have C1_ : i_4 < a0.Units.length := by omega
  obtain ⟨EL2, EG2⟩ := List.getElem?_eq_some_iff.1 E2
  have W3_ : IntKind.i64.wrap (a0.Inputs + (i_4 : Int)) = a0.Inputs + (i_4 : Int) := wr64 W3.1 W3.2
  simp only [formV] at K4
  unfold Leave
  simp +decide [gV_h4, loopsOf, Tryz.f41, gV_o4a, gV_C4, C1, C1_, EL2, EG2, E2, W3_, K4, C5]
theorem gV_x4_2 {n : Nat} {a0 : TGraph} {i_4 : Nat} (C1 : ¬ (i_4 : Int) < (a0.Units.length : Int)) :
    Leave 0 (exec Tryz.prog (tab (n + 5)) 0 56 (livesOf 41) big gV_C4) (livesOf 41 (outOf 4)) (gV_h4 a0 i_4) (.exit 0) (gV_o4b a0) := by
  have C1_ : ¬ i_4 < a0.Units.length := by omega
  unfold Leave
  simp +decide [gV_h4, loopsOf, Tryz.f41, gV_o4b, gV_C4, C1, C1_]
theorem gV_f1 {n : Nat} {a0 : TGraph} (C1 : a0.Inputs < 1) :
    run (n + 5) 41 [graphV a0] = some (.lit (.bool false)) := by
  unfold run fnP
  simp +decide [Tryz.f41, C1]
theorem gV_f2 {n : Nat} {a0 : TGraph} (C1 : ¬ a0.Inputs < 1) (C2 : 256 < a0.Inputs) :
    run (n + 5) 41 [graphV a0] = some (.lit (.bool false)) := by
  unfold run fnP
  simp +decide [Tryz.f41, C1, C2]
theorem gV_f3 {n : Nat} {a0 : TGraph} (C1 : ¬ a0.Inputs < 1) (C2 : ¬ 256 < a0.Inputs) (C3 : 1024 < (a0.Units.length : Int)) :
    run (n + 5) 41 [graphV a0] = some (.lit (.bool false)) := by
  have C3_ : 1024 < a0.Units.length := by omega
  unfold run fnP
  simp +decide [Tryz.f41, C1, C2, C3, C3_]
theorem gV_f4 {n : Nat} {a0 : TGraph} (C1 : ¬ a0.Inputs < 1) (C2 : ¬ 256 < a0.Inputs) (C3 : ¬ 1024 < (a0.Units.length : Int)) (C4 : (a0.Outputs.length : Int) < 1) :
    run (n + 5) 41 [graphV a0] = some (.lit (.bool false)) := by
  have C3_ : ¬ 1024 < a0.Units.length := by omega
  have C4_ : a0.Outputs.length < 1 := by omega
  unfold run fnP
  simp +decide [Tryz.f41, C1, C2, C3, C3_, C4, C4_]
theorem gV_f5 {n : Nat} {a0 : TGraph} (C1 : ¬ a0.Inputs < 1) (C2 : ¬ 256 < a0.Inputs) (C3 : ¬ 1024 < (a0.Units.length : Int)) (C4 : ¬ (a0.Outputs.length : Int) < 1) (C5 : 256 < (a0.Outputs.length : Int)) :
    run (n + 5) 41 [graphV a0] = some (.lit (.bool false)) := by
  have C3_ : ¬ 1024 < a0.Units.length := by omega
  have C4_ : ¬ a0.Outputs.length < 1 := by omega
  have C5_ : 256 < a0.Outputs.length := by omega
  unfold run fnP
  simp +decide [Tryz.f41, C1, C2, C3, C3_, C4, C4_, C5, C5_]
theorem gV_f6 {n : Nat} {a0 : TGraph} (C1 : ¬ a0.Inputs < 1) (C2 : ¬ 256 < a0.Inputs) (C3 : ¬ 1024 < (a0.Units.length : Int)) (C4 : ¬ (a0.Outputs.length : Int) < 1) (C5 : ¬ 256 < (a0.Outputs.length : Int)) (L6 : loopG Tryz.prog (tab (n + 5)) 0 56 (livesOf 41) 4 gV_C4 (gV_h4 a0 0) = some (.ret, gV_o4a a0)) :
    run (n + 5) 41 [graphV a0] = some (.lit (.bool false)) := by
  have C3_ : ¬ 1024 < a0.Units.length := by omega
  have C4_ : ¬ a0.Outputs.length < 1 := by omega
  have C5_ : ¬ 256 < a0.Outputs.length := by omega
  unfold run fnP
  simp +decide [Tryz.f41, C1, C2, C3, C3_, C4, C4_, C5, C5_]
  rw [loopX_G (C' := gV_C4) (e := (gV_h4 a0 0)) ?_ ?_, L6]
  rotate_left
  · kernel_rfl
  · simp +decide [gV_h4, C1, C2, C3, C3_, C4, C4_, C5, C5_]
  simp +decide [gV_o4a, C1, C2, C3, C3_, C4, C4_, C5, C5_]
theorem gV_f7 {n : Nat} {a0 : TGraph} {r4 : Bool} (C1 : ¬ a0.Inputs < 1) (C2 : ¬ 256 < a0.Inputs) (C3 : ¬ 1024 < (a0.Units.length : Int)) (C4 : ¬ (a0.Outputs.length : Int) < 1) (C5 : ¬ 256 < (a0.Outputs.length : Int)) (L6 : loopG Tryz.prog (tab (n + 5)) 0 56 (livesOf 41) 4 gV_C4 (gV_h4 a0 0) = some (.exit 0, gV_o4b a0)) (W7 : InI (a0.Inputs + (a0.Units.length : Int))) (K8 : run (n + 4) 104 [.sl 4 (a0.Outputs.map formC), .lit (.int .i64 (a0.Inputs + (a0.Units.length : Int)))] = some (.lit (.bool r4))) :
    run (n + 5) 41 [graphV a0] = some (.lit (.bool r4)) := by
  have C3_ : ¬ 1024 < a0.Units.length := by omega
  have C4_ : ¬ a0.Outputs.length < 1 := by omega
  have C5_ : ¬ 256 < a0.Outputs.length := by omega
  have W7_ : IntKind.i64.wrap (a0.Inputs + (a0.Units.length : Int)) = a0.Inputs + (a0.Units.length : Int) := wr64 W7.1 W7.2
  unfold run fnP
  simp +decide [Tryz.f41, C1, C2, C3, C3_, C4, C4_, C5, C5_, W7_, K8]
  rw [loopX_G (C' := gV_C4) (e := (gV_h4 a0 0)) ?_ ?_, L6]
  rotate_left
  · kernel_rfl
  · simp +decide [gV_h4, C1, C2, C3, C3_, C4, C4_, C5, C5_, W7_, K8]
  simp +decide [gV_o4b, C1, C2, C3, C3_, C4, C4_, C5, C5_, W7_, K8]
end Go.Proofs.YtlpmemelhlnfbaaGreatDoor
