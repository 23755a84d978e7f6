import Derived.Test.YtlpmemelhlnfbaaGreatDoorGA16
import Derived.Test.YtlpmemelhlnfbaaGreatDoorGA21
import Derived.Test.YtlpmemelhlnfbaaGreatDoorGA24
set_option linter.all false
set_option maxRecDepth 100000
set_option maxHeartbeats 6400000
namespace Go.Proofs.YtlpmemelhlnfbaaGreatDoor
open Go.RowKit
noncomputable def mg_C3 : Code := (loopsOf (bodyOf Tryz.f158)).getD 0 .skip
def mg_h3 (a0 : Form) (a1 : Form) (a2 : Rat) (l_3 : List (Int × Rat)) (l2_3 : List (Int × Rat)) (out_3 : List (Int × Rat)) : St :=
  ⟨[(5, .ptr 0 0), (6, .ptr 1 0), (7, .ptr 2 0), (8, .sl 4 (l_3.map termC)), (9, .sl 4 (l2_3.map termC))],
   [(0, some (.box 27 [.lit (.bool (rawQ a2).s), natA (rawQ a2).l1, natA (rawQ a2).l2] false)),
    (1, some (.box 29 [.nl 4, .lit (.bool false), .nl 1, .nl 1] false)),
    (2, some (.box 29 [.own 3 out_3.length, .lit (.bool (rawQ (a0.2 + (a1.2 * a2))).s), natA (rawQ (a0.2 + (a1.2 * a2))).l1, natA (rawQ (a0.2 + (a1.2 * a2))).l2] false)),
    (3, some (.row 84 4 (out_3.map termC) 0))], 4⟩
def mg_o3a (a0 : Form) (a1 : Form) (a2 : Rat) (out_3 : List (Int × Rat)) : St :=
  ⟨[(6, .ptr 0 0), (7, .ptr 1 0)],
   [(0, some (.box 29 [.nl 4, .lit (.bool false), .nl 1, .nl 1] false)),
    (1, some (.box 29 [.own 2 out_3.length, .lit (.bool (rawQ (a0.2 + (a1.2 * a2))).s), natA (rawQ (a0.2 + (a1.2 * a2))).l1, natA (rawQ (a0.2 + (a1.2 * a2))).l2] false)),
    (2, some (.row 84 4 (out_3.map termC) 0))], 3⟩
section
variable {a1 : Form} {l_3 : List (Int × Rat)} {a2 : Rat} {v11 : Int} {out_3 : List (Int × Rat)} {q11 : Rat} {a0 : Form} {l2_3 : List (Int × Rat)} {n : Nat} {R11 : List (Int × Rat)} {q9 : Rat} {v10 : Int} {v9 : Int} {q10 : Rat} {R12 : List (Int × Rat)} {R13 : List (Int × Rat)} {R14 : List (Int × Rat)} {v12 : Int} {q12 : Rat} {R15 : List (Int × Rat)}
theorem mg_r3_1 (C1 : 0 < (l_3.length : Int)) (C2 : (l2_3.length : Int) = 0) (E3 : l_3[0]? = some (v11, q11)) (K4 : runL n 137 [.agg [.own 0 out_3.length, .lit (.bool (rawQ (a0.2 + (a1.2 * a2))).s), natA (rawQ (a0.2 + (a1.2 * a2))).l1, natA (rawQ (a0.2 + (a1.2 * a2))).l2], .lit (.int .i64 v11), ratV q11] [.row 84 4 (out_3.map termC) 0] = some (.agg [.own 0 out_3.length, .lit (.bool (rawQ (a0.2 + (a1.2 * a2))).s), natA (rawQ (a0.2 + (a1.2 * a2))).l1, natA (rawQ (a0.2 + (a1.2 * a2))).l2], [(0, .row 84 4 (out_3.map termC) 0)])) (U5 : 0 ≤ 1 ∧ 1 ≤ (l_3.length : Int)) :
    Cont 0 (exec Tryz.prog (tab (n + 1)) 0 113 (livesOf 158) big mg_C3) (livesOf 158 3) (mg_h3 a0 a1 a2 l_3 l2_3 out_3) (mg_h3 a0 a1 a2 (l_3.drop 1) l2_3 out_3) := by
  have C1_ : 0 < l_3.length := by omega
  have C1_z : (l_3.length : Int) ≠ 0 := by omega
  have C1_e : ((l_3.length : Int) == 0) = false := by simpa using C1_z
  have C1_g : ((l_3.length : Int) != 0) = true := by simpa using C1_z
  have C2_ : ((l2_3.length : Int) == 0) = true := by rw [C2]; simp
  have C2_n : ((l2_3.length : Int) != 0) = false := by rw [C2]; simp
  have C2_l : ¬ 0 < (l2_3.length : Int) := by omega
  obtain ⟨EL3, EG3⟩ := List.getElem?_eq_some_iff.1 E3
  simp only [ratV] at K4
  unfold Cont
  simp +decide [mg_h3, loopsOf, Tryz.f158, mg_C3, C1, C1_, C1_e, C1_g, C2_, C2_n, C2_l, EL3, EG3, E3, K4, U5]
theorem mg_r3_2 (C1 : 0 < (l_3.length : Int)) (C2 : (l2_3.length : Int) = 0) (E3 : l_3[0]? = some (v11, q11)) (K4 : runL n 137 [.agg [.own 0 out_3.length, .lit (.bool (rawQ (a0.2 + (a1.2 * a2))).s), natA (rawQ (a0.2 + (a1.2 * a2))).l1, natA (rawQ (a0.2 + (a1.2 * a2))).l2], .lit (.int .i64 v11), ratV q11] [.row 84 4 (out_3.map termC) 0] = some (.agg [.own 4 R11.length, .lit (.bool (rawQ (a0.2 + (a1.2 * a2))).s), natA (rawQ (a0.2 + (a1.2 * a2))).l1, natA (rawQ (a0.2 + (a1.2 * a2))).l2], [(4, .row 84 4 (R11.map termC) 0)])) (U5 : 0 ≤ 1 ∧ 1 ≤ (l_3.length : Int)) :
    Cont 0 (exec Tryz.prog (tab (n + 1)) 0 113 (livesOf 158) big mg_C3) (livesOf 158 3) (mg_h3 a0 a1 a2 l_3 l2_3 out_3) (mg_h3 a0 a1 a2 (l_3.drop 1) l2_3 R11) := by
  have C1_ : 0 < l_3.length := by omega
  have C1_z : (l_3.length : Int) ≠ 0 := by omega
  have C1_e : ((l_3.length : Int) == 0) = false := by simpa using C1_z
  have C1_g : ((l_3.length : Int) != 0) = true := by simpa using C1_z
  have C2_ : ((l2_3.length : Int) == 0) = true := by rw [C2]; simp
  have C2_n : ((l2_3.length : Int) != 0) = false := by rw [C2]; simp
  have C2_l : ¬ 0 < (l2_3.length : Int) := by omega
  obtain ⟨EL3, EG3⟩ := List.getElem?_eq_some_iff.1 E3
  simp only [ratV] at K4
  unfold Cont
  simp +decide [mg_h3, loopsOf, Tryz.f158, mg_C3, C1, C1_, C1_e, C1_g, C2_, C2_n, C2_l, EL3, EG3, E3, K4, U5]
theorem mg_r3_3 (C1 : 0 < (l_3.length : Int)) (C2 : ¬ (l2_3.length : Int) = 0) (E3 : l_3[0]? = some (v9, q9)) (E4 : l2_3[0]? = some (v10, q10)) (C5 : v9 < v10) (K6 : runL n 137 [.agg [.own 0 out_3.length, .lit (.bool (rawQ (a0.2 + (a1.2 * a2))).s), natA (rawQ (a0.2 + (a1.2 * a2))).l1, natA (rawQ (a0.2 + (a1.2 * a2))).l2], .lit (.int .i64 v9), ratV q9] [.row 84 4 (out_3.map termC) 0] = some (.agg [.own 0 out_3.length, .lit (.bool (rawQ (a0.2 + (a1.2 * a2))).s), natA (rawQ (a0.2 + (a1.2 * a2))).l1, natA (rawQ (a0.2 + (a1.2 * a2))).l2], [(0, .row 84 4 (out_3.map termC) 0)])) (U7 : 0 ≤ 1 ∧ 1 ≤ (l_3.length : Int)) :
    Cont 0 (exec Tryz.prog (tab (n + 1)) 0 113 (livesOf 158) big mg_C3) (livesOf 158 3) (mg_h3 a0 a1 a2 l_3 l2_3 out_3) (mg_h3 a0 a1 a2 (l_3.drop 1) l2_3 out_3) := by
  have C1_ : 0 < l_3.length := by omega
  have C1_z : (l_3.length : Int) ≠ 0 := by omega
  have C1_e : ((l_3.length : Int) == 0) = false := by simpa using C1_z
  have C1_g : ((l_3.length : Int) != 0) = true := by simpa using C1_z
  have C2_ : ((l2_3.length : Int) == 0) = false := by simpa using C2
  have C2_n : ((l2_3.length : Int) != 0) = true := by simpa using C2
  have C2_l : 0 < (l2_3.length : Int) := by omega
  obtain ⟨EL3, EG3⟩ := List.getElem?_eq_some_iff.1 E3
  obtain ⟨EL4, EG4⟩ := List.getElem?_eq_some_iff.1 E4
  simp only [ratV] at K6
  unfold Cont
  simp +decide [mg_h3, loopsOf, Tryz.f158, mg_C3, C1, C1_, C1_e, C1_g, C2_, C2_n, C2_l, EL3, EG3, E3, EL4, EG4, E4, C5, K6, U7]
theorem mg_r3_4 (C1 : 0 < (l_3.length : Int)) (C2 : ¬ (l2_3.length : Int) = 0) (E3 : l_3[0]? = some (v9, q9)) (E4 : l2_3[0]? = some (v10, q10)) (C5 : v9 < v10) (K6 : runL n 137 [.agg [.own 0 out_3.length, .lit (.bool (rawQ (a0.2 + (a1.2 * a2))).s), natA (rawQ (a0.2 + (a1.2 * a2))).l1, natA (rawQ (a0.2 + (a1.2 * a2))).l2], .lit (.int .i64 v9), ratV q9] [.row 84 4 (out_3.map termC) 0] = some (.agg [.own 4 R12.length, .lit (.bool (rawQ (a0.2 + (a1.2 * a2))).s), natA (rawQ (a0.2 + (a1.2 * a2))).l1, natA (rawQ (a0.2 + (a1.2 * a2))).l2], [(4, .row 84 4 (R12.map termC) 0)])) (U7 : 0 ≤ 1 ∧ 1 ≤ (l_3.length : Int)) :
    Cont 0 (exec Tryz.prog (tab (n + 1)) 0 113 (livesOf 158) big mg_C3) (livesOf 158 3) (mg_h3 a0 a1 a2 l_3 l2_3 out_3) (mg_h3 a0 a1 a2 (l_3.drop 1) l2_3 R12) := by
  have C1_ : 0 < l_3.length := by omega
  have C1_z : (l_3.length : Int) ≠ 0 := by omega
  have C1_e : ((l_3.length : Int) == 0) = false := by simpa using C1_z
  have C1_g : ((l_3.length : Int) != 0) = true := by simpa using C1_z
  have C2_ : ((l2_3.length : Int) == 0) = false := by simpa using C2
  have C2_n : ((l2_3.length : Int) != 0) = true := by simpa using C2
  have C2_l : 0 < (l2_3.length : Int) := by omega
  obtain ⟨EL3, EG3⟩ := List.getElem?_eq_some_iff.1 E3
  obtain ⟨EL4, EG4⟩ := List.getElem?_eq_some_iff.1 E4
  simp only [ratV] at K6
  unfold Cont
  simp +decide [mg_h3, loopsOf, Tryz.f158, mg_C3, C1, C1_, C1_e, C1_g, C2_, C2_n, C2_l, EL3, EG3, E3, EL4, EG4, E4, C5, K6, U7]
theorem mg_r3_5 (C1 : 0 < (l_3.length : Int)) (C2 : ¬ (l2_3.length : Int) = 0) (E3 : l_3[0]? = some (v9, q9)) (E4 : l2_3[0]? = some (v10, q10)) (C5 : ¬ v9 < v10) (C6 : v10 < v9) (B7a : H q10 ≤ 17179869184) (B7b : H a2 ≤ 17179869184) (K8 : runL n 137 [.agg [.own 0 out_3.length, .lit (.bool (rawQ (a0.2 + (a1.2 * a2))).s), natA (rawQ (a0.2 + (a1.2 * a2))).l1, natA (rawQ (a0.2 + (a1.2 * a2))).l2], .lit (.int .i64 v10), ratV (q10 * a2)] [.row 84 4 (out_3.map termC) 0] = some (.agg [.own 0 out_3.length, .lit (.bool (rawQ (a0.2 + (a1.2 * a2))).s), natA (rawQ (a0.2 + (a1.2 * a2))).l1, natA (rawQ (a0.2 + (a1.2 * a2))).l2], [(0, .row 84 4 (out_3.map termC) 0)])) (U9 : 0 ≤ 1 ∧ 1 ≤ (l2_3.length : Int)) :
    Cont 0 (exec Tryz.prog (tab (n + 1)) 0 113 (livesOf 158) big mg_C3) (livesOf 158 3) (mg_h3 a0 a1 a2 l_3 l2_3 out_3) (mg_h3 a0 a1 a2 l_3 (l2_3.drop 1) out_3) := by
  have C1_ : 0 < l_3.length := by omega
  have C1_z : (l_3.length : Int) ≠ 0 := by omega
  have C1_e : ((l_3.length : Int) == 0) = false := by simpa using C1_z
  have C1_g : ((l_3.length : Int) != 0) = true := by simpa using C1_z
  have C2_ : ((l2_3.length : Int) == 0) = false := by simpa using C2
  have C2_n : ((l2_3.length : Int) != 0) = true := by simpa using C2
  have C2_l : 0 < (l2_3.length : Int) := by omega
  obtain ⟨EL3, EG3⟩ := List.getElem?_eq_some_iff.1 E3
  obtain ⟨EL4, EG4⟩ := List.getElem?_eq_some_iff.1 E4
  have K7 := r_mul (p := q10) (q := a2) B7a B7b
  simp only [ratV] at K8
  unfold Cont
  simp +decide [mg_h3, loopsOf, Tryz.f158, mg_C3, C1, C1_, C1_e, C1_g, C2_, C2_n, C2_l, EL3, EG3, E3, EL4, EG4, E4, C5, C6, K7, K8, U9]
theorem mg_r3_6 (C1 : 0 < (l_3.length : Int)) (C2 : ¬ (l2_3.length : Int) = 0) (E3 : l_3[0]? = some (v9, q9)) (E4 : l2_3[0]? = some (v10, q10)) (C5 : ¬ v9 < v10) (C6 : v10 < v9) (B7a : H q10 ≤ 17179869184) (B7b : H a2 ≤ 17179869184) (K8 : runL n 137 [.agg [.own 0 out_3.length, .lit (.bool (rawQ (a0.2 + (a1.2 * a2))).s), natA (rawQ (a0.2 + (a1.2 * a2))).l1, natA (rawQ (a0.2 + (a1.2 * a2))).l2], .lit (.int .i64 v10), ratV (q10 * a2)] [.row 84 4 (out_3.map termC) 0] = some (.agg [.own 4 R13.length, .lit (.bool (rawQ (a0.2 + (a1.2 * a2))).s), natA (rawQ (a0.2 + (a1.2 * a2))).l1, natA (rawQ (a0.2 + (a1.2 * a2))).l2], [(4, .row 84 4 (R13.map termC) 0)])) (U9 : 0 ≤ 1 ∧ 1 ≤ (l2_3.length : Int)) :
    Cont 0 (exec Tryz.prog (tab (n + 1)) 0 113 (livesOf 158) big mg_C3) (livesOf 158 3) (mg_h3 a0 a1 a2 l_3 l2_3 out_3) (mg_h3 a0 a1 a2 l_3 (l2_3.drop 1) R13) := by
  have C1_ : 0 < l_3.length := by omega
  have C1_z : (l_3.length : Int) ≠ 0 := by omega
  have C1_e : ((l_3.length : Int) == 0) = false := by simpa using C1_z
  have C1_g : ((l_3.length : Int) != 0) = true := by simpa using C1_z
  have C2_ : ((l2_3.length : Int) == 0) = false := by simpa using C2
  have C2_n : ((l2_3.length : Int) != 0) = true := by simpa using C2
  have C2_l : 0 < (l2_3.length : Int) := by omega
  obtain ⟨EL3, EG3⟩ := List.getElem?_eq_some_iff.1 E3
  obtain ⟨EL4, EG4⟩ := List.getElem?_eq_some_iff.1 E4
  have K7 := r_mul (p := q10) (q := a2) B7a B7b
  simp only [ratV] at K8
  unfold Cont
  simp +decide [mg_h3, loopsOf, Tryz.f158, mg_C3, C1, C1_, C1_e, C1_g, C2_, C2_n, C2_l, EL3, EG3, E3, EL4, EG4, E4, C5, C6, K7, K8, U9]
theorem mg_r3_7 (C1 : 0 < (l_3.length : Int)) (C2 : ¬ (l2_3.length : Int) = 0) (E3 : l_3[0]? = some (v9, q9)) (E4 : l2_3[0]? = some (v10, q10)) (C5 : ¬ v9 < v10) (C6 : ¬ v10 < v9) (B7a : H q10 ≤ 17179869184) (B7b : H a2 ≤ 17179869184) (B8a : H q9 ≤ 17179869184) (B8b : H (q10 * a2) ≤ 17179869184) (K9 : runL n 137 [.agg [.own 0 out_3.length, .lit (.bool (rawQ (a0.2 + (a1.2 * a2))).s), natA (rawQ (a0.2 + (a1.2 * a2))).l1, natA (rawQ (a0.2 + (a1.2 * a2))).l2], .lit (.int .i64 v9), ratV (q9 + (q10 * a2))] [.row 84 4 (out_3.map termC) 0] = some (.agg [.own 0 out_3.length, .lit (.bool (rawQ (a0.2 + (a1.2 * a2))).s), natA (rawQ (a0.2 + (a1.2 * a2))).l1, natA (rawQ (a0.2 + (a1.2 * a2))).l2], [(0, .row 84 4 (out_3.map termC) 0)])) (U10 : 0 ≤ 1 ∧ 1 ≤ (l_3.length : Int)) (U11 : 0 ≤ 1 ∧ 1 ≤ (l2_3.length : Int)) :
    Cont 0 (exec Tryz.prog (tab (n + 1)) 0 113 (livesOf 158) big mg_C3) (livesOf 158 3) (mg_h3 a0 a1 a2 l_3 l2_3 out_3) (mg_h3 a0 a1 a2 (l_3.drop 1) (l2_3.drop 1) out_3) := by
  have C1_ : 0 < l_3.length := by omega
  have C1_z : (l_3.length : Int) ≠ 0 := by omega
  have C1_e : ((l_3.length : Int) == 0) = false := by simpa using C1_z
  have C1_g : ((l_3.length : Int) != 0) = true := by simpa using C1_z
  have C2_ : ((l2_3.length : Int) == 0) = false := by simpa using C2
  have C2_n : ((l2_3.length : Int) != 0) = true := by simpa using C2
  have C2_l : 0 < (l2_3.length : Int) := by omega
  obtain ⟨EL3, EG3⟩ := List.getElem?_eq_some_iff.1 E3
  obtain ⟨EL4, EG4⟩ := List.getElem?_eq_some_iff.1 E4
  have K7 := r_mul (p := q10) (q := a2) B7a B7b
  have K8 := r_add (p := q9) (q := q10 * a2) B8a B8b
  simp only [ratV] at K9
  unfold Cont
  simp +decide [mg_h3, loopsOf, Tryz.f158, mg_C3, C1, C1_, C1_e, C1_g, C2_, C2_n, C2_l, EL3, EG3, E3, EL4, EG4, E4, C5, C6, K7, K8, K9, U10, U11]
theorem mg_r3_8 (C1 : 0 < (l_3.length : Int)) (C2 : ¬ (l2_3.length : Int) = 0) (E3 : l_3[0]? = some (v9, q9)) (E4 : l2_3[0]? = some (v10, q10)) (C5 : ¬ v9 < v10) (C6 : ¬ v10 < v9) (B7a : H q10 ≤ 17179869184) (B7b : H a2 ≤ 17179869184) (B8a : H q9 ≤ 17179869184) (B8b : H (q10 * a2) ≤ 17179869184) (K9 : runL n 137 [.agg [.own 0 out_3.length, .lit (.bool (rawQ (a0.2 + (a1.2 * a2))).s), natA (rawQ (a0.2 + (a1.2 * a2))).l1, natA (rawQ (a0.2 + (a1.2 * a2))).l2], .lit (.int .i64 v9), ratV (q9 + (q10 * a2))] [.row 84 4 (out_3.map termC) 0] = some (.agg [.own 4 R14.length, .lit (.bool (rawQ (a0.2 + (a1.2 * a2))).s), natA (rawQ (a0.2 + (a1.2 * a2))).l1, natA (rawQ (a0.2 + (a1.2 * a2))).l2], [(4, .row 84 4 (R14.map termC) 0)])) (U10 : 0 ≤ 1 ∧ 1 ≤ (l_3.length : Int)) (U11 : 0 ≤ 1 ∧ 1 ≤ (l2_3.length : Int)) :
    Cont 0 (exec Tryz.prog (tab (n + 1)) 0 113 (livesOf 158) big mg_C3) (livesOf 158 3) (mg_h3 a0 a1 a2 l_3 l2_3 out_3) (mg_h3 a0 a1 a2 (l_3.drop 1) (l2_3.drop 1) R14) := by
  have C1_ : 0 < l_3.length := by omega
  have C1_z : (l_3.length : Int) ≠ 0 := by omega
  have C1_e : ((l_3.length : Int) == 0) = false := by simpa using C1_z
  have C1_g : ((l_3.length : Int) != 0) = true := by simpa using C1_z
  have C2_ : ((l2_3.length : Int) == 0) = false := by simpa using C2
  have C2_n : ((l2_3.length : Int) != 0) = true := by simpa using C2
  have C2_l : 0 < (l2_3.length : Int) := by omega
  obtain ⟨EL3, EG3⟩ := List.getElem?_eq_some_iff.1 E3
  obtain ⟨EL4, EG4⟩ := List.getElem?_eq_some_iff.1 E4
  have K7 := r_mul (p := q10) (q := a2) B7a B7b
  have K8 := r_add (p := q9) (q := q10 * a2) B8a B8b
  simp only [ratV] at K9
  unfold Cont
  simp +decide [mg_h3, loopsOf, Tryz.f158, mg_C3, C1, C1_, C1_e, C1_g, C2_, C2_n, C2_l, EL3, EG3, E3, EL4, EG4, E4, C5, C6, K7, K8, K9, U10, U11]
theorem mg_r3_9 (C1 : ¬ 0 < (l_3.length : Int)) (C2 : 0 < (l2_3.length : Int)) (E3 : l2_3[0]? = some (v12, q12)) (B4a : H q12 ≤ 17179869184) (B4b : H a2 ≤ 17179869184) (K5 : runL n 137 [.agg [.own 0 out_3.length, .lit (.bool (rawQ (a0.2 + (a1.2 * a2))).s), natA (rawQ (a0.2 + (a1.2 * a2))).l1, natA (rawQ (a0.2 + (a1.2 * a2))).l2], .lit (.int .i64 v12), ratV (q12 * a2)] [.row 84 4 (out_3.map termC) 0] = some (.agg [.own 0 out_3.length, .lit (.bool (rawQ (a0.2 + (a1.2 * a2))).s), natA (rawQ (a0.2 + (a1.2 * a2))).l1, natA (rawQ (a0.2 + (a1.2 * a2))).l2], [(0, .row 84 4 (out_3.map termC) 0)])) (U6 : 0 ≤ 1 ∧ 1 ≤ (l2_3.length : Int)) :
    Cont 0 (exec Tryz.prog (tab (n + 1)) 0 113 (livesOf 158) big mg_C3) (livesOf 158 3) (mg_h3 a0 a1 a2 l_3 l2_3 out_3) (mg_h3 a0 a1 a2 l_3 (l2_3.drop 1) out_3) := by
  have C1_ : ¬ 0 < l_3.length := by omega
  have C1_z : (l_3.length : Int) = 0 := by omega
  have C1_e : ((l_3.length : Int) == 0) = true := by rw [C1_z]; simp
  have C1_g : ((l_3.length : Int) != 0) = false := by rw [C1_z]; simp
  have C2_ : 0 < l2_3.length := by omega
  have C2_z : (l2_3.length : Int) ≠ 0 := by omega
  have C2_e : ((l2_3.length : Int) == 0) = false := by simpa using C2_z
  have C2_g : ((l2_3.length : Int) != 0) = true := by simpa using C2_z
  obtain ⟨EL3, EG3⟩ := List.getElem?_eq_some_iff.1 E3
  have K4 := r_mul (p := q12) (q := a2) B4a B4b
  simp only [ratV] at K5
  unfold Cont
  simp +decide [mg_h3, loopsOf, Tryz.f158, mg_C3, C1, C1_, C1_e, C1_g, C2, C2_, C2_e, C2_g, EL3, EG3, E3, K4, K5, U6]
theorem mg_r3_10 (C1 : ¬ 0 < (l_3.length : Int)) (C2 : 0 < (l2_3.length : Int)) (E3 : l2_3[0]? = some (v12, q12)) (B4a : H q12 ≤ 17179869184) (B4b : H a2 ≤ 17179869184) (K5 : runL n 137 [.agg [.own 0 out_3.length, .lit (.bool (rawQ (a0.2 + (a1.2 * a2))).s), natA (rawQ (a0.2 + (a1.2 * a2))).l1, natA (rawQ (a0.2 + (a1.2 * a2))).l2], .lit (.int .i64 v12), ratV (q12 * a2)] [.row 84 4 (out_3.map termC) 0] = some (.agg [.own 4 R15.length, .lit (.bool (rawQ (a0.2 + (a1.2 * a2))).s), natA (rawQ (a0.2 + (a1.2 * a2))).l1, natA (rawQ (a0.2 + (a1.2 * a2))).l2], [(4, .row 84 4 (R15.map termC) 0)])) (U6 : 0 ≤ 1 ∧ 1 ≤ (l2_3.length : Int)) :
    Cont 0 (exec Tryz.prog (tab (n + 1)) 0 113 (livesOf 158) big mg_C3) (livesOf 158 3) (mg_h3 a0 a1 a2 l_3 l2_3 out_3) (mg_h3 a0 a1 a2 l_3 (l2_3.drop 1) R15) := by
  have C1_ : ¬ 0 < l_3.length := by omega
  have C1_z : (l_3.length : Int) = 0 := by omega
  have C1_e : ((l_3.length : Int) == 0) = true := by rw [C1_z]; simp
  have C1_g : ((l_3.length : Int) != 0) = false := by rw [C1_z]; simp
  have C2_ : 0 < l2_3.length := by omega
  have C2_z : (l2_3.length : Int) ≠ 0 := by omega
  have C2_e : ((l2_3.length : Int) == 0) = false := by simpa using C2_z
  have C2_g : ((l2_3.length : Int) != 0) = true := by simpa using C2_z
  obtain ⟨EL3, EG3⟩ := List.getElem?_eq_some_iff.1 E3
  have K4 := r_mul (p := q12) (q := a2) B4a B4b
  simp only [ratV] at K5
  unfold Cont
  simp +decide [mg_h3, loopsOf, Tryz.f158, mg_C3, C1, C1_, C1_e, C1_g, C2, C2_, C2_e, C2_g, EL3, EG3, E3, K4, K5, U6]
theorem mg_x3_1 (C1 : ¬ 0 < (l_3.length : Int)) (C2 : ¬ 0 < (l2_3.length : Int)) :
    Leave 0 (exec Tryz.prog (tab (n + 1)) 0 113 (livesOf 158) big mg_C3) (livesOf 158 (outOf 3)) (mg_h3 a0 a1 a2 l_3 l2_3 out_3) (.exit 0) (mg_o3a a0 a1 a2 out_3) := by
  have C1_ : ¬ 0 < l_3.length := by omega
  have C1_z : (l_3.length : Int) = 0 := by omega
  have C1_e : ((l_3.length : Int) == 0) = true := by rw [C1_z]; simp
  have C1_g : ((l_3.length : Int) != 0) = false := by rw [C1_z]; simp
  have C2_ : ¬ 0 < l2_3.length := by omega
  have C2_z : (l2_3.length : Int) = 0 := by omega
  have C2_e : ((l2_3.length : Int) == 0) = true := by rw [C2_z]; simp
  have C2_g : ((l2_3.length : Int) != 0) = false := by rw [C2_z]; simp
  unfold Leave
  simp +decide [mg_h3, loopsOf, Tryz.f158, mg_o3a, mg_C3, C1, C1_, C1_e, C1_g, C2, C2_, C2_e, C2_g]
theorem mg_f1 (B1a : H a1.2 ≤ 17179869184) (B1b : H a2 ≤ 17179869184) (B2a : H a0.2 ≤ 17179869184) (B2b : H (a1.2 * a2) ≤ 17179869184) (L3 : loopG Tryz.prog (tab (n + 1)) 0 113 (livesOf 158) 3 mg_C3 (mg_h3 a0 a1 a2 a0.1 a1.1 []) = some (.exit 0, mg_o3a a0 a1 a2 out_3)) :
    run (n + 1) 158 [formV a0, formV a1, ratV a2] = some (formV (out_3, a0.2 + (a1.2 * a2))) := by
  have K1 := r_mul (p := a1.2) (q := a2) B1a B1b
  have K2 := r_add (p := a0.2) (q := a1.2 * a2) B2a B2b
  unfold run fnP
  simp +decide [Tryz.f158, K1, K2]
  rw [loopX_G (C' := mg_C3) (e := (mg_h3 a0 a1 a2 a0.1 a1.1 [])) ?_ ?_, L3]
  rotate_left
  · kernel_rfl
  · simp +decide [mg_h3, K1, K2]
  simp +decide [mg_o3a, K1, K2]
end
theorem lad_f1 {n : Nat} {a0 : Form} {a1 : Form} {r : Form} (K2 : run (n + 1) 158 [formV a0, formV a1, ratV (ofQ 1)] = some (formV r)) :
    run (n + 2) 113 [formV a0, formV a1] = some (formV r) := by
  have K1 := r_ofq (z := 1) (by omega) (by omega)
  simp only [ratV, formV] at K2
  unfold run fnP
  simp +decide [Tryz.f113, K1, K2]
theorem lsc_f1 {n : Nat} {a0 : Form} {a1 : Rat} {r : Form} (K1 : run (n + 1) 158 [.agg [.sl 4 [], .lit (.bool false), .sl 1 [], .sl 1 []], formV a0, ratV a1] = some (formV r)) :
    run (n + 2) 84 [formV a0, ratV a1] = some (formV r) := by
  simp only [ratV, formV] at K1
  unfold run fnP
  simp +decide [Tryz.f84, K1]
end Go.Proofs.YtlpmemelhlnfbaaGreatDoor
set_option linter.all false
set_option maxRecDepth 100000
set_option maxHeartbeats 6400000
namespace Go.Proofs.YtlpmemelhlnfbaaGreatDoor
open Go.RowKit
attribute [local irreducible] run runL loopG exec
def mgK : List (Int × Rat) → List (Int × Rat) → Nat
  | [], m => m.length
  | a :: l, [] => (a :: l).length
  | a :: l, b :: m => 1 + if a.1 < b.1 then mgK l (b :: m) else if b.1 < a.1 then mgK (a :: l) m else mgK l m
termination_by l m => l.length + m.length
theorem mgK_nil (m : List (Int × Rat)) : mgK [] m = m.length := by rw [mgK]
theorem mgK_a (a : Int × Rat) (l : List (Int × Rat)) : mgK (a :: l) [] = l.length + 1 := by rw [mgK]; rfl
theorem mgK_ab (a b : Int × Rat) (l m : List (Int × Rat)) : mgK (a :: l) (b :: m) = 1 + if a.1 < b.1 then mgK l (b :: m) else if b.1 < a.1 then mgK (a :: l) m else mgK l m := by rw [mgK]
theorem mgK_one (l : List (Int × Rat)) : mgK l [] = l.length := by cases l; exact mgK_nil []; exact mgK_a _ _
theorem mgK_le : ∀ (k : Nat) (l m : List (Int × Rat)), l.length + m.length ≤ k → mgK l m ≤ l.length + m.length
  | k, [], m, h => by rw [mgK_nil]; simp
  | k, a :: l, [], h => by rw [mgK_a]; simp
  | 0, a :: l, b :: m, h => by simp at h
  | k + 1, a :: l, b :: m, h => by
    simp only [List.length_cons] at h
    have h1 := mgK_le k l (b :: m) (by simp <;> omega)
    have h2 := mgK_le k (a :: l) m (by simp <;> omega)
    have h3 := mgK_le k l m (by omega)
    simp only [List.length_cons] at h1 h2
    rw [mgK_ab]
    simp only [List.length_cons]
    split
    · omega
    · split <;> omega
structure MgS where
  l : List (Int × Rat)
  m : List (Int × Rat)
  out : List (Int × Rat)
theorem put_no {v : Int} {q : Rat} (h : q = 0) : put1 v q = [] := if_pos h
theorem put_yes {v : Int} {q : Rat} (h : ¬ q = 0) : put1 v q = [(v, q)] := if_neg h
theorem merge_c {n : Nat} {f g : Form} {c : Rat} {b : Nat} (hF : ∀ t ∈ f.1, H t.2 ≤ b) (hG : ∀ t ∈ g.1, H t.2 ≤ b) (hb : b ≤ 1000000) (hc : H c ≤ 1000000) (hk : H f.2 ≤ 1000000) (hk2 : H g.2 ≤ 1000000) (hlf : f.1.length ≤ 1000000) (hlg : g.1.length ≤ 1000000) :
    run (n + 1) 158 [formV f, formV g, ratV c] = some (formV (mergeV f.1 g.1 c, f.2 + g.2 * c)) := by
  have hm := H_mul g.2 c
  have ha := H_add f.2 (g.2 * c)
  have hM := mgK_le _ f.1 g.1 (Nat.le_refl _)
  obtain ⟨b', hL, hI⟩ := loopG_R (O := tab (n + 1)) (P := Tryz.prog) (m := 0) (N := 113) (lives := livesOf 158) (r := 3) (C := mg_C3) (exN := .exit 0) (M := mgK f.1 g.1) (enc := fun i (s : MgS) => mg_h3 f g c s.l s.m s.out) (out := fun s => mg_o3a f g c s.out)
    (fun i s => s.out ++ mergeV s.l s.m c = mergeV f.1 g.1 c ∧ mgK s.l s.m + i = mgK f.1 g.1 ∧ s.out.length ≤ i ∧ (∀ t ∈ s.l, H t.2 ≤ b) ∧ ∀ t ∈ s.m, H t.2 ≤ b) ⟨f.1, g.1, []⟩ ⟨rfl, rfl, by simp, hF, hG⟩ (by omega) (by simp)
    (fun i s hi hI => by
      obtain ⟨l, m, out⟩ := s
      obtain ⟨i1, i2, i3, i4, i5⟩ := hI
      dsimp only at i1 i2 i3 i4 i5 ⊢
      have fin : ∀ (l' m' : List (Int × Rat)) (v : Int) (q : Rat), mergeV l m c = put1 v q ++ mergeV l' m' c → mgK l m = 1 + mgK l' m' → (∀ t ∈ l', H t.2 ≤ b) → (∀ t ∈ m', H t.2 ≤ b) → ∀ (q' : Rat), q' = q →
          (out ++ put1 v q') ++ mergeV l' m' c = mergeV f.1 g.1 c ∧ mgK l' m' + (i + 1) = mgK f.1 g.1 ∧ (out ++ put1 v q').length ≤ i + 1 ∧ (∀ t ∈ l', H t.2 ≤ b) ∧ ∀ t ∈ m', H t.2 ≤ b := fun l' m' v q h1 h2 h3 h4 q' hq => by
        subst hq
        refine ⟨by rw [List.append_assoc, ← h1]; exact i1, by omega, ?_, h3, h4⟩
        have := put1_len v q'
        rw [List.length_append]; omega
      match l, m with
      | [], [] => rw [mgK_nil] at i2; simp at i2; omega
      | (v, q) :: l, [] =>
        have e := fin l [] v q (mergeV_a (v, q) l c) (by rw [mgK_a, mgK_one]; omega) (fun t ht => i4 t (by simp [ht])) i5 q rfl
        have hq : H q ≤ b := i4 (v, q) (by simp)
        by_cases h0 : q = 0
        · rw [put_no h0, List.append_nil] at e
          exact ⟨⟨l, [], out⟩, mg_r3_1 (l_3 := (v, q) :: l) (by simp <;> omega) (by simp) rfl (pt_same (by omega) h0) ⟨by omega, by simp <;> omega⟩, e⟩
        · rw [put_yes h0] at e
          exact ⟨⟨l, [], out ++ [(v, q)]⟩, mg_r3_2 (l_3 := (v, q) :: l) (by simp <;> omega) (by simp) rfl (pt_new (by omega) h0 (by omega)) ⟨by omega, by simp <;> omega⟩, e⟩
      | [], (u, p) :: m =>
        have e := fin [] m u (p * c) (mergeV_b (u, p) m c) (by rw [mgK_nil, mgK_nil, List.length_cons]; omega) i4 (fun t ht => i5 t (by simp [ht])) (p * c) rfl
        have hp : H p ≤ b := i5 (u, p) (by simp)
        have hpc := H_mul p c
        by_cases h0 : p * c = 0
        · rw [put_no h0, List.append_nil] at e
          exact ⟨⟨[], m, out⟩, mg_r3_9 (l2_3 := (u, p) :: m) (by simp) (by simp <;> omega) rfl (by omega) (by omega) (pt_same (by omega) h0) ⟨by omega, by simp <;> omega⟩, e⟩
        · rw [put_yes h0] at e
          exact ⟨⟨[], m, out ++ [(u, p * c)]⟩, mg_r3_10 (l2_3 := (u, p) :: m) (by simp) (by simp <;> omega) rfl (by omega) (by omega) (pt_new (by omega) h0 (by omega)) ⟨by omega, by simp <;> omega⟩, e⟩
      | (v, q) :: l, (u, p) :: m =>
        have hq : H q ≤ b := i4 (v, q) (by simp)
        have hp : H p ≤ b := i5 (u, p) (by simp)
        have hpc := H_mul p c
        have hqp := H_add q (p * c)
        have hk := mgK_ab (v, q) (u, p) l m
        dsimp only at hk
        by_cases c1 : v < u
        · rw [if_pos c1] at hk
          have e := fin l ((u, p) :: m) v q (mergeV_lt c1 l m c) hk (fun t ht => i4 t (by simp [ht])) i5 q rfl
          by_cases h0 : q = 0
          · rw [put_no h0, List.append_nil] at e
            exact ⟨⟨l, (u, p) :: m, out⟩, mg_r3_3 (l_3 := (v, q) :: l) (l2_3 := (u, p) :: m) (by simp <;> omega) (by simp <;> omega) rfl rfl c1 (pt_same (by omega) h0) ⟨by omega, by simp <;> omega⟩, e⟩
          · rw [put_yes h0] at e
            exact ⟨⟨l, (u, p) :: m, out ++ [(v, q)]⟩, mg_r3_4 (l_3 := (v, q) :: l) (l2_3 := (u, p) :: m) (by simp <;> omega) (by simp <;> omega) rfl rfl c1 (pt_new (by omega) h0 (by omega)) ⟨by omega, by simp <;> omega⟩, e⟩
        · rw [if_neg c1] at hk
          by_cases c2 : u < v
          · rw [if_pos c2] at hk
            have e := fin ((v, q) :: l) m u (p * c) (mergeV_gt c2 l m c) hk i4 (fun t ht => i5 t (by simp [ht])) (p * c) rfl
            by_cases h0 : p * c = 0
            · rw [put_no h0, List.append_nil] at e
              exact ⟨⟨(v, q) :: l, m, out⟩, mg_r3_5 (l_3 := (v, q) :: l) (l2_3 := (u, p) :: m) (by simp <;> omega) (by simp <;> omega) rfl rfl c1 c2 (by omega) (by omega) (pt_same (by omega) h0) ⟨by omega, by simp <;> omega⟩, e⟩
            · rw [put_yes h0] at e
              exact ⟨⟨(v, q) :: l, m, out ++ [(u, p * c)]⟩, mg_r3_6 (l_3 := (v, q) :: l) (l2_3 := (u, p) :: m) (by simp <;> omega) (by simp <;> omega) rfl rfl c1 c2 (by omega) (by omega) (pt_new (by omega) h0 (by omega)) ⟨by omega, by simp <;> omega⟩, e⟩
          · rw [if_neg c2] at hk
            have huv : v = u := by omega
            have e := fin l m v (q + p * c) (mergeV_eq huv l m c) hk (fun t ht => i4 t (by simp [ht])) (fun t ht => i5 t (by simp [ht])) (q + p * c) rfl
            by_cases h0 : q + p * c = 0
            · rw [put_no h0, List.append_nil] at e
              exact ⟨⟨l, m, out⟩, mg_r3_7 (l_3 := (v, q) :: l) (l2_3 := (u, p) :: m) (by simp <;> omega) (by simp <;> omega) rfl rfl c1 c2 (by omega) (by omega) (by omega) (by omega) (pt_same (by omega) h0) ⟨by omega, by simp <;> omega⟩ ⟨by omega, by simp <;> omega⟩, e⟩
            · rw [put_yes h0] at e
              exact ⟨⟨l, m, out ++ [(v, q + p * c)]⟩, mg_r3_8 (l_3 := (v, q) :: l) (l2_3 := (u, p) :: m) (by simp <;> omega) (by simp <;> omega) rfl rfl c1 c2 (by omega) (by omega) (by omega) (by omega) (pt_new (by omega) h0 (by omega)) ⟨by omega, by simp <;> omega⟩ ⟨by omega, by simp <;> omega⟩, e⟩)
    (fun s hI => by
      obtain ⟨l, m, out⟩ := s
      obtain ⟨_, i2, _⟩ := hI
      dsimp only at i2 ⊢
      have h0 : l = [] ∧ m = [] := by
        match l, m with
        | [], [] => exact ⟨rfl, rfl⟩
        | a :: l, [] => rw [mgK_a] at i2; omega
        | [], b :: m => rw [mgK_nil] at i2; simp at i2
        | a :: l, b :: m => rw [mgK_ab] at i2; omega
      obtain ⟨rfl, rfl⟩ := h0
      exact mg_x3_1 (by simp) (by simp))
  obtain ⟨l, m, out⟩ := b'
  obtain ⟨i1, i2, _⟩ := hI
  dsimp only at i1 i2 hL
  have h0 : l = [] ∧ m = [] := by
    match l, m with
    | [], [] => exact ⟨rfl, rfl⟩
    | a :: l, [] => rw [mgK_a] at i2; omega
    | [], b :: m => rw [mgK_nil] at i2; simp at i2
    | a :: l, b :: m => rw [mgK_ab] at i2; omega
  obtain ⟨rfl, rfl⟩ := h0
  rw [mergeV_nil, List.append_nil] at i1
  subst i1
  exact mg_f1 (by omega) (by omega) (by omega) (by omega) hL
theorem padd_c {n : Nat} {f g : Form} {b : Nat} (hF : ∀ t ∈ f.1, H t.2 ≤ b) (hG : ∀ t ∈ g.1, H t.2 ≤ b) (hb : b ≤ 1000000) (hk : H f.2 ≤ 1000000) (hk2 : H g.2 ≤ 1000000) (hlf : f.1.length ≤ 1000000) (hlg : g.1.length ≤ 1000000) :
    run (n + 2) 113 [formV f, formV g] = some (formV (mergeV f.1 g.1 1, f.2 + g.2)) := by
  have e : ofQ 1 = 1 := by decide +kernel
  have h := lad_f1 (n := n) (merge_c (n := n) (c := ofQ 1) hF hG hb (by rw [e]; decide) hk hk2 hlf hlg)
  rw [e, Rat.mul_one] at h
  exact h
theorem pscl_c {n : Nat} {f : Form} {c : Rat} {b : Nat} (hF : ∀ t ∈ f.1, H t.2 ≤ b) (hb : b ≤ 1000000) (hk : H f.2 ≤ 1000000) (hc : H c ≤ 1000000) (hlf : f.1.length ≤ 1000000) :
    run (n + 2) 84 [formV f, ratV c] = some (formV (mergeV [] f.1 c, f.2 * c)) := by
  have h := merge_c (n := n) (f := ([], 0)) (g := f) (c := c) (b := b) (fun t ht => by cases ht) hF hb hc (by decide) hk (by simp) hlf
  rw [Rat.zero_add] at h
  refine lsc_f1 (n := n) ?_
  simpa using h
end Go.Proofs.YtlpmemelhlnfbaaGreatDoor
set_option linter.all false
set_option maxRecDepth 100000
set_option maxHeartbeats 6400000
namespace Go.Proofs.YtlpmemelhlnfbaaGreatDoor
open Go.RowKit
noncomputable def lsb_C4 : Code := (loopsOf (bodyOf Tryz.f81)).getD 0 .skip
def lsb_h4 (a0 : Form) (a1 : Int) (a2 : Form) (i_4 : Nat) (out_4 : List (Int × Rat)) (s_4 : Rat) : St :=
  ⟨[(1, .lit (.int .i64 a1)), (5, .ptr 0 0), (6, .ptr 1 0), (7, .ptr 2 0), (8, .ptr 4 0), (16, .sl 4 (a0.1.map termC)), (17, .lit (.int .i64 (a0.1.length : Int))), (18, .lit (.int .i64 (i_4 : Int)))],
   [(0, some (.box 29 [.sl 4 (a2.1.map termC), .lit (.bool (rawQ a2.2).s), natA (rawQ a2.2).l1, natA (rawQ a2.2).l2] false)),
    (1, some (.box 29 [.nl 4, .lit (.bool false), .nl 1, .nl 1] false)),
    (2, some (.box 29 [.own 3 out_4.length, .lit (.bool (rawQ a0.2).s), natA (rawQ a0.2).l1, natA (rawQ a0.2).l2] false)),
    (3, some (.row 84 4 (out_4.map termC) 0)),
    (4, some (.box 27 [.lit (.bool (rawQ s_4).s), natA (rawQ s_4).l1, natA (rawQ s_4).l2] false))], 5⟩
def lsb_o4a (a0 : Form) (a2 : Form) (out_4 : List (Int × Rat)) (s_4 : Rat) : St :=
  ⟨[(5, .ptr 0 0), (6, .ptr 1 0), (7, .ptr 2 0), (8, .ptr 4 0)],
   [(0, some (.box 29 [.sl 4 (a2.1.map termC), .lit (.bool (rawQ a2.2).s), natA (rawQ a2.2).l1, natA (rawQ a2.2).l2] false)),
    (1, some (.box 29 [.nl 4, .lit (.bool false), .nl 1, .nl 1] false)),
    (2, some (.box 29 [.own 3 out_4.length, .lit (.bool (rawQ a0.2).s), natA (rawQ a0.2).l1, natA (rawQ a0.2).l2] false)),
    (3, some (.row 84 4 (out_4.map termC) 0)),
    (4, some (.box 27 [.lit (.bool (rawQ s_4).s), natA (rawQ s_4).l1, natA (rawQ s_4).l2] false))], 5⟩
section
variable {a1 : Int} {v3 : Int} {q3 : Rat} {a2 : Form} {i_4 : Nat} {s_4 : Rat} {a0 : Form} {out_4 : List (Int × Rat)} {n : Nat} {r : Form}
theorem lsb_r4_1 (C1 : (i_4 : Int) < (a0.1.length : Int)) (E2 : a0.1[i_4]? = some (v3, q3)) (C3 : v3 = a1) (W4 : InI ((i_4 : Int) + 1)) :
    Cont 0 (exec Tryz.prog (tab (n + 2)) 0 39 (livesOf 81) big lsb_C4) (livesOf 81 4) (lsb_h4 a0 a1 a2 i_4 out_4 s_4) (lsb_h4 a0 a1 a2 (i_4 + 1) out_4 q3) := by
  have C1_ : i_4 < a0.1.length := by omega
  obtain ⟨EL2, EG2⟩ := List.getElem?_eq_some_iff.1 E2
  have C3_ : (v3 == a1) = true := by rw [C3]; simp
  have C3_n : (v3 != a1) = false := by rw [C3]; simp
  have W4_ : IntKind.i64.wrap ((i_4 : Int) + 1) = (i_4 : Int) + 1 := wr64 W4.1 W4.2
  unfold Cont
  simp +decide [lsb_h4, loopsOf, Tryz.f81, lsb_C4, natA, C1, C1_, EL2, EG2, E2, C3_, C3_n, W4_]
theorem lsb_r4_2 (C1 : (i_4 : Int) < (a0.1.length : Int)) (E2 : a0.1[i_4]? = some (v3, q3)) (C3 : ¬ v3 = a1) (M4 : out_4.length + 1 ≤ 100000000) (W5 : InI ((i_4 : Int) + 1)) :
    Cont 0 (exec Tryz.prog (tab (n + 2)) 0 39 (livesOf 81) big lsb_C4) (livesOf 81 4) (lsb_h4 a0 a1 a2 i_4 out_4 s_4) (lsb_h4 a0 a1 a2 (i_4 + 1) (out_4 ++ [(v3, q3)]) s_4) := by
  have C1_ : i_4 < a0.1.length := by omega
  obtain ⟨EL2, EG2⟩ := List.getElem?_eq_some_iff.1 E2
  have C3_ : (v3 == a1) = false := by simpa using C3
  have C3_n : (v3 != a1) = true := by simpa using C3
  have M4_ : ∀ b, b ≤ 10000 → roomy (out_4.length + 1) b = true := fun b hb => roomy_s M4 hb
  have W5_ : IntKind.i64.wrap ((i_4 : Int) + 1) = (i_4 : Int) + 1 := wr64 W5.1 W5.2
  unfold Cont
  simp +decide [lsb_h4, loopsOf, Tryz.f81, lsb_C4, natA, C1, C1_, EL2, EG2, E2, C3_, C3_n, M4_, W5_]
theorem lsb_x4_1 (C1 : ¬ (i_4 : Int) < (a0.1.length : Int)) :
    Leave 0 (exec Tryz.prog (tab (n + 2)) 0 39 (livesOf 81) big lsb_C4) (livesOf 81 (outOf 4)) (lsb_h4 a0 a1 a2 i_4 out_4 s_4) (.exit 0) (lsb_o4a a0 a2 out_4 s_4) := by
  have C1_ : ¬ i_4 < a0.1.length := by omega
  unfold Leave
  simp +decide [lsb_h4, loopsOf, Tryz.f81, lsb_o4a, lsb_C4, C1, C1_]
theorem lsb_f1 (L1 : loopG Tryz.prog (tab (n + 2)) 0 39 (livesOf 81) 4 lsb_C4 (lsb_h4 a0 a1 a2 0 [] 0) = some (.exit 0, lsb_o4a a0 a2 out_4 s_4)) (K2 : run (n + 1) 158 [formV (out_4, a0.2), formV a2, ratV s_4] = some (formV r)) :
    run (n + 2) 81 [formV a0, .lit (.int .i64 a1), formV a2] = some (formV r) := by
  simp only [ratV, formV] at K2
  unfold run fnP
  simp +decide [Tryz.f81, K2]
  rw [loopX_G (C' := lsb_C4) (e := (lsb_h4 a0 a1 a2 0 [] 0)) ?_ ?_, L1]
  rotate_left
  · kernel_rfl
  · simp +decide [lsb_h4, K2]
  simp +decide [lsb_o4a, K2]
end
theorem fsb_f1 {n : Nat} {a0 : Form} {a1 : Int} {a2 : Form} {r : Rat} {r2 : Form} {r3 : Form} {r4 : Form} (K1 : run (n + 2) 175 [formV a0, .lit (.int .i64 a1)] = some (ratV r)) (B2a : H r ≤ 17179869184) (K3 : run (n + 2) 138 [formV a0, .lit (.int .i64 a1), ratV (-r)] = some (formV r2)) (K4 : run (n + 2) 87 [formV a2, ratV r] = some (formV r3)) (K5 : run (n + 2) 115 [formV r2, formV r3] = some (formV r4)) :
    run (n + 3) 117 [formV a0, .lit (.int .i64 a1), formV a2] = some (formV r4) := by
  simp only [ratV, formV] at K1
  have K2 := r_neg (p := r) B2a
  simp only [ratV, formV] at K3
  simp only [ratV, formV] at K4
  simp only [formV] at K5
  unfold run fnP
  simp +decide [Tryz.f117, K1, K2, K3, K4, K5]
end Go.Proofs.YtlpmemelhlnfbaaGreatDoor
set_option linter.all false
set_option maxRecDepth 100000
set_option maxHeartbeats 6400000
namespace Go.Proofs.YtlpmemelhlnfbaaGreatDoor
open Go.RowKit
attribute [local irreducible] run runL loopG exec
def rst (F : List (Int × Rat)) (v : Int) : List (Int × Rat) := F.filter fun t => decide (t.1 ≠ v)
theorem rst_eq {t : Int × Rat} {F : List (Int × Rat)} {v : Int} (h : t.1 = v) : rst (t :: F) v = rst F v := by unfold rst; rw [List.filter_cons_of_neg]; simp [h]
theorem rst_ne {t : Int × Rat} {F : List (Int × Rat)} {v : Int} (h : t.1 ≠ v) : rst (t :: F) v = t :: rst F v := by unfold rst; rw [List.filter_cons_of_pos]; simp [h]
theorem rst_mem {t : Int × Rat} {F : List (Int × Rat)} {v : Int} (h : t ∈ rst F v) : t ∈ F := (List.mem_filter.1 h).1
theorem rst_len (F : List (Int × Rat)) (v : Int) : (rst F v).length ≤ F.length := List.length_filter_le _ _
theorem rst_srt {F : List (Int × Rat)} {v : Int} (h : Srt F) : Srt (rst F v) := ⟨h.1.filter _, fun t ht => h.2 t (rst_mem ht)⟩
theorem rst_cof (v u : Int) : ∀ (F : List (Int × Rat)), cof (rst F v) u = if u = v then 0 else cof F u
  | [] => by
    have e : rst [] v = [] := rfl
    rw [e, cof_nil]; split <;> rfl
  | t :: F => by
    by_cases h : t.1 = v
    · rw [rst_eq h, rst_cof v u F]
      split
      · rfl
      · rw [cof_tl (by omega)]
    · rw [rst_ne h]
      by_cases h2 : u = t.1
      · rw [cof_hd h2, if_neg (by omega), cof_hd h2]
      · rw [cof_tl h2, rst_cof v u F, cof_tl h2]
theorem rst_plus {F : List (Int × Rat)} {v : Int} (h : Srt F) : plusV false F v (-(cof F v)) = rst F v := by
  obtain ⟨a1, a2, _⟩ := plus_srt (v := v) (c := -(cof F v)) h
  refine srt_ext a1 (rst_srt h) fun u => ?_
  rw [a2, rst_cof]
  split
  · rename_i e; subst e; grind
  · grind
def lstC (v : Int) : Rat → List (Int × Rat) → Rat
  | s, [] => s
  | s, t :: F => lstC v (if t.1 = v then t.2 else s) F
theorem lstC_no {v : Int} : ∀ {F : List (Int × Rat)} {s : Rat}, (∀ t ∈ F, t.1 ≠ v) → lstC v s F = s
  | [], _, _ => rfl
  | t :: F, s, h => by
    rw [lstC, if_neg (h t (by simp))]
    exact lstC_no fun u hu => h u (by simp [hu])
theorem lstC_cof {v : Int} : ∀ {F : List (Int × Rat)}, Srt F → lstC v 0 F = cof F v
  | [], _ => rfl
  | t :: F, h => by
    rw [lstC]
    by_cases e : t.1 = v
    · rw [if_pos e, cof_hd e.symm]
      exact lstC_no fun u hu => by have := h.head u hu; omega
    · rw [if_neg e, cof_tl (by omega)]
      exact lstC_cof h.tail
def sbF (v : Int) (_ : Nat) (b : List (Int × Rat) × Rat) (t : Int × Rat) : List (Int × Rat) × Rat := if t.1 = v then (b.1, t.2) else (b.1 ++ [t], b.2)
theorem sbF_fold {v : Int} : ∀ {F : List (Int × Rat)} {i : Nat} {b : List (Int × Rat) × Rat}, foldI (sbF v) i b F = (b.1 ++ rst F v, lstC v b.2 F)
  | [], i, b => by
    have e : rst [] v = [] := rfl
    rw [foldI, e, List.append_nil, lstC]
  | t :: F, i, b => by
    rw [foldI, sbF_fold, lstC]
    unfold sbF
    by_cases e : t.1 = v
    · rw [if_pos e, if_pos e, rst_eq e]
    · rw [if_neg e, if_neg e, rst_ne e]
      simp
theorem lsb_c {n : Nat} {f g : Form} {v : Int} {b : Nat} (hS : Srt f.1) (hF : ∀ t ∈ f.1, H t.2 ≤ b) (hG : ∀ t ∈ g.1, H t.2 ≤ b) (hb : b ≤ 1000000) (h1 : 1 ≤ b) (hk : H f.2 ≤ 1000000) (hk2 : H g.2 ≤ 1000000) (hlf : f.1.length ≤ 1000000) (hlg : g.1.length ≤ 1000000) :
    run (n + 2) 81 [formV f, .lit (.int .i64 v), formV g] = some (formV (mergeV (rst f.1 v) g.1 (cof f.1 v), f.2 + g.2 * cof f.1 v)) := by
  have L := loopG_I (O := tab (n + 2)) (P := Tryz.prog) (m := 0) (N := 39) (lives := livesOf 81) (r := 4) (C := lsb_C4) (L := f.1) (f := sbF v) (enc := fun i b => lsb_h4 f v g i b.1 b.2) (exN := .exit 0) (out := fun b => lsb_o4a f g b.1 b.2) (Inv := fun i b => b.1.length ≤ i ∧ i ≤ f.1.length) ([], 0) ⟨by simp, by omega⟩ (by omega) (fun h => by cases h)
    (fun i t s hi hI => by
      obtain ⟨u, c⟩ := t
      obtain ⟨hI, _⟩ := hI
      have hlt := (List.getElem?_eq_some_iff.1 hi).1
      unfold sbF
      by_cases e : u = v
      · rw [if_pos e]
        exact ⟨lsb_r4_1 (by omega) hi e ⟨by omega, by omega⟩, by dsimp only; omega, hlt⟩
      · rw [if_neg e]
        exact ⟨lsb_r4_2 (by omega) hi e (by omega) ⟨by omega, by omega⟩, by simp; omega, hlt⟩)
    (fun b hI => lsb_x4_1 (by have := hI.2; omega))
  have L := L.1
  rw [sbF_fold] at L
  dsimp only at L
  rw [List.nil_append, lstC_cof hS] at L
  have hc : H (cof f.1 v) ≤ b := cof_H hF h1
  have hr := rst_len f.1 v
  exact lsb_f1 L (merge_c (n := n) (f := (rst f.1 v, f.2)) (b := b) (fun t ht => hF t (rst_mem ht)) hG hb (by omega) hk hk2 (by dsimp only; omega) hlg)
theorem fsbG_c {n : Nat} {f g : Form} {v : Int} (hS : Srt f.1) (hF : TmB 100 f.1) (hG : TmB 100 g.1) (hk : H f.2 ≤ 100) (hk2 : H g.2 ≤ 100) (hlf : f.1.length ≤ 100) (hlg : g.1.length ≤ 100) :
    run (n + 3) 117 [formV f, .lit (.int .i64 v), formV g] = some (formV (addV (rst f.1 v) (sclV g.1 (cof f.1 v)), f.2 + g.2 * cof f.1 v)) := by
  have hc : H (cof f.1 v) ≤ 100 := cof_H (fun t ht => (hF t ht).2) (by omega)
  have hn := H_neg (cof f.1 v)
  have hm := H_mul g.2 (cof f.1 v)
  have K1 := fco_c (n := n + 2) (f := f) (v := v) (by omega)
  have K3 := plus_c (n := n + 1) (f := f) (v := v) (c := -(cof f.1 v)) (hF.mono (by omega)) (by omega) (by omega)
  rw [rst_plus hS] at K3
  have K4 := scale_c (n := n + 1) (f := g) (c := cof f.1 v) (hG.mono (by omega)) (by omega) (by omega) (by omega)
  have hr := rst_len f.1 v
  have hs := sclV_len (cof f.1 v) g.1
  have tR : TmB 100 (rst f.1 v) := fun t ht => hF t (rst_mem ht)
  have K5 := add_c (n := n) (f := (rst f.1 v, f.2)) (g := (sclV g.1 (cof f.1 v), g.2 * cof f.1 v)) (m := 100) (b := 200) (hG.scl hc) (by dsimp only; omega) tR (by dsimp only; omega) (by dsimp only; omega) (by dsimp only; omega) (by dsimp only; omega)
  exact fsb_f1 K1 (by omega) K3 K4 K5
theorem InR.rst {k : Nat} {v : Int} {F : List (Int × Rat)} (h : InR k F) : InR k (rst F v) := fun t ht => h t (rst_mem ht)
end Go.Proofs.YtlpmemelhlnfbaaGreatDoor
