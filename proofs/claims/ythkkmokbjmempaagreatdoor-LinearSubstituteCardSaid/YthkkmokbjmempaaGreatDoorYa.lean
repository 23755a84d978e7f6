/- Walks: linear.merge, linear.Add, linear.Sub, linear.Scale. -/
import Derived.Test.YthkkmokbjmempaaGreatDoorUe
set_option linter.all false
set_option linter.all false
set_option maxRecDepth 100000
set_option maxHeartbeats 6400000
namespace Go.Proofs.YthkkmokbjmempaaGreatDoor
open Go.RowKit

/-! linear.merge, level 1 -/
noncomputable def mg_C3 : Code := (loopsOf (bodyOf Tryz.f77)).getD 0 .skip
def mg_h3 (a0 : Form) (a1 : Form) (a2 : Rat) (l_3 : List (Int × Rat)) (l2_3 : List (Int × Rat)) (out_3 : List (Int × Rat)) : St :=
  ⟨[(5, .ptr 0 0), (6, .ptr 1 0), (7, .ptr 2 0), (8, .sl 4 (l_3.map termC)), (9, .sl 4 (l2_3.map termC))],
   [(0, some (.box 27 [.lit (.bool (rawQ a2).s), natA (rawQ a2).l1, natA (rawQ a2).l2] false)),
    (1, some (.box 29 [.nl 4, .lit (.bool false), .nl 1, .nl 1] false)),
    (2, some (.box 29 [.own 3 out_3.length, .lit (.bool (rawQ (a0.2 + (a1.2 * a2))).s), natA (rawQ (a0.2 + (a1.2 * a2))).l1, natA (rawQ (a0.2 + (a1.2 * a2))).l2] false)),
    (3, some (.row 76 4 (out_3.map termC) 0))], 4⟩
def mg_o3a (a0 : Form) (a1 : Form) (a2 : Rat) (out_3 : List (Int × Rat)) : St :=
  ⟨[(6, .ptr 0 0), (7, .ptr 1 0)],
   [(0, some (.box 29 [.nl 4, .lit (.bool false), .nl 1, .nl 1] false)),
    (1, some (.box 29 [.own 2 out_3.length, .lit (.bool (rawQ (a0.2 + (a1.2 * a2))).s), natA (rawQ (a0.2 + (a1.2 * a2))).l1, natA (rawQ (a0.2 + (a1.2 * a2))).l2] false)),
    (2, some (.row 76 4 (out_3.map termC) 0))], 3⟩
theorem mg_r3_1 {n : Nat} {a0 : Form} {a1 : Form} {a2 : Rat} {l_3 : List (Int × Rat)} {l2_3 : List (Int × Rat)} {v11 : Int} {q11 : Rat} {out_3 : List (Int × Rat)} (C1 : 0 < (l_3.length : Int)) (C2 : (l2_3.length : Int) = 0) (E3 : l_3[0]? = some (v11, q11)) (K4 : runL n 98 [.agg [.own 0 out_3.length, .lit (.bool (rawQ (a0.2 + (a1.2 * a2))).s), natA (rawQ (a0.2 + (a1.2 * a2))).l1, natA (rawQ (a0.2 + (a1.2 * a2))).l2], .lit (.int .i64 v11), ratV q11] [.row 76 4 (out_3.map termC) 0] = some (.agg [.own 0 out_3.length, .lit (.bool (rawQ (a0.2 + (a1.2 * a2))).s), natA (rawQ (a0.2 + (a1.2 * a2))).l1, natA (rawQ (a0.2 + (a1.2 * a2))).l2], [(0, .row 76 4 (out_3.map termC) 0)])) (U5 : 0 ≤ 1 ∧ 1 ≤ (l_3.length : Int)) :
    Cont 0 (exec Tryz.prog (tab (n + 1)) 0 113 (livesOf 77) big mg_C3) (livesOf 77 3) (mg_h3 a0 a1 a2 l_3 l2_3 out_3) (mg_h3 a0 a1 a2 (l_3.drop 1) l2_3 out_3) := by
  have C1_ : 0 < l_3.length := by omega
  have C1_z : (l_3.length : Int) ≠ 0 := by omega
  have C1_e : ((l_3.length : Int) == 0) = false := by simpa using C1_z
  have C1_g : ((l_3.length : Int) != 0) = true := by simpa using C1_z
  have C2_ : ((l2_3.length : Int) == 0) = true := by rw [C2]; simp
  have C2_n : ((l2_3.length : Int) != 0) = false := by rw [C2]; simp
  have C2_l : ¬ 0 < (l2_3.length : Int) := by omega
  obtain ⟨EL3, EG3⟩ := List.getElem?_eq_some_iff.1 E3
  simp only [ratV] at K4
  unfold Cont
  simp +decide [mg_h3, loopsOf, Tryz.f77, mg_C3, C1, C1_, C1_e, C1_g, C2_, C2_n, C2_l, EL3, EG3, E3, K4, U5]
theorem mg_r3_2 {n : Nat} {a0 : Form} {a1 : Form} {a2 : Rat} {l_3 : List (Int × Rat)} {l2_3 : List (Int × Rat)} {v11 : Int} {q11 : Rat} {out_3 : List (Int × Rat)} {R11 : List (Int × Rat)} (C1 : 0 < (l_3.length : Int)) (C2 : (l2_3.length : Int) = 0) (E3 : l_3[0]? = some (v11, q11)) (K4 : runL n 98 [.agg [.own 0 out_3.length, .lit (.bool (rawQ (a0.2 + (a1.2 * a2))).s), natA (rawQ (a0.2 + (a1.2 * a2))).l1, natA (rawQ (a0.2 + (a1.2 * a2))).l2], .lit (.int .i64 v11), ratV q11] [.row 76 4 (out_3.map termC) 0] = some (.agg [.own 4 R11.length, .lit (.bool (rawQ (a0.2 + (a1.2 * a2))).s), natA (rawQ (a0.2 + (a1.2 * a2))).l1, natA (rawQ (a0.2 + (a1.2 * a2))).l2], [(4, .row 76 4 (R11.map termC) 0)])) (U5 : 0 ≤ 1 ∧ 1 ≤ (l_3.length : Int)) :
    Cont 0 (exec Tryz.prog (tab (n + 1)) 0 113 (livesOf 77) big mg_C3) (livesOf 77 3) (mg_h3 a0 a1 a2 l_3 l2_3 out_3) (mg_h3 a0 a1 a2 (l_3.drop 1) l2_3 R11) := by
  have C1_ : 0 < l_3.length := by omega
  have C1_z : (l_3.length : Int) ≠ 0 := by omega
  have C1_e : ((l_3.length : Int) == 0) = false := by simpa using C1_z
  have C1_g : ((l_3.length : Int) != 0) = true := by simpa using C1_z
  have C2_ : ((l2_3.length : Int) == 0) = true := by rw [C2]; simp
  have C2_n : ((l2_3.length : Int) != 0) = false := by rw [C2]; simp
  have C2_l : ¬ 0 < (l2_3.length : Int) := by omega
  obtain ⟨EL3, EG3⟩ := List.getElem?_eq_some_iff.1 E3
  simp only [ratV] at K4
  unfold Cont
  simp +decide [mg_h3, loopsOf, Tryz.f77, mg_C3, C1, C1_, C1_e, C1_g, C2_, C2_n, C2_l, EL3, EG3, E3, K4, U5]
theorem mg_r3_3 {n : Nat} {a0 : Form} {a1 : Form} {a2 : Rat} {l_3 : List (Int × Rat)} {l2_3 : List (Int × Rat)} {v9 : Int} {q9 : Rat} {v10 : Int} {q10 : Rat} {out_3 : List (Int × Rat)} (C1 : 0 < (l_3.length : Int)) (C2 : ¬ (l2_3.length : Int) = 0) (E3 : l_3[0]? = some (v9, q9)) (E4 : l2_3[0]? = some (v10, q10)) (C5 : v9 < v10) (K6 : runL n 98 [.agg [.own 0 out_3.length, .lit (.bool (rawQ (a0.2 + (a1.2 * a2))).s), natA (rawQ (a0.2 + (a1.2 * a2))).l1, natA (rawQ (a0.2 + (a1.2 * a2))).l2], .lit (.int .i64 v9), ratV q9] [.row 76 4 (out_3.map termC) 0] = some (.agg [.own 0 out_3.length, .lit (.bool (rawQ (a0.2 + (a1.2 * a2))).s), natA (rawQ (a0.2 + (a1.2 * a2))).l1, natA (rawQ (a0.2 + (a1.2 * a2))).l2], [(0, .row 76 4 (out_3.map termC) 0)])) (U7 : 0 ≤ 1 ∧ 1 ≤ (l_3.length : Int)) :
    Cont 0 (exec Tryz.prog (tab (n + 1)) 0 113 (livesOf 77) big mg_C3) (livesOf 77 3) (mg_h3 a0 a1 a2 l_3 l2_3 out_3) (mg_h3 a0 a1 a2 (l_3.drop 1) l2_3 out_3) := by
  have C1_ : 0 < l_3.length := by omega
  have C1_z : (l_3.length : Int) ≠ 0 := by omega
  have C1_e : ((l_3.length : Int) == 0) = false := by simpa using C1_z
  have C1_g : ((l_3.length : Int) != 0) = true := by simpa using C1_z
  have C2_ : ((l2_3.length : Int) == 0) = false := by simpa using C2
  have C2_n : ((l2_3.length : Int) != 0) = true := by simpa using C2
  have C2_l : 0 < (l2_3.length : Int) := by omega
  obtain ⟨EL3, EG3⟩ := List.getElem?_eq_some_iff.1 E3
  obtain ⟨EL4, EG4⟩ := List.getElem?_eq_some_iff.1 E4
  simp only [ratV] at K6
  unfold Cont
  simp +decide [mg_h3, loopsOf, Tryz.f77, mg_C3, C1, C1_, C1_e, C1_g, C2_, C2_n, C2_l, EL3, EG3, E3, EL4, EG4, E4, C5, K6, U7]
theorem mg_r3_4 {n : Nat} {a0 : Form} {a1 : Form} {a2 : Rat} {l_3 : List (Int × Rat)} {l2_3 : List (Int × Rat)} {v9 : Int} {q9 : Rat} {v10 : Int} {q10 : Rat} {out_3 : List (Int × Rat)} {R12 : List (Int × Rat)} (C1 : 0 < (l_3.length : Int)) (C2 : ¬ (l2_3.length : Int) = 0) (E3 : l_3[0]? = some (v9, q9)) (E4 : l2_3[0]? = some (v10, q10)) (C5 : v9 < v10) (K6 : runL n 98 [.agg [.own 0 out_3.length, .lit (.bool (rawQ (a0.2 + (a1.2 * a2))).s), natA (rawQ (a0.2 + (a1.2 * a2))).l1, natA (rawQ (a0.2 + (a1.2 * a2))).l2], .lit (.int .i64 v9), ratV q9] [.row 76 4 (out_3.map termC) 0] = some (.agg [.own 4 R12.length, .lit (.bool (rawQ (a0.2 + (a1.2 * a2))).s), natA (rawQ (a0.2 + (a1.2 * a2))).l1, natA (rawQ (a0.2 + (a1.2 * a2))).l2], [(4, .row 76 4 (R12.map termC) 0)])) (U7 : 0 ≤ 1 ∧ 1 ≤ (l_3.length : Int)) :
    Cont 0 (exec Tryz.prog (tab (n + 1)) 0 113 (livesOf 77) big mg_C3) (livesOf 77 3) (mg_h3 a0 a1 a2 l_3 l2_3 out_3) (mg_h3 a0 a1 a2 (l_3.drop 1) l2_3 R12) := by
  have C1_ : 0 < l_3.length := by omega
  have C1_z : (l_3.length : Int) ≠ 0 := by omega
  have C1_e : ((l_3.length : Int) == 0) = false := by simpa using C1_z
  have C1_g : ((l_3.length : Int) != 0) = true := by simpa using C1_z
  have C2_ : ((l2_3.length : Int) == 0) = false := by simpa using C2
  have C2_n : ((l2_3.length : Int) != 0) = true := by simpa using C2
  have C2_l : 0 < (l2_3.length : Int) := by omega
  obtain ⟨EL3, EG3⟩ := List.getElem?_eq_some_iff.1 E3
  obtain ⟨EL4, EG4⟩ := List.getElem?_eq_some_iff.1 E4
  simp only [ratV] at K6
  unfold Cont
  simp +decide [mg_h3, loopsOf, Tryz.f77, mg_C3, C1, C1_, C1_e, C1_g, C2_, C2_n, C2_l, EL3, EG3, E3, EL4, EG4, E4, C5, K6, U7]
theorem mg_r3_5 {n : Nat} {a0 : Form} {a1 : Form} {a2 : Rat} {l_3 : List (Int × Rat)} {l2_3 : List (Int × Rat)} {v9 : Int} {q9 : Rat} {v10 : Int} {q10 : Rat} {out_3 : List (Int × Rat)} (C1 : 0 < (l_3.length : Int)) (C2 : ¬ (l2_3.length : Int) = 0) (E3 : l_3[0]? = some (v9, q9)) (E4 : l2_3[0]? = some (v10, q10)) (C5 : ¬ v9 < v10) (C6 : v10 < v9) (B7a : H q10 ≤ 17179869184) (B7b : H a2 ≤ 17179869184) (K8 : runL n 98 [.agg [.own 0 out_3.length, .lit (.bool (rawQ (a0.2 + (a1.2 * a2))).s), natA (rawQ (a0.2 + (a1.2 * a2))).l1, natA (rawQ (a0.2 + (a1.2 * a2))).l2], .lit (.int .i64 v10), ratV (q10 * a2)] [.row 76 4 (out_3.map termC) 0] = some (.agg [.own 0 out_3.length, .lit (.bool (rawQ (a0.2 + (a1.2 * a2))).s), natA (rawQ (a0.2 + (a1.2 * a2))).l1, natA (rawQ (a0.2 + (a1.2 * a2))).l2], [(0, .row 76 4 (out_3.map termC) 0)])) (U9 : 0 ≤ 1 ∧ 1 ≤ (l2_3.length : Int)) :
    Cont 0 (exec Tryz.prog (tab (n + 1)) 0 113 (livesOf 77) big mg_C3) (livesOf 77 3) (mg_h3 a0 a1 a2 l_3 l2_3 out_3) (mg_h3 a0 a1 a2 l_3 (l2_3.drop 1) out_3) := by
  have C1_ : 0 < l_3.length := by omega
  have C1_z : (l_3.length : Int) ≠ 0 := by omega
  have C1_e : ((l_3.length : Int) == 0) = false := by simpa using C1_z
  have C1_g : ((l_3.length : Int) != 0) = true := by simpa using C1_z
  have C2_ : ((l2_3.length : Int) == 0) = false := by simpa using C2
  have C2_n : ((l2_3.length : Int) != 0) = true := by simpa using C2
  have C2_l : 0 < (l2_3.length : Int) := by omega
  obtain ⟨EL3, EG3⟩ := List.getElem?_eq_some_iff.1 E3
  obtain ⟨EL4, EG4⟩ := List.getElem?_eq_some_iff.1 E4
  have K7 := r_mul (p := q10) (q := a2) B7a B7b
  simp only [ratV] at K8
  unfold Cont
  simp +decide [mg_h3, loopsOf, Tryz.f77, mg_C3, C1, C1_, C1_e, C1_g, C2_, C2_n, C2_l, EL3, EG3, E3, EL4, EG4, E4, C5, C6, K7, K8, U9]
theorem mg_r3_6 {n : Nat} {a0 : Form} {a1 : Form} {a2 : Rat} {l_3 : List (Int × Rat)} {l2_3 : List (Int × Rat)} {v9 : Int} {q9 : Rat} {v10 : Int} {q10 : Rat} {out_3 : List (Int × Rat)} {R13 : List (Int × Rat)} (C1 : 0 < (l_3.length : Int)) (C2 : ¬ (l2_3.length : Int) = 0) (E3 : l_3[0]? = some (v9, q9)) (E4 : l2_3[0]? = some (v10, q10)) (C5 : ¬ v9 < v10) (C6 : v10 < v9) (B7a : H q10 ≤ 17179869184) (B7b : H a2 ≤ 17179869184) (K8 : runL n 98 [.agg [.own 0 out_3.length, .lit (.bool (rawQ (a0.2 + (a1.2 * a2))).s), natA (rawQ (a0.2 + (a1.2 * a2))).l1, natA (rawQ (a0.2 + (a1.2 * a2))).l2], .lit (.int .i64 v10), ratV (q10 * a2)] [.row 76 4 (out_3.map termC) 0] = some (.agg [.own 4 R13.length, .lit (.bool (rawQ (a0.2 + (a1.2 * a2))).s), natA (rawQ (a0.2 + (a1.2 * a2))).l1, natA (rawQ (a0.2 + (a1.2 * a2))).l2], [(4, .row 76 4 (R13.map termC) 0)])) (U9 : 0 ≤ 1 ∧ 1 ≤ (l2_3.length : Int)) :
    Cont 0 (exec Tryz.prog (tab (n + 1)) 0 113 (livesOf 77) big mg_C3) (livesOf 77 3) (mg_h3 a0 a1 a2 l_3 l2_3 out_3) (mg_h3 a0 a1 a2 l_3 (l2_3.drop 1) R13) := by
  have C1_ : 0 < l_3.length := by omega
  have C1_z : (l_3.length : Int) ≠ 0 := by omega
  have C1_e : ((l_3.length : Int) == 0) = false := by simpa using C1_z
  have C1_g : ((l_3.length : Int) != 0) = true := by simpa using C1_z
  have C2_ : ((l2_3.length : Int) == 0) = false := by simpa using C2
  have C2_n : ((l2_3.length : Int) != 0) = true := by simpa using C2
  have C2_l : 0 < (l2_3.length : Int) := by omega
  obtain ⟨EL3, EG3⟩ := List.getElem?_eq_some_iff.1 E3
  obtain ⟨EL4, EG4⟩ := List.getElem?_eq_some_iff.1 E4
  have K7 := r_mul (p := q10) (q := a2) B7a B7b
  simp only [ratV] at K8
  unfold Cont
  simp +decide [mg_h3, loopsOf, Tryz.f77, mg_C3, C1, C1_, C1_e, C1_g, C2_, C2_n, C2_l, EL3, EG3, E3, EL4, EG4, E4, C5, C6, K7, K8, U9]
theorem mg_r3_7 {n : Nat} {a0 : Form} {a1 : Form} {a2 : Rat} {l_3 : List (Int × Rat)} {l2_3 : List (Int × Rat)} {v9 : Int} {q9 : Rat} {v10 : Int} {q10 : Rat} {out_3 : List (Int × Rat)} (C1 : 0 < (l_3.length : Int)) (C2 : ¬ (l2_3.length : Int) = 0) (E3 : l_3[0]? = some (v9, q9)) (E4 : l2_3[0]? = some (v10, q10)) (C5 : ¬ v9 < v10) (C6 : ¬ v10 < v9) (B7a : H q10 ≤ 17179869184) (B7b : H a2 ≤ 17179869184) (B8a : H q9 ≤ 17179869184) (B8b : H (q10 * a2) ≤ 17179869184) (K9 : runL n 98 [.agg [.own 0 out_3.length, .lit (.bool (rawQ (a0.2 + (a1.2 * a2))).s), natA (rawQ (a0.2 + (a1.2 * a2))).l1, natA (rawQ (a0.2 + (a1.2 * a2))).l2], .lit (.int .i64 v9), ratV (q9 + (q10 * a2))] [.row 76 4 (out_3.map termC) 0] = some (.agg [.own 0 out_3.length, .lit (.bool (rawQ (a0.2 + (a1.2 * a2))).s), natA (rawQ (a0.2 + (a1.2 * a2))).l1, natA (rawQ (a0.2 + (a1.2 * a2))).l2], [(0, .row 76 4 (out_3.map termC) 0)])) (U10 : 0 ≤ 1 ∧ 1 ≤ (l_3.length : Int)) (U11 : 0 ≤ 1 ∧ 1 ≤ (l2_3.length : Int)) :
    Cont 0 (exec Tryz.prog (tab (n + 1)) 0 113 (livesOf 77) big mg_C3) (livesOf 77 3) (mg_h3 a0 a1 a2 l_3 l2_3 out_3) (mg_h3 a0 a1 a2 (l_3.drop 1) (l2_3.drop 1) out_3) := by
  have C1_ : 0 < l_3.length := by omega
  have C1_z : (l_3.length : Int) ≠ 0 := by omega
  have C1_e : ((l_3.length : Int) == 0) = false := by simpa using C1_z
  have C1_g : ((l_3.length : Int) != 0) = true := by simpa using C1_z
  have C2_ : ((l2_3.length : Int) == 0) = false := by simpa using C2
  have C2_n : ((l2_3.length : Int) != 0) = true := by simpa using C2
  have C2_l : 0 < (l2_3.length : Int) := by omega
  obtain ⟨EL3, EG3⟩ := List.getElem?_eq_some_iff.1 E3
  obtain ⟨EL4, EG4⟩ := List.getElem?_eq_some_iff.1 E4
  have K7 := r_mul (p := q10) (q := a2) B7a B7b
  have K8 := r_add (p := q9) (q := q10 * a2) B8a B8b
  simp only [ratV] at K9
  unfold Cont
  simp +decide [mg_h3, loopsOf, Tryz.f77, mg_C3, C1, C1_, C1_e, C1_g, C2_, C2_n, C2_l, EL3, EG3, E3, EL4, EG4, E4, C5, C6, K7, K8, K9, U10, U11]
theorem mg_r3_8 {n : Nat} {a0 : Form} {a1 : Form} {a2 : Rat} {l_3 : List (Int × Rat)} {l2_3 : List (Int × Rat)} {v9 : Int} {q9 : Rat} {v10 : Int} {q10 : Rat} {out_3 : List (Int × Rat)} {R14 : List (Int × Rat)} (C1 : 0 < (l_3.length : Int)) (C2 : ¬ (l2_3.length : Int) = 0) (E3 : l_3[0]? = some (v9, q9)) (E4 : l2_3[0]? = some (v10, q10)) (C5 : ¬ v9 < v10) (C6 : ¬ v10 < v9) (B7a : H q10 ≤ 17179869184) (B7b : H a2 ≤ 17179869184) (B8a : H q9 ≤ 17179869184) (B8b : H (q10 * a2) ≤ 17179869184) (K9 : runL n 98 [.agg [.own 0 out_3.length, .lit (.bool (rawQ (a0.2 + (a1.2 * a2))).s), natA (rawQ (a0.2 + (a1.2 * a2))).l1, natA (rawQ (a0.2 + (a1.2 * a2))).l2], .lit (.int .i64 v9), ratV (q9 + (q10 * a2))] [.row 76 4 (out_3.map termC) 0] = some (.agg [.own 4 R14.length, .lit (.bool (rawQ (a0.2 + (a1.2 * a2))).s), natA (rawQ (a0.2 + (a1.2 * a2))).l1, natA (rawQ (a0.2 + (a1.2 * a2))).l2], [(4, .row 76 4 (R14.map termC) 0)])) (U10 : 0 ≤ 1 ∧ 1 ≤ (l_3.length : Int)) (U11 : 0 ≤ 1 ∧ 1 ≤ (l2_3.length : Int)) :
    Cont 0 (exec Tryz.prog (tab (n + 1)) 0 113 (livesOf 77) big mg_C3) (livesOf 77 3) (mg_h3 a0 a1 a2 l_3 l2_3 out_3) (mg_h3 a0 a1 a2 (l_3.drop 1) (l2_3.drop 1) R14) := by
  have C1_ : 0 < l_3.length := by omega
  have C1_z : (l_3.length : Int) ≠ 0 := by omega
  have C1_e : ((l_3.length : Int) == 0) = false := by simpa using C1_z
  have C1_g : ((l_3.length : Int) != 0) = true := by simpa using C1_z
  have C2_ : ((l2_3.length : Int) == 0) = false := by simpa using C2
  have C2_n : ((l2_3.length : Int) != 0) = true := by simpa using C2
  have C2_l : 0 < (l2_3.length : Int) := by omega
  obtain ⟨EL3, EG3⟩ := List.getElem?_eq_some_iff.1 E3
  obtain ⟨EL4, EG4⟩ := List.getElem?_eq_some_iff.1 E4
  have K7 := r_mul (p := q10) (q := a2) B7a B7b
  have K8 := r_add (p := q9) (q := q10 * a2) B8a B8b
  simp only [ratV] at K9
  unfold Cont
  simp +decide [mg_h3, loopsOf, Tryz.f77, mg_C3, C1, C1_, C1_e, C1_g, C2_, C2_n, C2_l, EL3, EG3, E3, EL4, EG4, E4, C5, C6, K7, K8, K9, U10, U11]
theorem mg_r3_9 {n : Nat} {a0 : Form} {a1 : Form} {a2 : Rat} {l_3 : List (Int × Rat)} {l2_3 : List (Int × Rat)} {v12 : Int} {q12 : Rat} {out_3 : List (Int × Rat)} (C1 : ¬ 0 < (l_3.length : Int)) (C2 : 0 < (l2_3.length : Int)) (E3 : l2_3[0]? = some (v12, q12)) (B4a : H q12 ≤ 17179869184) (B4b : H a2 ≤ 17179869184) (K5 : runL n 98 [.agg [.own 0 out_3.length, .lit (.bool (rawQ (a0.2 + (a1.2 * a2))).s), natA (rawQ (a0.2 + (a1.2 * a2))).l1, natA (rawQ (a0.2 + (a1.2 * a2))).l2], .lit (.int .i64 v12), ratV (q12 * a2)] [.row 76 4 (out_3.map termC) 0] = some (.agg [.own 0 out_3.length, .lit (.bool (rawQ (a0.2 + (a1.2 * a2))).s), natA (rawQ (a0.2 + (a1.2 * a2))).l1, natA (rawQ (a0.2 + (a1.2 * a2))).l2], [(0, .row 76 4 (out_3.map termC) 0)])) (U6 : 0 ≤ 1 ∧ 1 ≤ (l2_3.length : Int)) :
    Cont 0 (exec Tryz.prog (tab (n + 1)) 0 113 (livesOf 77) big mg_C3) (livesOf 77 3) (mg_h3 a0 a1 a2 l_3 l2_3 out_3) (mg_h3 a0 a1 a2 l_3 (l2_3.drop 1) out_3) := by
  have C1_ : ¬ 0 < l_3.length := by omega
  have C1_z : (l_3.length : Int) = 0 := by omega
  have C1_e : ((l_3.length : Int) == 0) = true := by rw [C1_z]; simp
  have C1_g : ((l_3.length : Int) != 0) = false := by rw [C1_z]; simp
  have C2_ : 0 < l2_3.length := by omega
  have C2_z : (l2_3.length : Int) ≠ 0 := by omega
  have C2_e : ((l2_3.length : Int) == 0) = false := by simpa using C2_z
  have C2_g : ((l2_3.length : Int) != 0) = true := by simpa using C2_z
  obtain ⟨EL3, EG3⟩ := List.getElem?_eq_some_iff.1 E3
  have K4 := r_mul (p := q12) (q := a2) B4a B4b
  simp only [ratV] at K5
  unfold Cont
  simp +decide [mg_h3, loopsOf, Tryz.f77, mg_C3, C1, C1_, C1_e, C1_g, C2, C2_, C2_e, C2_g, EL3, EG3, E3, K4, K5, U6]
theorem mg_r3_10 {n : Nat} {a0 : Form} {a1 : Form} {a2 : Rat} {l_3 : List (Int × Rat)} {l2_3 : List (Int × Rat)} {v12 : Int} {q12 : Rat} {out_3 : List (Int × Rat)} {R15 : List (Int × Rat)} (C1 : ¬ 0 < (l_3.length : Int)) (C2 : 0 < (l2_3.length : Int)) (E3 : l2_3[0]? = some (v12, q12)) (B4a : H q12 ≤ 17179869184) (B4b : H a2 ≤ 17179869184) (K5 : runL n 98 [.agg [.own 0 out_3.length, .lit (.bool (rawQ (a0.2 + (a1.2 * a2))).s), natA (rawQ (a0.2 + (a1.2 * a2))).l1, natA (rawQ (a0.2 + (a1.2 * a2))).l2], .lit (.int .i64 v12), ratV (q12 * a2)] [.row 76 4 (out_3.map termC) 0] = some (.agg [.own 4 R15.length, .lit (.bool (rawQ (a0.2 + (a1.2 * a2))).s), natA (rawQ (a0.2 + (a1.2 * a2))).l1, natA (rawQ (a0.2 + (a1.2 * a2))).l2], [(4, .row 76 4 (R15.map termC) 0)])) (U6 : 0 ≤ 1 ∧ 1 ≤ (l2_3.length : Int)) :
    Cont 0 (exec Tryz.prog (tab (n + 1)) 0 113 (livesOf 77) big mg_C3) (livesOf 77 3) (mg_h3 a0 a1 a2 l_3 l2_3 out_3) (mg_h3 a0 a1 a2 l_3 (l2_3.drop 1) R15) := by
  have C1_ : ¬ 0 < l_3.length := by omega
  have C1_z : (l_3.length : Int) = 0 := by omega
  have C1_e : ((l_3.length : Int) == 0) = true := by rw [C1_z]; simp
  have C1_g : ((l_3.length : Int) != 0) = false := by rw [C1_z]; simp
  have C2_ : 0 < l2_3.length := by omega
  have C2_z : (l2_3.length : Int) ≠ 0 := by omega
  have C2_e : ((l2_3.length : Int) == 0) = false := by simpa using C2_z
  have C2_g : ((l2_3.length : Int) != 0) = true := by simpa using C2_z
  obtain ⟨EL3, EG3⟩ := List.getElem?_eq_some_iff.1 E3
  have K4 := r_mul (p := q12) (q := a2) B4a B4b
  simp only [ratV] at K5
  unfold Cont
  simp +decide [mg_h3, loopsOf, Tryz.f77, mg_C3, C1, C1_, C1_e, C1_g, C2, C2_, C2_e, C2_g, EL3, EG3, E3, K4, K5, U6]
theorem mg_x3_1 {n : Nat} {a0 : Form} {a1 : Form} {a2 : Rat} {l_3 : List (Int × Rat)} {l2_3 : List (Int × Rat)} {out_3 : List (Int × Rat)} (C1 : ¬ 0 < (l_3.length : Int)) (C2 : ¬ 0 < (l2_3.length : Int)) :
    Leave 0 (exec Tryz.prog (tab (n + 1)) 0 113 (livesOf 77) big mg_C3) (livesOf 77 (outOf 3)) (mg_h3 a0 a1 a2 l_3 l2_3 out_3) (.exit 0) (mg_o3a a0 a1 a2 out_3) := by
  have C1_ : ¬ 0 < l_3.length := by omega
  have C1_z : (l_3.length : Int) = 0 := by omega
  have C1_e : ((l_3.length : Int) == 0) = true := by rw [C1_z]; simp
  have C1_g : ((l_3.length : Int) != 0) = false := by rw [C1_z]; simp
  have C2_ : ¬ 0 < l2_3.length := by omega
  have C2_z : (l2_3.length : Int) = 0 := by omega
  have C2_e : ((l2_3.length : Int) == 0) = true := by rw [C2_z]; simp
  have C2_g : ((l2_3.length : Int) != 0) = false := by rw [C2_z]; simp
  unfold Leave
  simp +decide [mg_h3, loopsOf, Tryz.f77, mg_o3a, mg_C3, C1, C1_, C1_e, C1_g, C2, C2_, C2_e, C2_g]
theorem mg_f1 {n : Nat} {a0 : Form} {a1 : Form} {a2 : Rat} {out_3 : List (Int × Rat)} (B1a : H a1.2 ≤ 17179869184) (B1b : H a2 ≤ 17179869184) (B2a : H a0.2 ≤ 17179869184) (B2b : H (a1.2 * a2) ≤ 17179869184) (L3 : loopG Tryz.prog (tab (n + 1)) 0 113 (livesOf 77) 3 mg_C3 (mg_h3 a0 a1 a2 a0.1 a1.1 []) = some (.exit 0, mg_o3a a0 a1 a2 out_3)) :
    run (n + 1) 77 [formV a0, formV a1, ratV a2] = some (formV (out_3, a0.2 + (a1.2 * a2))) := by
  have K1 := r_mul (p := a1.2) (q := a2) B1a B1b
  have K2 := r_add (p := a0.2) (q := a1.2 * a2) B2a B2b
  unfold run fnP
  simp +decide [Tryz.f77, K1, K2]
  rw [loopX_G (C' := mg_C3) (e := (mg_h3 a0 a1 a2 a0.1 a1.1 [])) ?_ ?_, L3]
  rotate_left
  · kernel_rfl
  · simp +decide [mg_h3, K1, K2]
  simp +decide [mg_o3a, K1, K2]
/-! linear.Add, level 2 -/
/-! linear.Sub, level 2 -/
/-! linear.Scale, level 2 -/
end Go.Proofs.YthkkmokbjmempaaGreatDoor
