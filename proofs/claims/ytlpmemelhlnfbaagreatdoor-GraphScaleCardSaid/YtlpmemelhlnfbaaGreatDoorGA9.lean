/- Walks: linear.merge, linear.Add, linear.Scale. Walks: linear.Coef, linear.copied, linear.Eval, relucertref07.Coef, relucertref07.Sub. Walks: relucertref07.Equal, relucertref07.EqualAll, relucertref07.Make. -/
import Derived.Test.YtlpmemelhlnfbaaGreatDoorGA5
set_option linter.all false
set_option linter.all false
set_option maxRecDepth 100000
set_option maxHeartbeats 6400000
namespace Go.Proofs.YtlpmemelhlnfbaaGreatDoor
open Go.RowKit

/-! linear.merge, level 1 -/
noncomputable def mg_C3 : Code := (loopsOf (bodyOf Tryz.f158)).getD 0 .skip
def mg_h3 (a0 : Form) (a1 : Form) (a2 : Rat) (l_3 : List (Int × Rat)) (l2_3 : List (Int × Rat)) (out_3 : List (Int × Rat)) : St :=
  ⟨[(5, .ptr 0 0), (6, .ptr 1 0), (7, .ptr 2 0), (8, .sl 4 (l_3.map termC)), (9, .sl 4 (l2_3.map termC))],
   [(0, some (.box 27 [.lit (.bool (rawQ a2).s), natA (rawQ a2).l1, natA (rawQ a2).l2] false)),
    (1, some (.box 29 [.nl 4, .lit (.bool false), .nl 1, .nl 1] false)),
    (2, some (.box 29 [.own 3 out_3.length, .lit (.bool (rawQ (a0.2 + (a1.2 * a2))).s), natA (rawQ (a0.2 + (a1.2 * a2))).l1, natA (rawQ (a0.2 + (a1.2 * a2))).l2] false)),
    (3, some (.row 84 4 (out_3.map termC) 0))], 4⟩
def mg_o3a (a0 : Form) (a1 : Form) (a2 : Rat) (out_3 : List (Int × Rat)) : St :=
  ⟨[(6, .ptr 0 0), (7, .ptr 1 0)],
   [(0, some (.box 29 [.nl 4, .lit (.bool false), .nl 1, .nl 1] false)),
    (1, some (.box 29 [.own 2 out_3.length, .lit (.bool (rawQ (a0.2 + (a1.2 * a2))).s), natA (rawQ (a0.2 + (a1.2 * a2))).l1, natA (rawQ (a0.2 + (a1.2 * a2))).l2] false)),
    (2, some (.row 84 4 (out_3.map termC) 0))], 3⟩
theorem mg_r3_1 {n : Nat} {a0 : Form} {a1 : Form} {a2 : Rat} {l_3 : List (Int × Rat)} {l2_3 : List (Int × Rat)} {v11 : Int} {q11 : Rat} {out_3 : List (Int × Rat)} (C1 : 0 < (l_3.length : Int)) (C2 : (l2_3.length : Int) = 0) (E3 : l_3[0]? = some (v11, q11)) (K4 : runL n 137 [.agg [.own 0 out_3.length, .lit (.bool (rawQ (a0.2 + (a1.2 * a2))).s), natA (rawQ (a0.2 + (a1.2 * a2))).l1, natA (rawQ (a0.2 + (a1.2 * a2))).l2], .lit (.int .i64 v11), ratV q11] [.row 84 4 (out_3.map termC) 0] = some (.agg [.own 0 out_3.length, .lit (.bool (rawQ (a0.2 + (a1.2 * a2))).s), natA (rawQ (a0.2 + (a1.2 * a2))).l1, natA (rawQ (a0.2 + (a1.2 * a2))).l2], [(0, .row 84 4 (out_3.map termC) 0)])) (U5 : 0 ≤ 1 ∧ 1 ≤ (l_3.length : Int)) :
    Cont 0 (exec Tryz.prog (tab (n + 1)) 0 113 (livesOf 158) big mg_C3) (livesOf 158 3) (mg_h3 a0 a1 a2 l_3 l2_3 out_3) (mg_h3 a0 a1 a2 (l_3.drop 1) l2_3 out_3) := by
  have C1_ : 0 < l_3.length := by omega
  have C1_z : (l_3.length : Int) ≠ 0 := by omega
  have C1_e : ((l_3.length : Int) == 0) = false := by simpa using C1_z
  have C1_g : ((l_3.length : Int) != 0) = true := by simpa using C1_z
  have C2_ : ((l2_3.length : Int) == 0) = true := by rw [C2]; simp
  have C2_n : ((l2_3.length : Int) != 0) = false := by rw [C2]; simp
  have C2_l : ¬ 0 < (l2_3.length : Int) := by omega
  obtain ⟨EL3, EG3⟩ := List.getElem?_eq_some_iff.1 E3
  simp only [ratV] at K4
  unfold Cont
  simp +decide [mg_h3, loopsOf, Tryz.f158, mg_C3, C1, C1_, C1_e, C1_g, C2_, C2_n, C2_l, EL3, EG3, E3, K4, U5]
theorem mg_r3_2 {n : Nat} {a0 : Form} {a1 : Form} {a2 : Rat} {l_3 : List (Int × Rat)} {l2_3 : List (Int × Rat)} {v11 : Int} {q11 : Rat} {out_3 : List (Int × Rat)} {R11 : List (Int × Rat)} (C1 : 0 < (l_3.length : Int)) (C2 : (l2_3.length : Int) = 0) (E3 : l_3[0]? = some (v11, q11)) (K4 : runL n 137 [.agg [.own 0 out_3.length, .lit (.bool (rawQ (a0.2 + (a1.2 * a2))).s), natA (rawQ (a0.2 + (a1.2 * a2))).l1, natA (rawQ (a0.2 + (a1.2 * a2))).l2], .lit (.int .i64 v11), ratV q11] [.row 84 4 (out_3.map termC) 0] = some (.agg [.own 4 R11.length, .lit (.bool (rawQ (a0.2 + (a1.2 * a2))).s), natA (rawQ (a0.2 + (a1.2 * a2))).l1, natA (rawQ (a0.2 + (a1.2 * a2))).l2], [(4, .row 84 4 (R11.map termC) 0)])) (U5 : 0 ≤ 1 ∧ 1 ≤ (l_3.length : Int)) :
    Cont 0 (exec Tryz.prog (tab (n + 1)) 0 113 (livesOf 158) big mg_C3) (livesOf 158 3) (mg_h3 a0 a1 a2 l_3 l2_3 out_3) (mg_h3 a0 a1 a2 (l_3.drop 1) l2_3 R11) := by
  have C1_ : 0 < l_3.length := by omega
  have C1_z : (l_3.length : Int) ≠ 0 := by omega
  have C1_e : ((l_3.length : Int) == 0) = false := by simpa using C1_z
  have C1_g : ((l_3.length : Int) != 0) = true := by simpa using C1_z
  have C2_ : ((l2_3.length : Int) == 0) = true := by rw [C2]; simp
  have C2_n : ((l2_3.length : Int) != 0) = false := by rw [C2]; simp
  have C2_l : ¬ 0 < (l2_3.length : Int) := by omega
  obtain ⟨EL3, EG3⟩ := List.getElem?_eq_some_iff.1 E3
  simp only [ratV] at K4
  unfold Cont
  simp +decide [mg_h3, loopsOf, Tryz.f158, mg_C3, C1, C1_, C1_e, C1_g, C2_, C2_n, C2_l, EL3, EG3, E3, K4, U5]
theorem mg_r3_3 {n : Nat} {a0 : Form} {a1 : Form} {a2 : Rat} {l_3 : List (Int × Rat)} {l2_3 : List (Int × Rat)} {v9 : Int} {q9 : Rat} {v10 : Int} {q10 : Rat} {out_3 : List (Int × Rat)} (C1 : 0 < (l_3.length : Int)) (C2 : ¬ (l2_3.length : Int) = 0) (E3 : l_3[0]? = some (v9, q9)) (E4 : l2_3[0]? = some (v10, q10)) (C5 : v9 < v10) (K6 : runL n 137 [.agg [.own 0 out_3.length, .lit (.bool (rawQ (a0.2 + (a1.2 * a2))).s), natA (rawQ (a0.2 + (a1.2 * a2))).l1, natA (rawQ (a0.2 + (a1.2 * a2))).l2], .lit (.int .i64 v9), ratV q9] [.row 84 4 (out_3.map termC) 0] = some (.agg [.own 0 out_3.length, .lit (.bool (rawQ (a0.2 + (a1.2 * a2))).s), natA (rawQ (a0.2 + (a1.2 * a2))).l1, natA (rawQ (a0.2 + (a1.2 * a2))).l2], [(0, .row 84 4 (out_3.map termC) 0)])) (U7 : 0 ≤ 1 ∧ 1 ≤ (l_3.length : Int)) :
    Cont 0 (exec Tryz.prog (tab (n + 1)) 0 113 (livesOf 158) big mg_C3) (livesOf 158 3) (mg_h3 a0 a1 a2 l_3 l2_3 out_3) (mg_h3 a0 a1 a2 (l_3.drop 1) l2_3 out_3) := by
  have C1_ : 0 < l_3.length := by omega
  have C1_z : (l_3.length : Int) ≠ 0 := by omega
  have C1_e : ((l_3.length : Int) == 0) = false := by simpa using C1_z
  have C1_g : ((l_3.length : Int) != 0) = true := by simpa using C1_z
  have C2_ : ((l2_3.length : Int) == 0) = false := by simpa using C2
  have C2_n : ((l2_3.length : Int) != 0) = true := by simpa using C2
  have C2_l : 0 < (l2_3.length : Int) := by omega
  obtain ⟨EL3, EG3⟩ := List.getElem?_eq_some_iff.1 E3
  obtain ⟨EL4, EG4⟩ := List.getElem?_eq_some_iff.1 E4
  simp only [ratV] at K6
  unfold Cont
  simp +decide [mg_h3, loopsOf, Tryz.f158, mg_C3, C1, C1_, C1_e, C1_g, C2_, C2_n, C2_l, EL3, EG3, E3, EL4, EG4, E4, C5, K6, U7]
theorem mg_r3_4 {n : Nat} {a0 : Form} {a1 : Form} {a2 : Rat} {l_3 : List (Int × Rat)} {l2_3 : List (Int × Rat)} {v9 : Int} {q9 : Rat} {v10 : Int} {q10 : Rat} {out_3 : List (Int × Rat)} {R12 : List (Int × Rat)} (C1 : 0 < (l_3.length : Int)) (C2 : ¬ (l2_3.length : Int) = 0) (E3 : l_3[0]? = some (v9, q9)) (E4 : l2_3[0]? = some (v10, q10)) (C5 : v9 < v10) (K6 : runL n 137 [.agg [.own 0 out_3.length, .lit (.bool (rawQ (a0.2 + (a1.2 * a2))).s), natA (rawQ (a0.2 + (a1.2 * a2))).l1, natA (rawQ (a0.2 + (a1.2 * a2))).l2], .lit (.int .i64 v9), ratV q9] [.row 84 4 (out_3.map termC) 0] = some (.agg [.own 4 R12.length, .lit (.bool (rawQ (a0.2 + (a1.2 * a2))).s), natA (rawQ (a0.2 + (a1.2 * a2))).l1, natA (rawQ (a0.2 + (a1.2 * a2))).l2], [(4, .row 84 4 (R12.map termC) 0)])) (U7 : 0 ≤ 1 ∧ 1 ≤ (l_3.length : Int)) :
    Cont 0 (exec Tryz.prog (tab (n + 1)) 0 113 (livesOf 158) big mg_C3) (livesOf 158 3) (mg_h3 a0 a1 a2 l_3 l2_3 out_3) (mg_h3 a0 a1 a2 (l_3.drop 1) l2_3 R12) := by
  have C1_ : 0 < l_3.length := by omega
  have C1_z : (l_3.length : Int) ≠ 0 := by omega
  have C1_e : ((l_3.length : Int) == 0) = false := by simpa using C1_z
  have C1_g : ((l_3.length : Int) != 0) = true := by simpa using C1_z
  have C2_ : ((l2_3.length : Int) == 0) = false := by simpa using C2
  have C2_n : ((l2_3.length : Int) != 0) = true := by simpa using C2
  have C2_l : 0 < (l2_3.length : Int) := by omega
  obtain ⟨EL3, EG3⟩ := List.getElem?_eq_some_iff.1 E3
  obtain ⟨EL4, EG4⟩ := List.getElem?_eq_some_iff.1 E4
  simp only [ratV] at K6
  unfold Cont
  simp +decide [mg_h3, loopsOf, Tryz.f158, mg_C3, C1, C1_, C1_e, C1_g, C2_, C2_n, C2_l, EL3, EG3, E3, EL4, EG4, E4, C5, K6, U7]
theorem mg_r3_5 {n : Nat} {a0 : Form} {a1 : Form} {a2 : Rat} {l_3 : List (Int × Rat)} {l2_3 : List (Int × Rat)} {v9 : Int} {q9 : Rat} {v10 : Int} {q10 : Rat} {out_3 : List (Int × Rat)} (C1 : 0 < (l_3.length : Int)) (C2 : ¬ (l2_3.length : Int) = 0) (E3 : l_3[0]? = some (v9, q9)) (E4 : l2_3[0]? = some (v10, q10)) (C5 : ¬ v9 < v10) (C6 : v10 < v9) (B7a : H q10 ≤ 17179869184) (B7b : H a2 ≤ 17179869184) (K8 : runL n 137 [.agg [.own 0 out_3.length, .lit (.bool (rawQ (a0.2 + (a1.2 * a2))).s), natA (rawQ (a0.2 + (a1.2 * a2))).l1, natA (rawQ (a0.2 + (a1.2 * a2))).l2], .lit (.int .i64 v10), ratV (q10 * a2)] [.row 84 4 (out_3.map termC) 0] = some (.agg [.own 0 out_3.length, .lit (.bool (rawQ (a0.2 + (a1.2 * a2))).s), natA (rawQ (a0.2 + (a1.2 * a2))).l1, natA (rawQ (a0.2 + (a1.2 * a2))).l2], [(0, .row 84 4 (out_3.map termC) 0)])) (U9 : 0 ≤ 1 ∧ 1 ≤ (l2_3.length : Int)) :
    Cont 0 (exec Tryz.prog (tab (n + 1)) 0 113 (livesOf 158) big mg_C3) (livesOf 158 3) (mg_h3 a0 a1 a2 l_3 l2_3 out_3) (mg_h3 a0 a1 a2 l_3 (l2_3.drop 1) out_3) := by
  have C1_ : 0 < l_3.length := by omega
  have C1_z : (l_3.length : Int) ≠ 0 := by omega
  have C1_e : ((l_3.length : Int) == 0) = false := by simpa using C1_z
  have C1_g : ((l_3.length : Int) != 0) = true := by simpa using C1_z
  have C2_ : ((l2_3.length : Int) == 0) = false := by simpa using C2
  have C2_n : ((l2_3.length : Int) != 0) = true := by simpa using C2
  have C2_l : 0 < (l2_3.length : Int) := by omega
  obtain ⟨EL3, EG3⟩ := List.getElem?_eq_some_iff.1 E3
  obtain ⟨EL4, EG4⟩ := List.getElem?_eq_some_iff.1 E4
  have K7 := r_mul (p := q10) (q := a2) B7a B7b
  simp only [ratV] at K8
  unfold Cont
  simp +decide [mg_h3, loopsOf, Tryz.f158, mg_C3, C1, C1_, C1_e, C1_g, C2_, C2_n, C2_l, EL3, EG3, E3, EL4, EG4, E4, C5, C6, K7, K8, U9]
theorem mg_r3_6 {n : Nat} {a0 : Form} {a1 : Form} {a2 : Rat} {l_3 : List (Int × Rat)} {l2_3 : List (Int × Rat)} {v9 : Int} {q9 : Rat} {v10 : Int} {q10 : Rat} {out_3 : List (Int × Rat)} {R13 : List (Int × Rat)} (C1 : 0 < (l_3.length : Int)) (C2 : ¬ (l2_3.length : Int) = 0) (E3 : l_3[0]? = some (v9, q9)) (E4 : l2_3[0]? = some (v10, q10)) (C5 : ¬ v9 < v10) (C6 : v10 < v9) (B7a : H q10 ≤ 17179869184) (B7b : H a2 ≤ 17179869184) (K8 : runL n 137 [.agg [.own 0 out_3.length, .lit (.bool (rawQ (a0.2 + (a1.2 * a2))).s), natA (rawQ (a0.2 + (a1.2 * a2))).l1, natA (rawQ (a0.2 + (a1.2 * a2))).l2], .lit (.int .i64 v10), ratV (q10 * a2)] [.row 84 4 (out_3.map termC) 0] = some (.agg [.own 4 R13.length, .lit (.bool (rawQ (a0.2 + (a1.2 * a2))).s), natA (rawQ (a0.2 + (a1.2 * a2))).l1, natA (rawQ (a0.2 + (a1.2 * a2))).l2], [(4, .row 84 4 (R13.map termC) 0)])) (U9 : 0 ≤ 1 ∧ 1 ≤ (l2_3.length : Int)) :
    Cont 0 (exec Tryz.prog (tab (n + 1)) 0 113 (livesOf 158) big mg_C3) (livesOf 158 3) (mg_h3 a0 a1 a2 l_3 l2_3 out_3) (mg_h3 a0 a1 a2 l_3 (l2_3.drop 1) R13) := by
  have C1_ : 0 < l_3.length := by omega
  have C1_z : (l_3.length : Int) ≠ 0 := by omega
  have C1_e : ((l_3.length : Int) == 0) = false := by simpa using C1_z
  have C1_g : ((l_3.length : Int) != 0) = true := by simpa using C1_z
  have C2_ : ((l2_3.length : Int) == 0) = false := by simpa using C2
  have C2_n : ((l2_3.length : Int) != 0) = true := by simpa using C2
  have C2_l : 0 < (l2_3.length : Int) := by omega
  obtain ⟨EL3, EG3⟩ := List.getElem?_eq_some_iff.1 E3
  obtain ⟨EL4, EG4⟩ := List.getElem?_eq_some_iff.1 E4
  have K7 := r_mul (p := q10) (q := a2) B7a B7b
  simp only [ratV] at K8
  unfold Cont
  simp +decide [mg_h3, loopsOf, Tryz.f158, mg_C3, C1, C1_, C1_e, C1_g, C2_, C2_n, C2_l, EL3, EG3, E3, EL4, EG4, E4, C5, C6, K7, K8, U9]
theorem mg_r3_7 {n : Nat} {a0 : Form} {a1 : Form} {a2 : Rat} {l_3 : List (Int × Rat)} {l2_3 : List (Int × Rat)} {v9 : Int} {q9 : Rat} {v10 : Int} {q10 : Rat} {out_3 : List (Int × Rat)} (C1 : 0 < (l_3.length : Int)) (C2 : ¬ (l2_3.length : Int) = 0) (E3 : l_3[0]? = some (v9, q9)) (E4 : l2_3[0]? = some (v10, q10)) (C5 : ¬ v9 < v10) (C6 : ¬ v10 < v9) (B7a : H q10 ≤ 17179869184) (B7b : H a2 ≤ 17179869184) (B8a : H q9 ≤ 17179869184) (B8b : H (q10 * a2) ≤ 17179869184) (K9 : runL n 137 [.agg [.own 0 out_3.length, .lit (.bool (rawQ (a0.2 + (a1.2 * a2))).s), natA (rawQ (a0.2 + (a1.2 * a2))).l1, natA (rawQ (a0.2 + (a1.2 * a2))).l2], .lit (.int .i64 v9), ratV (q9 + (q10 * a2))] [.row 84 4 (out_3.map termC) 0] = some (.agg [.own 0 out_3.length, .lit (.bool (rawQ (a0.2 + (a1.2 * a2))).s), natA (rawQ (a0.2 + (a1.2 * a2))).l1, natA (rawQ (a0.2 + (a1.2 * a2))).l2], [(0, .row 84 4 (out_3.map termC) 0)])) (U10 : 0 ≤ 1 ∧ 1 ≤ (l_3.length : Int)) (U11 : 0 ≤ 1 ∧ 1 ≤ (l2_3.length : Int)) :
    Cont 0 (exec Tryz.prog (tab (n + 1)) 0 113 (livesOf 158) big mg_C3) (livesOf 158 3) (mg_h3 a0 a1 a2 l_3 l2_3 out_3) (mg_h3 a0 a1 a2 (l_3.drop 1) (l2_3.drop 1) out_3) := by
  have C1_ : 0 < l_3.length := by omega
  have C1_z : (l_3.length : Int) ≠ 0 := by omega
  have C1_e : ((l_3.length : Int) == 0) = false := by simpa using C1_z
  have C1_g : ((l_3.length : Int) != 0) = true := by simpa using C1_z
  have C2_ : ((l2_3.length : Int) == 0) = false := by simpa using C2
  have C2_n : ((l2_3.length : Int) != 0) = true := by simpa using C2
  have C2_l : 0 < (l2_3.length : Int) := by omega
  obtain ⟨EL3, EG3⟩ := List.getElem?_eq_some_iff.1 E3
  obtain ⟨EL4, EG4⟩ := List.getElem?_eq_some_iff.1 E4
  have K7 := r_mul (p := q10) (q := a2) B7a B7b
  have K8 := r_add (p := q9) (q := q10 * a2) B8a B8b
  simp only [ratV] at K9
  unfold Cont
  simp +decide [mg_h3, loopsOf, Tryz.f158, mg_C3, C1, C1_, C1_e, C1_g, C2_, C2_n, C2_l, EL3, EG3, E3, EL4, EG4, E4, C5, C6, K7, K8, K9, U10, U11]
theorem mg_r3_8 {n : Nat} {a0 : Form} {a1 : Form} {a2 : Rat} {l_3 : List (Int × Rat)} {l2_3 : List (Int × Rat)} {v9 : Int} {q9 : Rat} {v10 : Int} {q10 : Rat} {out_3 : List (Int × Rat)} {R14 : List (Int × Rat)} (C1 : 0 < (l_3.length : Int)) (C2 : ¬ (l2_3.length : Int) = 0) (E3 : l_3[0]? = some (v9, q9)) (E4 : l2_3[0]? = some (v10, q10)) (C5 : ¬ v9 < v10) (C6 : ¬ v10 < v9) (B7a : H q10 ≤ 17179869184) (B7b : H a2 ≤ 17179869184) (B8a : H q9 ≤ 17179869184) (B8b : H (q10 * a2) ≤ 17179869184) (K9 : runL n 137 [.agg [.own 0 out_3.length, .lit (.bool (rawQ (a0.2 + (a1.2 * a2))).s), natA (rawQ (a0.2 + (a1.2 * a2))).l1, natA (rawQ (a0.2 + (a1.2 * a2))).l2], .lit (.int .i64 v9), ratV (q9 + (q10 * a2))] [.row 84 4 (out_3.map termC) 0] = some (.agg [.own 4 R14.length, .lit (.bool (rawQ (a0.2 + (a1.2 * a2))).s), natA (rawQ (a0.2 + (a1.2 * a2))).l1, natA (rawQ (a0.2 + (a1.2 * a2))).l2], [(4, .row 84 4 (R14.map termC) 0)])) (U10 : 0 ≤ 1 ∧ 1 ≤ (l_3.length : Int)) (U11 : 0 ≤ 1 ∧ 1 ≤ (l2_3.length : Int)) :
    Cont 0 (exec Tryz.prog (tab (n + 1)) 0 113 (livesOf 158) big mg_C3) (livesOf 158 3) (mg_h3 a0 a1 a2 l_3 l2_3 out_3) (mg_h3 a0 a1 a2 (l_3.drop 1) (l2_3.drop 1) R14) := by
  have C1_ : 0 < l_3.length := by omega
  have C1_z : (l_3.length : Int) ≠ 0 := by omega
  have C1_e : ((l_3.length : Int) == 0) = false := by simpa using C1_z
  have C1_g : ((l_3.length : Int) != 0) = true := by simpa using C1_z
  have C2_ : ((l2_3.length : Int) == 0) = false := by simpa using C2
  have C2_n : ((l2_3.length : Int) != 0) = true := by simpa using C2
  have C2_l : 0 < (l2_3.length : Int) := by omega
  obtain ⟨EL3, EG3⟩ := List.getElem?_eq_some_iff.1 E3
  obtain ⟨EL4, EG4⟩ := List.getElem?_eq_some_iff.1 E4
  have K7 := r_mul (p := q10) (q := a2) B7a B7b
  have K8 := r_add (p := q9) (q := q10 * a2) B8a B8b
  simp only [ratV] at K9
  unfold Cont
  simp +decide [mg_h3, loopsOf, Tryz.f158, mg_C3, C1, C1_, C1_e, C1_g, C2_, C2_n, C2_l, EL3, EG3, E3, EL4, EG4, E4, C5, C6, K7, K8, K9, U10, U11]
theorem mg_r3_9 {n : Nat} {a0 : Form} {a1 : Form} {a2 : Rat} {l_3 : List (Int × Rat)} {l2_3 : List (Int × Rat)} {v12 : Int} {q12 : Rat} {out_3 : List (Int × Rat)} (C1 : ¬ 0 < (l_3.length : Int)) (C2 : 0 < (l2_3.length : Int)) (E3 : l2_3[0]? = some (v12, q12)) (B4a : H q12 ≤ 17179869184) (B4b : H a2 ≤ 17179869184) (K5 : runL n 137 [.agg [.own 0 out_3.length, .lit (.bool (rawQ (a0.2 + (a1.2 * a2))).s), natA (rawQ (a0.2 + (a1.2 * a2))).l1, natA (rawQ (a0.2 + (a1.2 * a2))).l2], .lit (.int .i64 v12), ratV (q12 * a2)] [.row 84 4 (out_3.map termC) 0] = some (.agg [.own 0 out_3.length, .lit (.bool (rawQ (a0.2 + (a1.2 * a2))).s), natA (rawQ (a0.2 + (a1.2 * a2))).l1, natA (rawQ (a0.2 + (a1.2 * a2))).l2], [(0, .row 84 4 (out_3.map termC) 0)])) (U6 : 0 ≤ 1 ∧ 1 ≤ (l2_3.length : Int)) :
    Cont 0 (exec Tryz.prog (tab (n + 1)) 0 113 (livesOf 158) big mg_C3) (livesOf 158 3) (mg_h3 a0 a1 a2 l_3 l2_3 out_3) (mg_h3 a0 a1 a2 l_3 (l2_3.drop 1) out_3) := by
  have C1_ : ¬ 0 < l_3.length := by omega
  have C1_z : (l_3.length : Int) = 0 := by omega
  have C1_e : ((l_3.length : Int) == 0) = true := by rw [C1_z]; simp
  have C1_g : ((l_3.length : Int) != 0) = false := by rw [C1_z]; simp
  have C2_ : 0 < l2_3.length := by omega
  have C2_z : (l2_3.length : Int) ≠ 0 := by omega
  have C2_e : ((l2_3.length : Int) == 0) = false := by simpa using C2_z
  have C2_g : ((l2_3.length : Int) != 0) = true := by simpa using C2_z
  obtain ⟨EL3, EG3⟩ := List.getElem?_eq_some_iff.1 E3
  have K4 := r_mul (p := q12) (q := a2) B4a B4b
  simp only [ratV] at K5
  unfold Cont
  simp +decide [mg_h3, loopsOf, Tryz.f158, mg_C3, C1, C1_, C1_e, C1_g, C2, C2_, C2_e, C2_g, EL3, EG3, E3, K4, K5, U6]
theorem mg_r3_10 {n : Nat} {a0 : Form} {a1 : Form} {a2 : Rat} {l_3 : List (Int × Rat)} {l2_3 : List (Int × Rat)} {v12 : Int} {q12 : Rat} {out_3 : List (Int × Rat)} {R15 : List (Int × Rat)} (C1 : ¬ 0 < (l_3.length : Int)) (C2 : 0 < (l2_3.length : Int)) (E3 : l2_3[0]? = some (v12, q12)) (B4a : H q12 ≤ 17179869184) (B4b : H a2 ≤ 17179869184) (K5 : runL n 137 [.agg [.own 0 out_3.length, .lit (.bool (rawQ (a0.2 + (a1.2 * a2))).s), natA (rawQ (a0.2 + (a1.2 * a2))).l1, natA (rawQ (a0.2 + (a1.2 * a2))).l2], .lit (.int .i64 v12), ratV (q12 * a2)] [.row 84 4 (out_3.map termC) 0] = some (.agg [.own 4 R15.length, .lit (.bool (rawQ (a0.2 + (a1.2 * a2))).s), natA (rawQ (a0.2 + (a1.2 * a2))).l1, natA (rawQ (a0.2 + (a1.2 * a2))).l2], [(4, .row 84 4 (R15.map termC) 0)])) (U6 : 0 ≤ 1 ∧ 1 ≤ (l2_3.length : Int)) :
    Cont 0 (exec Tryz.prog (tab (n + 1)) 0 113 (livesOf 158) big mg_C3) (livesOf 158 3) (mg_h3 a0 a1 a2 l_3 l2_3 out_3) (mg_h3 a0 a1 a2 l_3 (l2_3.drop 1) R15) := by
  have C1_ : ¬ 0 < l_3.length := by omega
  have C1_z : (l_3.length : Int) = 0 := by omega
  have C1_e : ((l_3.length : Int) == 0) = true := by rw [C1_z]; simp
  have C1_g : ((l_3.length : Int) != 0) = false := by rw [C1_z]; simp
  have C2_ : 0 < l2_3.length := by omega
  have C2_z : (l2_3.length : Int) ≠ 0 := by omega
  have C2_e : ((l2_3.length : Int) == 0) = false := by simpa using C2_z
  have C2_g : ((l2_3.length : Int) != 0) = true := by simpa using C2_z
  obtain ⟨EL3, EG3⟩ := List.getElem?_eq_some_iff.1 E3
  have K4 := r_mul (p := q12) (q := a2) B4a B4b
  simp only [ratV] at K5
  unfold Cont
  simp +decide [mg_h3, loopsOf, Tryz.f158, mg_C3, C1, C1_, C1_e, C1_g, C2, C2_, C2_e, C2_g, EL3, EG3, E3, K4, K5, U6]
theorem mg_x3_1 {n : Nat} {a0 : Form} {a1 : Form} {a2 : Rat} {l_3 : List (Int × Rat)} {l2_3 : List (Int × Rat)} {out_3 : List (Int × Rat)} (C1 : ¬ 0 < (l_3.length : Int)) (C2 : ¬ 0 < (l2_3.length : Int)) :
    Leave 0 (exec Tryz.prog (tab (n + 1)) 0 113 (livesOf 158) big mg_C3) (livesOf 158 (outOf 3)) (mg_h3 a0 a1 a2 l_3 l2_3 out_3) (.exit 0) (mg_o3a a0 a1 a2 out_3) := by
  have C1_ : ¬ 0 < l_3.length := by omega
  have C1_z : (l_3.length : Int) = 0 := by omega
  have C1_e : ((l_3.length : Int) == 0) = true := by rw [C1_z]; simp
  have C1_g : ((l_3.length : Int) != 0) = false := by rw [C1_z]; simp
  have C2_ : ¬ 0 < l2_3.length := by omega
  have C2_z : (l2_3.length : Int) = 0 := by omega
  have C2_e : ((l2_3.length : Int) == 0) = true := by rw [C2_z]; simp
  have C2_g : ((l2_3.length : Int) != 0) = false := by rw [C2_z]; simp
  unfold Leave
  simp +decide [mg_h3, loopsOf, Tryz.f158, mg_o3a, mg_C3, C1, C1_, C1_e, C1_g, C2, C2_, C2_e, C2_g]
theorem mg_f1 {n : Nat} {a0 : Form} {a1 : Form} {a2 : Rat} {out_3 : List (Int × Rat)} (B1a : H a1.2 ≤ 17179869184) (B1b : H a2 ≤ 17179869184) (B2a : H a0.2 ≤ 17179869184) (B2b : H (a1.2 * a2) ≤ 17179869184) (L3 : loopG Tryz.prog (tab (n + 1)) 0 113 (livesOf 158) 3 mg_C3 (mg_h3 a0 a1 a2 a0.1 a1.1 []) = some (.exit 0, mg_o3a a0 a1 a2 out_3)) :
    run (n + 1) 158 [formV a0, formV a1, ratV a2] = some (formV (out_3, a0.2 + (a1.2 * a2))) := by
  have K1 := r_mul (p := a1.2) (q := a2) B1a B1b
  have K2 := r_add (p := a0.2) (q := a1.2 * a2) B2a B2b
  unfold run fnP
  simp +decide [Tryz.f158, K1, K2]
  rw [loopX_G (C' := mg_C3) (e := (mg_h3 a0 a1 a2 a0.1 a1.1 [])) ?_ ?_, L3]
  rotate_left
  · kernel_rfl
  · simp +decide [mg_h3, K1, K2]
  simp +decide [mg_o3a, K1, K2]
/-! linear.Add, level 2 -/
/-! linear.Scale, level 2 -/
end Go.Proofs.YtlpmemelhlnfbaaGreatDoor
set_option linter.all false
set_option maxRecDepth 100000
set_option maxHeartbeats 6400000
namespace Go.Proofs.YtlpmemelhlnfbaaGreatDoor
open Go.RowKit

/-! linear.Coef, level 3 -/
/-! linear.copied, level 2 -/
/-! linear.Eval, level 0 -/
/-! relucertref07.Coef, level 0 -/
noncomputable def fco_C2 : Code := (loopsOf (bodyOf Tryz.f175)).getD 0 .skip
def fco_h2 (a0 : Form) (a1 : Int) (i_2 : Nat) : St :=
  ⟨[(1, .lit (.int .i64 a1)), (2, .ptr 0 0), (4, .ptr 1 0), (5, .lit (.int .i64 (i_2 : Int)))],
   [(0, some (.box 29 [.sl 4 (a0.1.map termC), .lit (.bool (rawQ a0.2).s), natA (rawQ a0.2).l1, natA (rawQ a0.2).l2] false)),
    (1, some (.box 27 [.lit (.bool false), .nl 1, .nl 1] false))], 2⟩
def fco_o2a (q3 : Rat) : St :=
  ⟨[(4, .ptr 0 0)],
   [(0, some (.box 27 [.lit (.bool (rawQ q3).s), natA (rawQ q3).l1, natA (rawQ q3).l2] false))], 1⟩
def fco_o2b  : St :=
  ⟨[(4, .ptr 0 0)],
   [(0, some (.box 27 [.lit (.bool false), .nl 1, .nl 1] false))], 1⟩
theorem fco_r2_1 {n : Nat} {a0 : Form} {a1 : Int} {i_2 : Nat} {v3 : Int} {q3 : Rat} (C1 : (i_2 : Int) < (a0.1.length : Int)) (E2 : a0.1[i_2]? = some (v3, q3)) (C3 : ¬ v3 = a1) (W4 : InI ((i_2 : Int) + 1)) :
    Cont 0 (exec Tryz.prog (tab n) 0 28 (livesOf 175) big fco_C2) (livesOf 175 2) (fco_h2 a0 a1 i_2) (fco_h2 a0 a1 (i_2 + 1)) := by
  have C1_ : i_2 < a0.1.length := by omega
  obtain ⟨EL2, EG2⟩ := List.getElem?_eq_some_iff.1 E2
  have C3_ : (v3 == a1) = false := by simpa using C3
  have C3_n : (v3 != a1) = true := by simpa using C3
  have W4_ : IntKind.i64.wrap ((i_2 : Int) + 1) = (i_2 : Int) + 1 := wr64 W4.1 W4.2
  unfold Cont
  simp +decide [fco_h2, loopsOf, Tryz.f175, fco_C2, C1, C1_, EL2, EG2, E2, C3_, C3_n, W4_]
theorem fco_x2_1 {n : Nat} {a0 : Form} {a1 : Int} {i_2 : Nat} {v3 : Int} {q3 : Rat} (C1 : (i_2 : Int) < (a0.1.length : Int)) (E2 : a0.1[i_2]? = some (v3, q3)) (C3 : v3 = a1) :
    Leave 0 (exec Tryz.prog (tab n) 0 28 (livesOf 175) big fco_C2) (livesOf 175 (outOf 2)) (fco_h2 a0 a1 i_2) (.ret) (fco_o2a q3) := by
  have C1_ : i_2 < a0.1.length := by omega
  obtain ⟨EL2, EG2⟩ := List.getElem?_eq_some_iff.1 E2
  have C3_ : (v3 == a1) = true := by rw [C3]; simp
  have C3_n : (v3 != a1) = false := by rw [C3]; simp
  unfold Leave
  simp +decide [fco_h2, loopsOf, Tryz.f175, fco_o2a, fco_C2, C1, C1_, EL2, EG2, E2, C3_, C3_n]
theorem fco_x2_2 {n : Nat} {a0 : Form} {a1 : Int} {i_2 : Nat} (C1 : ¬ (i_2 : Int) < (a0.1.length : Int)) :
    Leave 0 (exec Tryz.prog (tab n) 0 28 (livesOf 175) big fco_C2) (livesOf 175 (outOf 2)) (fco_h2 a0 a1 i_2) (.exit 0) (fco_o2b ) := by
  have C1_ : ¬ i_2 < a0.1.length := by omega
  unfold Leave
  simp +decide [fco_h2, loopsOf, Tryz.f175, fco_o2b, fco_C2, C1, C1_]
theorem fco_f1 {n : Nat} {a0 : Form} {a1 : Int} {q3 : Rat} (L1 : loopG Tryz.prog (tab n) 0 28 (livesOf 175) 2 fco_C2 (fco_h2 a0 a1 0) = some (.ret, fco_o2a q3)) :
    run n 175 [formV a0, .lit (.int .i64 a1)] = some (ratV q3) := by
  unfold run fnP
  simp +decide [Tryz.f175]
  rw [loopX_G (C' := fco_C2) (e := (fco_h2 a0 a1 0)) ?_ ?_, L1]
  rotate_left
  · kernel_rfl
  · simp +decide [fco_h2]
  simp +decide [fco_o2a]
theorem fco_f2 {n : Nat} {a0 : Form} {a1 : Int} (L1 : loopG Tryz.prog (tab n) 0 28 (livesOf 175) 2 fco_C2 (fco_h2 a0 a1 0) = some (.exit 0, fco_o2b )) :
    run n 175 [formV a0, .lit (.int .i64 a1)] = some (.agg [.lit (.bool false), .sl 1 [], .sl 1 []]) := by
  unfold run fnP
  simp +decide [Tryz.f175]
  rw [loopX_G (C' := fco_C2) (e := (fco_h2 a0 a1 0)) ?_ ?_, L1]
  rotate_left
  · kernel_rfl
  · simp +decide [fco_h2]
  simp +decide [fco_o2b]
/-! relucertref07.Sub, level 3 -/
end Go.Proofs.YtlpmemelhlnfbaaGreatDoor
set_option linter.all false
set_option maxRecDepth 100000
set_option maxHeartbeats 6400000
namespace Go.Proofs.YtlpmemelhlnfbaaGreatDoor
open Go.RowKit

/-! relucertref07.Equal, level 0 -/
noncomputable def feq_C4 : Code := (loopsOf (bodyOf Tryz.f55)).getD 0 .skip
def feq_h4 (a0 : Form) (a1 : Form) (i_4 : Nat) : St :=
  ⟨[(2, .ptr 0 0), (3, .ptr 1 0), (5, .lit (.int .i64 (i_4 : Int)))],
   [(0, some (.box 29 [.sl 4 (a0.1.map termC), .lit (.bool (rawQ a0.2).s), natA (rawQ a0.2).l1, natA (rawQ a0.2).l2] false)),
    (1, some (.box 29 [.sl 4 (a1.1.map termC), .lit (.bool (rawQ a1.2).s), natA (rawQ a1.2).l1, natA (rawQ a1.2).l2] false))], 2⟩
def feq_o4a  : St :=
  ⟨[(4, .lit (.bool false))],
   [], 0⟩
def feq_o4b  : St :=
  ⟨[(4, .any)],
   [], 0⟩
theorem feq_r4_1 {n : Nat} {a0 : Form} {a1 : Form} {i_4 : Nat} {v5 : Int} {q5 : Rat} {v6 : Int} {q6 : Rat} (C1 : (i_4 : Int) < (a0.1.length : Int)) (E2 : a0.1[i_4]? = some (v5, q5)) (E3 : a1.1[i_4]? = some (v6, q6)) (C4 : v5 = v6) (B5a : H q5 ≤ 17179869184) (B5b : H q6 ≤ 17179869184) (C6 : q5 = q6) (W7 : InI ((i_4 : Int) + 1)) :
    Cont 0 (exec Tryz.prog (tab n) 0 57 (livesOf 55) big feq_C4) (livesOf 55 4) (feq_h4 a0 a1 i_4) (feq_h4 a0 a1 (i_4 + 1)) := by
  have C1_ : i_4 < a0.1.length := by omega
  obtain ⟨EL2, EG2⟩ := List.getElem?_eq_some_iff.1 E2
  obtain ⟨EL3, EG3⟩ := List.getElem?_eq_some_iff.1 E3
  have C4_ : (v5 == v6) = true := by rw [C4]; simp
  have C4_n : (v5 != v6) = false := by rw [C4]; simp
  have K5 := r_same (p := q5) (q := q6) B5a B5b
  have C6_ : decide (q5 = q6) = true := decide_eq_true C6
  have W7_ : IntKind.i64.wrap ((i_4 : Int) + 1) = (i_4 : Int) + 1 := wr64 W7.1 W7.2
  unfold Cont
  simp +decide [feq_h4, loopsOf, Tryz.f55, feq_C4, C1, C1_, EL2, EG2, E2, EL3, EG3, E3, C4_, C4_n, K5, C6_, W7_]
theorem feq_x4_1 {n : Nat} {a0 : Form} {a1 : Form} {i_4 : Nat} {v5 : Int} {q5 : Rat} {v6 : Int} {q6 : Rat} (C1 : (i_4 : Int) < (a0.1.length : Int)) (E2 : a0.1[i_4]? = some (v5, q5)) (E3 : a1.1[i_4]? = some (v6, q6)) (C4 : ¬ v5 = v6) :
    Leave 0 (exec Tryz.prog (tab n) 0 57 (livesOf 55) big feq_C4) (livesOf 55 (outOf 4)) (feq_h4 a0 a1 i_4) (.ret) (feq_o4a ) := by
  have C1_ : i_4 < a0.1.length := by omega
  obtain ⟨EL2, EG2⟩ := List.getElem?_eq_some_iff.1 E2
  obtain ⟨EL3, EG3⟩ := List.getElem?_eq_some_iff.1 E3
  have C4_ : (v5 == v6) = false := by simpa using C4
  have C4_n : (v5 != v6) = true := by simpa using C4
  unfold Leave
  simp +decide [feq_h4, loopsOf, Tryz.f55, feq_o4a, feq_C4, C1, C1_, EL2, EG2, E2, EL3, EG3, E3, C4_, C4_n]
theorem feq_x4_2 {n : Nat} {a0 : Form} {a1 : Form} {i_4 : Nat} {v5 : Int} {q5 : Rat} {v6 : Int} {q6 : Rat} (C1 : (i_4 : Int) < (a0.1.length : Int)) (E2 : a0.1[i_4]? = some (v5, q5)) (E3 : a1.1[i_4]? = some (v6, q6)) (C4 : v5 = v6) (B5a : H q5 ≤ 17179869184) (B5b : H q6 ≤ 17179869184) (C6 : ¬ (q5 = q6)) :
    Leave 0 (exec Tryz.prog (tab n) 0 57 (livesOf 55) big feq_C4) (livesOf 55 (outOf 4)) (feq_h4 a0 a1 i_4) (.ret) (feq_o4a ) := by
  have C1_ : i_4 < a0.1.length := by omega
  obtain ⟨EL2, EG2⟩ := List.getElem?_eq_some_iff.1 E2
  obtain ⟨EL3, EG3⟩ := List.getElem?_eq_some_iff.1 E3
  have C4_ : (v5 == v6) = true := by rw [C4]; simp
  have C4_n : (v5 != v6) = false := by rw [C4]; simp
  have K5 := r_same (p := q5) (q := q6) B5a B5b
  unfold Leave
  simp +decide [feq_h4, loopsOf, Tryz.f55, feq_o4a, feq_C4, C1, C1_, EL2, EG2, E2, EL3, EG3, E3, C4_, C4_n, K5, C6]
theorem feq_x4_3 {n : Nat} {a0 : Form} {a1 : Form} {i_4 : Nat} (C1 : ¬ (i_4 : Int) < (a0.1.length : Int)) :
    Leave 0 (exec Tryz.prog (tab n) 0 57 (livesOf 55) big feq_C4) (livesOf 55 (outOf 4)) (feq_h4 a0 a1 i_4) (.exit 0) (feq_o4b ) := by
  have C1_ : ¬ i_4 < a0.1.length := by omega
  unfold Leave
  simp +decide [feq_h4, loopsOf, Tryz.f55, feq_o4b, feq_C4, C1, C1_]
theorem feq_f1 {n : Nat} {a0 : Form} {a1 : Form} (C1 : ¬ (a0.1.length : Int) = (a1.1.length : Int)) :
    run n 55 [formV a0, formV a1] = some (.lit (.bool false)) := by
  have C1_ : ((a0.1.length : Int) == (a1.1.length : Int)) = false := by simpa using C1
  have C1_n : ((a0.1.length : Int) != (a1.1.length : Int)) = true := by simpa using C1
  unfold run fnP
  simp +decide [Tryz.f55, C1_, C1_n]
theorem feq_f2 {n : Nat} {a0 : Form} {a1 : Form} (C1 : (a0.1.length : Int) = (a1.1.length : Int)) (B2a : H a0.2 ≤ 17179869184) (B2b : H a1.2 ≤ 17179869184) (C3 : ¬ (a0.2 = a1.2)) :
    run n 55 [formV a0, formV a1] = some (.lit (.bool false)) := by
  have C1_ : ((a0.1.length : Int) == (a1.1.length : Int)) = true := by rw [C1]; simp
  have C1_n : ((a0.1.length : Int) != (a1.1.length : Int)) = false := by rw [C1]; simp
  have K2 := r_same (p := a0.2) (q := a1.2) B2a B2b
  unfold run fnP
  simp +decide [Tryz.f55, C1_, C1_n, K2, C3]
theorem feq_f3 {n : Nat} {a0 : Form} {a1 : Form} (C1 : (a0.1.length : Int) = (a1.1.length : Int)) (B2a : H a0.2 ≤ 17179869184) (B2b : H a1.2 ≤ 17179869184) (C3 : a0.2 = a1.2) (L4 : loopG Tryz.prog (tab n) 0 57 (livesOf 55) 4 feq_C4 (feq_h4 a0 a1 0) = some (.ret, feq_o4a )) :
    run n 55 [formV a0, formV a1] = some (.lit (.bool false)) := by
  have C1_ : ((a0.1.length : Int) == (a1.1.length : Int)) = true := by rw [C1]; simp
  have C1_n : ((a0.1.length : Int) != (a1.1.length : Int)) = false := by rw [C1]; simp
  have K2 := r_same (p := a0.2) (q := a1.2) B2a B2b
  have C3_ : decide (a0.2 = a1.2) = true := decide_eq_true C3
  unfold run fnP
  simp +decide [Tryz.f55, C1_, C1_n, K2, C3_]
  rw [loopX_G (C' := feq_C4) (e := (feq_h4 a0 a1 0)) ?_ ?_, L4]
  rotate_left
  · kernel_rfl
  · simp +decide [feq_h4, C1_, C1_n, K2, C3_]
  simp +decide [feq_o4a, C1_, C1_n, K2, C3_]
theorem feq_f4 {n : Nat} {a0 : Form} {a1 : Form} (C1 : (a0.1.length : Int) = (a1.1.length : Int)) (B2a : H a0.2 ≤ 17179869184) (B2b : H a1.2 ≤ 17179869184) (C3 : a0.2 = a1.2) (L4 : loopG Tryz.prog (tab n) 0 57 (livesOf 55) 4 feq_C4 (feq_h4 a0 a1 0) = some (.exit 0, feq_o4b )) :
    run n 55 [formV a0, formV a1] = some (.lit (.bool true)) := by
  have C1_ : ((a0.1.length : Int) == (a1.1.length : Int)) = true := by rw [C1]; simp
  have C1_n : ((a0.1.length : Int) != (a1.1.length : Int)) = false := by rw [C1]; simp
  have K2 := r_same (p := a0.2) (q := a1.2) B2a B2b
  have C3_ : decide (a0.2 = a1.2) = true := decide_eq_true C3
  unfold run fnP
  simp +decide [Tryz.f55, C1_, C1_n, K2, C3_]
  rw [loopX_G (C' := feq_C4) (e := (feq_h4 a0 a1 0)) ?_ ?_, L4]
  rotate_left
  · kernel_rfl
  · simp +decide [feq_h4, C1_, C1_n, K2, C3_]
  simp +decide [feq_o4b, C1_, C1_n, K2, C3_]
/-! relucertref07.EqualAll, level 1 -/
noncomputable def fea_C4 : Code := (loopsOf (bodyOf Tryz.f90)).getD 0 .skip
def fea_h4 (a0 : List Form) (a1 : List Form) (i_4 : Nat) : St :=
  ⟨[(0, .sl 4 (a0.map formC)), (1, .sl 4 (a1.map formC)), (5, .lit (.int .i64 (i_4 : Int)))],
   [], 0⟩
def fea_o4b  : St :=
  ⟨[(4, .any)],
   [], 0⟩
theorem fea_r4_1 {n : Nat} {a0 : List Form} {a1 : List Form} {i_4 : Nat} {F5 : List (Int × Rat)} {q5 : Rat} {F6 : List (Int × Rat)} {q6 : Rat} {r3 : Bool} (C1 : (i_4 : Int) < (a0.length : Int)) (E2 : a0[i_4]? = some (F5, q5)) (E3 : a1[i_4]? = some (F6, q6)) (K4 : run n 55 [formV (F5, q5), formV (F6, q6)] = some (.lit (.bool r3))) (C5 : r3 = true) (W6 : InI ((i_4 : Int) + 1)) :
    Cont 0 (exec Tryz.prog (tab (n + 1)) 0 27 (livesOf 90) big fea_C4) (livesOf 90 4) (fea_h4 a0 a1 i_4) (fea_h4 a0 a1 (i_4 + 1)) := by
  have C1_ : i_4 < a0.length := by omega
  obtain ⟨EL2, EG2⟩ := List.getElem?_eq_some_iff.1 E2
  obtain ⟨EL3, EG3⟩ := List.getElem?_eq_some_iff.1 E3
  simp only [formV] at K4
  have W6_ : IntKind.i64.wrap ((i_4 : Int) + 1) = (i_4 : Int) + 1 := wr64 W6.1 W6.2
  unfold Cont
  simp +decide [fea_h4, loopsOf, Tryz.f90, fea_C4, C1, C1_, EL2, EG2, E2, EL3, EG3, E3, K4, C5, W6_]
theorem fea_x4_2 {n : Nat} {a0 : List Form} {a1 : List Form} {i_4 : Nat} (C1 : ¬ (i_4 : Int) < (a0.length : Int)) :
    Leave 0 (exec Tryz.prog (tab (n + 1)) 0 27 (livesOf 90) big fea_C4) (livesOf 90 (outOf 4)) (fea_h4 a0 a1 i_4) (.exit 0) (fea_o4b ) := by
  have C1_ : ¬ i_4 < a0.length := by omega
  unfold Leave
  simp +decide [fea_h4, loopsOf, Tryz.f90, fea_o4b, fea_C4, C1, C1_]
theorem fea_f3 {n : Nat} {a0 : List Form} {a1 : List Form} (C1 : (a0.length : Int) = (a1.length : Int)) (L2 : loopG Tryz.prog (tab (n + 1)) 0 27 (livesOf 90) 4 fea_C4 (fea_h4 a0 a1 0) = some (.exit 0, fea_o4b )) :
    run (n + 1) 90 [.sl 4 (a0.map formC), .sl 4 (a1.map formC)] = some (.lit (.bool true)) := by
  have C1_ : ((a0.length : Int) == (a1.length : Int)) = true := by rw [C1]; simp
  have C1_n : ((a0.length : Int) != (a1.length : Int)) = false := by rw [C1]; simp
  unfold run fnP
  simp +decide [Tryz.f90, C1_, C1_n]
  rw [loopX_G (C' := fea_C4) (e := (fea_h4 a0 a1 0)) ?_ ?_, L2]
  rotate_left
  · kernel_rfl
  · simp +decide [fea_h4, C1_, C1_n]
  simp +decide [fea_o4b, C1_, C1_n]
/-! relucertref07.Make, level 2 -/
end Go.Proofs.YtlpmemelhlnfbaaGreatDoor
