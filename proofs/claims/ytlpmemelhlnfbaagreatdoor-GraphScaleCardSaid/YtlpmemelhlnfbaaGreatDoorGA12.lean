/- Walks: linear.merge@2, linear.Scale@1. -/
import Derived.Test.YtlpmemelhlnfbaaGreatDoorGA5
set_option linter.all false
set_option linter.all false
set_option maxRecDepth 100000
set_option maxHeartbeats 6400000
namespace Go.Proofs.YtlpmemelhlnfbaaGreatDoor
open Go.RowKit

/-! linear.merge, level 1 -/
noncomputable def mgR_C3 : Code := (loopsOf (bodyOf Tryz.f158)).getD 0 .skip
def mgR_h3 (a0 : Form) (a1 : Form) (a2 : Raw) (l_3 : List (Int × Rat)) (l2_3 : List (Int × Rat)) (out_3 : List (Int × Rat)) : St :=
  ⟨[(5, .ptr 0 0), (6, .ptr 1 0), (7, .ptr 2 0), (8, .sl 4 (l_3.map termC)), (9, .sl 4 (l2_3.map termC))],
   [(0, some (.box 27 [.lit (.bool a2.s), natA a2.l1, natA a2.l2] false)),
    (1, some (.box 29 [.nl 4, .lit (.bool false), .nl 1, .nl 1] false)),
    (2, some (.box 29 [.own 3 out_3.length, .lit (.bool (rawQ (a0.2 + (a1.2 * a2.q))).s), natA (rawQ (a0.2 + (a1.2 * a2.q))).l1, natA (rawQ (a0.2 + (a1.2 * a2.q))).l2] false)),
    (3, some (.row 84 4 (out_3.map termC) 0))], 4⟩
def mgR_o3a (a0 : Form) (a1 : Form) (a2 : Raw) (out_3 : List (Int × Rat)) : St :=
  ⟨[(6, .ptr 0 0), (7, .ptr 1 0)],
   [(0, some (.box 29 [.nl 4, .lit (.bool false), .nl 1, .nl 1] false)),
    (1, some (.box 29 [.own 2 out_3.length, .lit (.bool (rawQ (a0.2 + (a1.2 * a2.q))).s), natA (rawQ (a0.2 + (a1.2 * a2.q))).l1, natA (rawQ (a0.2 + (a1.2 * a2.q))).l2] false)),
    (2, some (.row 84 4 (out_3.map termC) 0))], 3⟩
theorem mgR_r3_1 {n : Nat} {a0 : Form} {a1 : Form} {a2 : Raw} {l_3 : List (Int × Rat)} {l2_3 : List (Int × Rat)} {v11 : Int} {q11 : Rat} {out_3 : List (Int × Rat)} (C1 : 0 < (l_3.length : Int)) (C2 : (l2_3.length : Int) = 0) (E3 : l_3[0]? = some (v11, q11)) (K4 : runL n 137 [.agg [.own 0 out_3.length, .lit (.bool (rawQ (a0.2 + (a1.2 * a2.q))).s), natA (rawQ (a0.2 + (a1.2 * a2.q))).l1, natA (rawQ (a0.2 + (a1.2 * a2.q))).l2], .lit (.int .i64 v11), ratV q11] [.row 84 4 (out_3.map termC) 0] = some (.agg [.own 0 out_3.length, .lit (.bool (rawQ (a0.2 + (a1.2 * a2.q))).s), natA (rawQ (a0.2 + (a1.2 * a2.q))).l1, natA (rawQ (a0.2 + (a1.2 * a2.q))).l2], [(0, .row 84 4 (out_3.map termC) 0)])) (U5 : 0 ≤ 1 ∧ 1 ≤ (l_3.length : Int)) :
    Cont 0 (exec Tryz.prog (tab (n + 1)) 0 113 (livesOf 158) big mgR_C3) (livesOf 158 3) (mgR_h3 a0 a1 a2 l_3 l2_3 out_3) (mgR_h3 a0 a1 a2 (l_3.drop 1) l2_3 out_3) := by
  have C1_ : 0 < l_3.length := by omega
  have C1_z : (l_3.length : Int) ≠ 0 := by omega
  have C1_e : ((l_3.length : Int) == 0) = false := by simpa using C1_z
  have C1_g : ((l_3.length : Int) != 0) = true := by simpa using C1_z
  have C2_ : ((l2_3.length : Int) == 0) = true := by rw [C2]; simp
  have C2_n : ((l2_3.length : Int) != 0) = false := by rw [C2]; simp
  have C2_l : ¬ 0 < (l2_3.length : Int) := by omega
  obtain ⟨EL3, EG3⟩ := List.getElem?_eq_some_iff.1 E3
  simp only [ratV] at K4
  unfold Cont
  simp +decide [mgR_h3, loopsOf, Tryz.f158, mgR_C3, C1, C1_, C1_e, C1_g, C2_, C2_n, C2_l, EL3, EG3, E3, K4, U5]
theorem mgR_r3_2 {n : Nat} {a0 : Form} {a1 : Form} {a2 : Raw} {l_3 : List (Int × Rat)} {l2_3 : List (Int × Rat)} {v11 : Int} {q11 : Rat} {out_3 : List (Int × Rat)} {R11 : List (Int × Rat)} (C1 : 0 < (l_3.length : Int)) (C2 : (l2_3.length : Int) = 0) (E3 : l_3[0]? = some (v11, q11)) (K4 : runL n 137 [.agg [.own 0 out_3.length, .lit (.bool (rawQ (a0.2 + (a1.2 * a2.q))).s), natA (rawQ (a0.2 + (a1.2 * a2.q))).l1, natA (rawQ (a0.2 + (a1.2 * a2.q))).l2], .lit (.int .i64 v11), ratV q11] [.row 84 4 (out_3.map termC) 0] = some (.agg [.own 4 R11.length, .lit (.bool (rawQ (a0.2 + (a1.2 * a2.q))).s), natA (rawQ (a0.2 + (a1.2 * a2.q))).l1, natA (rawQ (a0.2 + (a1.2 * a2.q))).l2], [(4, .row 84 4 (R11.map termC) 0)])) (U5 : 0 ≤ 1 ∧ 1 ≤ (l_3.length : Int)) :
    Cont 0 (exec Tryz.prog (tab (n + 1)) 0 113 (livesOf 158) big mgR_C3) (livesOf 158 3) (mgR_h3 a0 a1 a2 l_3 l2_3 out_3) (mgR_h3 a0 a1 a2 (l_3.drop 1) l2_3 R11) := by
  have C1_ : 0 < l_3.length := by omega
  have C1_z : (l_3.length : Int) ≠ 0 := by omega
  have C1_e : ((l_3.length : Int) == 0) = false := by simpa using C1_z
  have C1_g : ((l_3.length : Int) != 0) = true := by simpa using C1_z
  have C2_ : ((l2_3.length : Int) == 0) = true := by rw [C2]; simp
  have C2_n : ((l2_3.length : Int) != 0) = false := by rw [C2]; simp
  have C2_l : ¬ 0 < (l2_3.length : Int) := by omega
  obtain ⟨EL3, EG3⟩ := List.getElem?_eq_some_iff.1 E3
  simp only [ratV] at K4
  unfold Cont
  simp +decide [mgR_h3, loopsOf, Tryz.f158, mgR_C3, C1, C1_, C1_e, C1_g, C2_, C2_n, C2_l, EL3, EG3, E3, K4, U5]
theorem mgR_r3_3 {n : Nat} {a0 : Form} {a1 : Form} {a2 : Raw} {l_3 : List (Int × Rat)} {l2_3 : List (Int × Rat)} {v9 : Int} {q9 : Rat} {v10 : Int} {q10 : Rat} {out_3 : List (Int × Rat)} (C1 : 0 < (l_3.length : Int)) (C2 : ¬ (l2_3.length : Int) = 0) (E3 : l_3[0]? = some (v9, q9)) (E4 : l2_3[0]? = some (v10, q10)) (C5 : v9 < v10) (K6 : runL n 137 [.agg [.own 0 out_3.length, .lit (.bool (rawQ (a0.2 + (a1.2 * a2.q))).s), natA (rawQ (a0.2 + (a1.2 * a2.q))).l1, natA (rawQ (a0.2 + (a1.2 * a2.q))).l2], .lit (.int .i64 v9), ratV q9] [.row 84 4 (out_3.map termC) 0] = some (.agg [.own 0 out_3.length, .lit (.bool (rawQ (a0.2 + (a1.2 * a2.q))).s), natA (rawQ (a0.2 + (a1.2 * a2.q))).l1, natA (rawQ (a0.2 + (a1.2 * a2.q))).l2], [(0, .row 84 4 (out_3.map termC) 0)])) (U7 : 0 ≤ 1 ∧ 1 ≤ (l_3.length : Int)) :
    Cont 0 (exec Tryz.prog (tab (n + 1)) 0 113 (livesOf 158) big mgR_C3) (livesOf 158 3) (mgR_h3 a0 a1 a2 l_3 l2_3 out_3) (mgR_h3 a0 a1 a2 (l_3.drop 1) l2_3 out_3) := by
  have C1_ : 0 < l_3.length := by omega
  have C1_z : (l_3.length : Int) ≠ 0 := by omega
  have C1_e : ((l_3.length : Int) == 0) = false := by simpa using C1_z
  have C1_g : ((l_3.length : Int) != 0) = true := by simpa using C1_z
  have C2_ : ((l2_3.length : Int) == 0) = false := by simpa using C2
  have C2_n : ((l2_3.length : Int) != 0) = true := by simpa using C2
  have C2_l : 0 < (l2_3.length : Int) := by omega
  obtain ⟨EL3, EG3⟩ := List.getElem?_eq_some_iff.1 E3
  obtain ⟨EL4, EG4⟩ := List.getElem?_eq_some_iff.1 E4
  simp only [ratV] at K6
  unfold Cont
  simp +decide [mgR_h3, loopsOf, Tryz.f158, mgR_C3, C1, C1_, C1_e, C1_g, C2_, C2_n, C2_l, EL3, EG3, E3, EL4, EG4, E4, C5, K6, U7]
theorem mgR_r3_4 {n : Nat} {a0 : Form} {a1 : Form} {a2 : Raw} {l_3 : List (Int × Rat)} {l2_3 : List (Int × Rat)} {v9 : Int} {q9 : Rat} {v10 : Int} {q10 : Rat} {out_3 : List (Int × Rat)} {R12 : List (Int × Rat)} (C1 : 0 < (l_3.length : Int)) (C2 : ¬ (l2_3.length : Int) = 0) (E3 : l_3[0]? = some (v9, q9)) (E4 : l2_3[0]? = some (v10, q10)) (C5 : v9 < v10) (K6 : runL n 137 [.agg [.own 0 out_3.length, .lit (.bool (rawQ (a0.2 + (a1.2 * a2.q))).s), natA (rawQ (a0.2 + (a1.2 * a2.q))).l1, natA (rawQ (a0.2 + (a1.2 * a2.q))).l2], .lit (.int .i64 v9), ratV q9] [.row 84 4 (out_3.map termC) 0] = some (.agg [.own 4 R12.length, .lit (.bool (rawQ (a0.2 + (a1.2 * a2.q))).s), natA (rawQ (a0.2 + (a1.2 * a2.q))).l1, natA (rawQ (a0.2 + (a1.2 * a2.q))).l2], [(4, .row 84 4 (R12.map termC) 0)])) (U7 : 0 ≤ 1 ∧ 1 ≤ (l_3.length : Int)) :
    Cont 0 (exec Tryz.prog (tab (n + 1)) 0 113 (livesOf 158) big mgR_C3) (livesOf 158 3) (mgR_h3 a0 a1 a2 l_3 l2_3 out_3) (mgR_h3 a0 a1 a2 (l_3.drop 1) l2_3 R12) := by
  have C1_ : 0 < l_3.length := by omega
  have C1_z : (l_3.length : Int) ≠ 0 := by omega
  have C1_e : ((l_3.length : Int) == 0) = false := by simpa using C1_z
  have C1_g : ((l_3.length : Int) != 0) = true := by simpa using C1_z
  have C2_ : ((l2_3.length : Int) == 0) = false := by simpa using C2
  have C2_n : ((l2_3.length : Int) != 0) = true := by simpa using C2
  have C2_l : 0 < (l2_3.length : Int) := by omega
  obtain ⟨EL3, EG3⟩ := List.getElem?_eq_some_iff.1 E3
  obtain ⟨EL4, EG4⟩ := List.getElem?_eq_some_iff.1 E4
  simp only [ratV] at K6
  unfold Cont
  simp +decide [mgR_h3, loopsOf, Tryz.f158, mgR_C3, C1, C1_, C1_e, C1_g, C2_, C2_n, C2_l, EL3, EG3, E3, EL4, EG4, E4, C5, K6, U7]
theorem mgR_r3_5 {n : Nat} {a0 : Form} {a1 : Form} {a2 : Raw} {l_3 : List (Int × Rat)} {l2_3 : List (Int × Rat)} {v9 : Int} {q9 : Rat} {v10 : Int} {q10 : Rat} {out_3 : List (Int × Rat)} (C1 : 0 < (l_3.length : Int)) (C2 : ¬ (l2_3.length : Int) = 0) (E3 : l_3[0]? = some (v9, q9)) (E4 : l2_3[0]? = some (v10, q10)) (C5 : ¬ v9 < v10) (C6 : v10 < v9) (B7aH : H q10 ≤ 17179869184) (B7b : RawB a2) (K8 : runL n 137 [.agg [.own 0 out_3.length, .lit (.bool (rawQ (a0.2 + (a1.2 * a2.q))).s), natA (rawQ (a0.2 + (a1.2 * a2.q))).l1, natA (rawQ (a0.2 + (a1.2 * a2.q))).l2], .lit (.int .i64 v10), ratV (q10 * a2.q)] [.row 84 4 (out_3.map termC) 0] = some (.agg [.own 0 out_3.length, .lit (.bool (rawQ (a0.2 + (a1.2 * a2.q))).s), natA (rawQ (a0.2 + (a1.2 * a2.q))).l1, natA (rawQ (a0.2 + (a1.2 * a2.q))).l2], [(0, .row 84 4 (out_3.map termC) 0)])) (U9 : 0 ≤ 1 ∧ 1 ≤ (l2_3.length : Int)) :
    Cont 0 (exec Tryz.prog (tab (n + 1)) 0 113 (livesOf 158) big mgR_C3) (livesOf 158 3) (mgR_h3 a0 a1 a2 l_3 l2_3 out_3) (mgR_h3 a0 a1 a2 l_3 (l2_3.drop 1) out_3) := by
  have C1_ : 0 < l_3.length := by omega
  have C1_z : (l_3.length : Int) ≠ 0 := by omega
  have C1_e : ((l_3.length : Int) == 0) = false := by simpa using C1_z
  have C1_g : ((l_3.length : Int) != 0) = true := by simpa using C1_z
  have C2_ : ((l2_3.length : Int) == 0) = false := by simpa using C2
  have C2_n : ((l2_3.length : Int) != 0) = true := by simpa using C2
  have C2_l : 0 < (l2_3.length : Int) := by omega
  obtain ⟨EL3, EG3⟩ := List.getElem?_eq_some_iff.1 E3
  obtain ⟨EL4, EG4⟩ := List.getElem?_eq_some_iff.1 E4
  have B7a := rawB_q B7aH
  have K7 := rr_mul B7a B7b
  simp only [rawQ_q] at K7
  simp only [ratV] at K8
  unfold Cont
  simp +decide [mgR_h3, loopsOf, Tryz.f158, mgR_C3, C1, C1_, C1_e, C1_g, C2_, C2_n, C2_l, EL3, EG3, E3, EL4, EG4, E4, C5, C6, K7, K8, U9]
theorem mgR_r3_6 {n : Nat} {a0 : Form} {a1 : Form} {a2 : Raw} {l_3 : List (Int × Rat)} {l2_3 : List (Int × Rat)} {v9 : Int} {q9 : Rat} {v10 : Int} {q10 : Rat} {out_3 : List (Int × Rat)} {R13 : List (Int × Rat)} (C1 : 0 < (l_3.length : Int)) (C2 : ¬ (l2_3.length : Int) = 0) (E3 : l_3[0]? = some (v9, q9)) (E4 : l2_3[0]? = some (v10, q10)) (C5 : ¬ v9 < v10) (C6 : v10 < v9) (B7aH : H q10 ≤ 17179869184) (B7b : RawB a2) (K8 : runL n 137 [.agg [.own 0 out_3.length, .lit (.bool (rawQ (a0.2 + (a1.2 * a2.q))).s), natA (rawQ (a0.2 + (a1.2 * a2.q))).l1, natA (rawQ (a0.2 + (a1.2 * a2.q))).l2], .lit (.int .i64 v10), ratV (q10 * a2.q)] [.row 84 4 (out_3.map termC) 0] = some (.agg [.own 4 R13.length, .lit (.bool (rawQ (a0.2 + (a1.2 * a2.q))).s), natA (rawQ (a0.2 + (a1.2 * a2.q))).l1, natA (rawQ (a0.2 + (a1.2 * a2.q))).l2], [(4, .row 84 4 (R13.map termC) 0)])) (U9 : 0 ≤ 1 ∧ 1 ≤ (l2_3.length : Int)) :
    Cont 0 (exec Tryz.prog (tab (n + 1)) 0 113 (livesOf 158) big mgR_C3) (livesOf 158 3) (mgR_h3 a0 a1 a2 l_3 l2_3 out_3) (mgR_h3 a0 a1 a2 l_3 (l2_3.drop 1) R13) := by
  have C1_ : 0 < l_3.length := by omega
  have C1_z : (l_3.length : Int) ≠ 0 := by omega
  have C1_e : ((l_3.length : Int) == 0) = false := by simpa using C1_z
  have C1_g : ((l_3.length : Int) != 0) = true := by simpa using C1_z
  have C2_ : ((l2_3.length : Int) == 0) = false := by simpa using C2
  have C2_n : ((l2_3.length : Int) != 0) = true := by simpa using C2
  have C2_l : 0 < (l2_3.length : Int) := by omega
  obtain ⟨EL3, EG3⟩ := List.getElem?_eq_some_iff.1 E3
  obtain ⟨EL4, EG4⟩ := List.getElem?_eq_some_iff.1 E4
  have B7a := rawB_q B7aH
  have K7 := rr_mul B7a B7b
  simp only [rawQ_q] at K7
  simp only [ratV] at K8
  unfold Cont
  simp +decide [mgR_h3, loopsOf, Tryz.f158, mgR_C3, C1, C1_, C1_e, C1_g, C2_, C2_n, C2_l, EL3, EG3, E3, EL4, EG4, E4, C5, C6, K7, K8, U9]
theorem mgR_r3_7 {n : Nat} {a0 : Form} {a1 : Form} {a2 : Raw} {l_3 : List (Int × Rat)} {l2_3 : List (Int × Rat)} {v9 : Int} {q9 : Rat} {v10 : Int} {q10 : Rat} {out_3 : List (Int × Rat)} (C1 : 0 < (l_3.length : Int)) (C2 : ¬ (l2_3.length : Int) = 0) (E3 : l_3[0]? = some (v9, q9)) (E4 : l2_3[0]? = some (v10, q10)) (C5 : ¬ v9 < v10) (C6 : ¬ v10 < v9) (B7aH : H q10 ≤ 17179869184) (B7b : RawB a2) (B8a : H q9 ≤ 17179869184) (B8b : H (q10 * a2.q) ≤ 17179869184) (K9 : runL n 137 [.agg [.own 0 out_3.length, .lit (.bool (rawQ (a0.2 + (a1.2 * a2.q))).s), natA (rawQ (a0.2 + (a1.2 * a2.q))).l1, natA (rawQ (a0.2 + (a1.2 * a2.q))).l2], .lit (.int .i64 v9), ratV (q9 + (q10 * a2.q))] [.row 84 4 (out_3.map termC) 0] = some (.agg [.own 0 out_3.length, .lit (.bool (rawQ (a0.2 + (a1.2 * a2.q))).s), natA (rawQ (a0.2 + (a1.2 * a2.q))).l1, natA (rawQ (a0.2 + (a1.2 * a2.q))).l2], [(0, .row 84 4 (out_3.map termC) 0)])) (U10 : 0 ≤ 1 ∧ 1 ≤ (l_3.length : Int)) (U11 : 0 ≤ 1 ∧ 1 ≤ (l2_3.length : Int)) :
    Cont 0 (exec Tryz.prog (tab (n + 1)) 0 113 (livesOf 158) big mgR_C3) (livesOf 158 3) (mgR_h3 a0 a1 a2 l_3 l2_3 out_3) (mgR_h3 a0 a1 a2 (l_3.drop 1) (l2_3.drop 1) out_3) := by
  have C1_ : 0 < l_3.length := by omega
  have C1_z : (l_3.length : Int) ≠ 0 := by omega
  have C1_e : ((l_3.length : Int) == 0) = false := by simpa using C1_z
  have C1_g : ((l_3.length : Int) != 0) = true := by simpa using C1_z
  have C2_ : ((l2_3.length : Int) == 0) = false := by simpa using C2
  have C2_n : ((l2_3.length : Int) != 0) = true := by simpa using C2
  have C2_l : 0 < (l2_3.length : Int) := by omega
  obtain ⟨EL3, EG3⟩ := List.getElem?_eq_some_iff.1 E3
  obtain ⟨EL4, EG4⟩ := List.getElem?_eq_some_iff.1 E4
  have B7a := rawB_q B7aH
  have K7 := rr_mul B7a B7b
  simp only [rawQ_q] at K7
  have K8 := r_add (p := q9) (q := q10 * a2.q) B8a B8b
  simp only [ratV] at K9
  unfold Cont
  simp +decide [mgR_h3, loopsOf, Tryz.f158, mgR_C3, C1, C1_, C1_e, C1_g, C2_, C2_n, C2_l, EL3, EG3, E3, EL4, EG4, E4, C5, C6, K7, K8, K9, U10, U11]
theorem mgR_r3_8 {n : Nat} {a0 : Form} {a1 : Form} {a2 : Raw} {l_3 : List (Int × Rat)} {l2_3 : List (Int × Rat)} {v9 : Int} {q9 : Rat} {v10 : Int} {q10 : Rat} {out_3 : List (Int × Rat)} {R14 : List (Int × Rat)} (C1 : 0 < (l_3.length : Int)) (C2 : ¬ (l2_3.length : Int) = 0) (E3 : l_3[0]? = some (v9, q9)) (E4 : l2_3[0]? = some (v10, q10)) (C5 : ¬ v9 < v10) (C6 : ¬ v10 < v9) (B7aH : H q10 ≤ 17179869184) (B7b : RawB a2) (B8a : H q9 ≤ 17179869184) (B8b : H (q10 * a2.q) ≤ 17179869184) (K9 : runL n 137 [.agg [.own 0 out_3.length, .lit (.bool (rawQ (a0.2 + (a1.2 * a2.q))).s), natA (rawQ (a0.2 + (a1.2 * a2.q))).l1, natA (rawQ (a0.2 + (a1.2 * a2.q))).l2], .lit (.int .i64 v9), ratV (q9 + (q10 * a2.q))] [.row 84 4 (out_3.map termC) 0] = some (.agg [.own 4 R14.length, .lit (.bool (rawQ (a0.2 + (a1.2 * a2.q))).s), natA (rawQ (a0.2 + (a1.2 * a2.q))).l1, natA (rawQ (a0.2 + (a1.2 * a2.q))).l2], [(4, .row 84 4 (R14.map termC) 0)])) (U10 : 0 ≤ 1 ∧ 1 ≤ (l_3.length : Int)) (U11 : 0 ≤ 1 ∧ 1 ≤ (l2_3.length : Int)) :
    Cont 0 (exec Tryz.prog (tab (n + 1)) 0 113 (livesOf 158) big mgR_C3) (livesOf 158 3) (mgR_h3 a0 a1 a2 l_3 l2_3 out_3) (mgR_h3 a0 a1 a2 (l_3.drop 1) (l2_3.drop 1) R14) := by
  have C1_ : 0 < l_3.length := by omega
  have C1_z : (l_3.length : Int) ≠ 0 := by omega
  have C1_e : ((l_3.length : Int) == 0) = false := by simpa using C1_z
  have C1_g : ((l_3.length : Int) != 0) = true := by simpa using C1_z
  have C2_ : ((l2_3.length : Int) == 0) = false := by simpa using C2
  have C2_n : ((l2_3.length : Int) != 0) = true := by simpa using C2
  have C2_l : 0 < (l2_3.length : Int) := by omega
  obtain ⟨EL3, EG3⟩ := List.getElem?_eq_some_iff.1 E3
  obtain ⟨EL4, EG4⟩ := List.getElem?_eq_some_iff.1 E4
  have B7a := rawB_q B7aH
  have K7 := rr_mul B7a B7b
  simp only [rawQ_q] at K7
  have K8 := r_add (p := q9) (q := q10 * a2.q) B8a B8b
  simp only [ratV] at K9
  unfold Cont
  simp +decide [mgR_h3, loopsOf, Tryz.f158, mgR_C3, C1, C1_, C1_e, C1_g, C2_, C2_n, C2_l, EL3, EG3, E3, EL4, EG4, E4, C5, C6, K7, K8, K9, U10, U11]
theorem mgR_r3_9 {n : Nat} {a0 : Form} {a1 : Form} {a2 : Raw} {l_3 : List (Int × Rat)} {l2_3 : List (Int × Rat)} {v12 : Int} {q12 : Rat} {out_3 : List (Int × Rat)} (C1 : ¬ 0 < (l_3.length : Int)) (C2 : 0 < (l2_3.length : Int)) (E3 : l2_3[0]? = some (v12, q12)) (B4aH : H q12 ≤ 17179869184) (B4b : RawB a2) (K5 : runL n 137 [.agg [.own 0 out_3.length, .lit (.bool (rawQ (a0.2 + (a1.2 * a2.q))).s), natA (rawQ (a0.2 + (a1.2 * a2.q))).l1, natA (rawQ (a0.2 + (a1.2 * a2.q))).l2], .lit (.int .i64 v12), ratV (q12 * a2.q)] [.row 84 4 (out_3.map termC) 0] = some (.agg [.own 0 out_3.length, .lit (.bool (rawQ (a0.2 + (a1.2 * a2.q))).s), natA (rawQ (a0.2 + (a1.2 * a2.q))).l1, natA (rawQ (a0.2 + (a1.2 * a2.q))).l2], [(0, .row 84 4 (out_3.map termC) 0)])) (U6 : 0 ≤ 1 ∧ 1 ≤ (l2_3.length : Int)) :
    Cont 0 (exec Tryz.prog (tab (n + 1)) 0 113 (livesOf 158) big mgR_C3) (livesOf 158 3) (mgR_h3 a0 a1 a2 l_3 l2_3 out_3) (mgR_h3 a0 a1 a2 l_3 (l2_3.drop 1) out_3) := by
  have C1_ : ¬ 0 < l_3.length := by omega
  have C1_z : (l_3.length : Int) = 0 := by omega
  have C1_e : ((l_3.length : Int) == 0) = true := by rw [C1_z]; simp
  have C1_g : ((l_3.length : Int) != 0) = false := by rw [C1_z]; simp
  have C2_ : 0 < l2_3.length := by omega
  have C2_z : (l2_3.length : Int) ≠ 0 := by omega
  have C2_e : ((l2_3.length : Int) == 0) = false := by simpa using C2_z
  have C2_g : ((l2_3.length : Int) != 0) = true := by simpa using C2_z
  obtain ⟨EL3, EG3⟩ := List.getElem?_eq_some_iff.1 E3
  have B4a := rawB_q B4aH
  have K4 := rr_mul B4a B4b
  simp only [rawQ_q] at K4
  simp only [ratV] at K5
  unfold Cont
  simp +decide [mgR_h3, loopsOf, Tryz.f158, mgR_C3, C1, C1_, C1_e, C1_g, C2, C2_, C2_e, C2_g, EL3, EG3, E3, K4, K5, U6]
theorem mgR_r3_10 {n : Nat} {a0 : Form} {a1 : Form} {a2 : Raw} {l_3 : List (Int × Rat)} {l2_3 : List (Int × Rat)} {v12 : Int} {q12 : Rat} {out_3 : List (Int × Rat)} {R15 : List (Int × Rat)} (C1 : ¬ 0 < (l_3.length : Int)) (C2 : 0 < (l2_3.length : Int)) (E3 : l2_3[0]? = some (v12, q12)) (B4aH : H q12 ≤ 17179869184) (B4b : RawB a2) (K5 : runL n 137 [.agg [.own 0 out_3.length, .lit (.bool (rawQ (a0.2 + (a1.2 * a2.q))).s), natA (rawQ (a0.2 + (a1.2 * a2.q))).l1, natA (rawQ (a0.2 + (a1.2 * a2.q))).l2], .lit (.int .i64 v12), ratV (q12 * a2.q)] [.row 84 4 (out_3.map termC) 0] = some (.agg [.own 4 R15.length, .lit (.bool (rawQ (a0.2 + (a1.2 * a2.q))).s), natA (rawQ (a0.2 + (a1.2 * a2.q))).l1, natA (rawQ (a0.2 + (a1.2 * a2.q))).l2], [(4, .row 84 4 (R15.map termC) 0)])) (U6 : 0 ≤ 1 ∧ 1 ≤ (l2_3.length : Int)) :
    Cont 0 (exec Tryz.prog (tab (n + 1)) 0 113 (livesOf 158) big mgR_C3) (livesOf 158 3) (mgR_h3 a0 a1 a2 l_3 l2_3 out_3) (mgR_h3 a0 a1 a2 l_3 (l2_3.drop 1) R15) := by
  have C1_ : ¬ 0 < l_3.length := by omega
  have C1_z : (l_3.length : Int) = 0 := by omega
  have C1_e : ((l_3.length : Int) == 0) = true := by rw [C1_z]; simp
  have C1_g : ((l_3.length : Int) != 0) = false := by rw [C1_z]; simp
  have C2_ : 0 < l2_3.length := by omega
  have C2_z : (l2_3.length : Int) ≠ 0 := by omega
  have C2_e : ((l2_3.length : Int) == 0) = false := by simpa using C2_z
  have C2_g : ((l2_3.length : Int) != 0) = true := by simpa using C2_z
  obtain ⟨EL3, EG3⟩ := List.getElem?_eq_some_iff.1 E3
  have B4a := rawB_q B4aH
  have K4 := rr_mul B4a B4b
  simp only [rawQ_q] at K4
  simp only [ratV] at K5
  unfold Cont
  simp +decide [mgR_h3, loopsOf, Tryz.f158, mgR_C3, C1, C1_, C1_e, C1_g, C2, C2_, C2_e, C2_g, EL3, EG3, E3, K4, K5, U6]
theorem mgR_x3_1 {n : Nat} {a0 : Form} {a1 : Form} {a2 : Raw} {l_3 : List (Int × Rat)} {l2_3 : List (Int × Rat)} {out_3 : List (Int × Rat)} (C1 : ¬ 0 < (l_3.length : Int)) (C2 : ¬ 0 < (l2_3.length : Int)) :
    Leave 0 (exec Tryz.prog (tab (n + 1)) 0 113 (livesOf 158) big mgR_C3) (livesOf 158 (outOf 3)) (mgR_h3 a0 a1 a2 l_3 l2_3 out_3) (.exit 0) (mgR_o3a a0 a1 a2 out_3) := by
  have C1_ : ¬ 0 < l_3.length := by omega
  have C1_z : (l_3.length : Int) = 0 := by omega
  have C1_e : ((l_3.length : Int) == 0) = true := by rw [C1_z]; simp
  have C1_g : ((l_3.length : Int) != 0) = false := by rw [C1_z]; simp
  have C2_ : ¬ 0 < l2_3.length := by omega
  have C2_z : (l2_3.length : Int) = 0 := by omega
  have C2_e : ((l2_3.length : Int) == 0) = true := by rw [C2_z]; simp
  have C2_g : ((l2_3.length : Int) != 0) = false := by rw [C2_z]; simp
  unfold Leave
  simp +decide [mgR_h3, loopsOf, Tryz.f158, mgR_o3a, mgR_C3, C1, C1_, C1_e, C1_g, C2, C2_, C2_e, C2_g]
theorem mgR_f1 {n : Nat} {a0 : Form} {a1 : Form} {a2 : Raw} {out_3 : List (Int × Rat)} (B1aH : H a1.2 ≤ 17179869184) (B1b : RawB a2) (B2a : H a0.2 ≤ 17179869184) (B2b : H (a1.2 * a2.q) ≤ 17179869184) (L3 : loopG Tryz.prog (tab (n + 1)) 0 113 (livesOf 158) 3 mgR_C3 (mgR_h3 a0 a1 a2 a0.1 a1.1 []) = some (.exit 0, mgR_o3a a0 a1 a2 out_3)) :
    run (n + 1) 158 [formV a0, formV a1, .agg [.lit (.bool a2.s), natA a2.l1, natA a2.l2]] = some (formV (out_3, a0.2 + (a1.2 * a2.q))) := by
  have B1a := rawB_q B1aH
  have K1 := rr_mul B1a B1b
  simp only [rawQ_q] at K1
  have K2 := r_add (p := a0.2) (q := a1.2 * a2.q) B2a B2b
  unfold run fnP
  simp +decide [Tryz.f158, K1, K2]
  rw [loopX_G (C' := mgR_C3) (e := (mgR_h3 a0 a1 a2 a0.1 a1.1 [])) ?_ ?_, L3]
  rotate_left
  · kernel_rfl
  · simp +decide [mgR_h3, K1, K2]
  simp +decide [mgR_o3a, K1, K2]
/-! linear.Scale, level 2 -/
theorem lscR_f1 {n : Nat} {a0 : Form} {a1 : Raw} {r : Form} (K1 : run (n + 1) 158 [.agg [.sl 4 [], .lit (.bool false), .sl 1 [], .sl 1 []], formV a0, .agg [.lit (.bool a1.s), natA a1.l1, natA a1.l2]] = some (formV r)) :
    run (n + 2) 84 [formV a0, .agg [.lit (.bool a1.s), natA a1.l1, natA a1.l2]] = some (formV r) := by
  simp only [formV] at K1
  unfold run fnP
  simp +decide [Tryz.f84, K1]
end Go.Proofs.YtlpmemelhlnfbaaGreatDoor
