import Derived.Test.YtjpoanaoaeaneaaGreatDoorGE16
import Derived.Test.YtjpoanaoaeaneaaGreatDoorGE19
set_option linter.all false
set_option maxRecDepth 100000
set_option maxHeartbeats 6400000
namespace Go.Proofs.YtjpoanaoaeaneaaGreatDoor
open Go.RowKit
theorem pt_new {n : Nat} {F : List (Int × Rat)} {v : Int} {q k : Rat} (hq : H q ≤ 17179869184) (h0 : q ≠ 0) (hF : F.length ≤ 10000000) :
    runL n 97 [.agg [.own 0 F.length, .lit (.bool (rawQ k).s), natA (rawQ k).l1, natA (rawQ k).l2], .lit (.int .i64 v), .agg [.lit (.bool (rawQ q).s), natA (rawQ q).l1, natA (rawQ q).l2]] [.row 82 4 (F.map termC) 0] = some (.agg [.own 4 (F ++ [(v, q)]).length, .lit (.bool (rawQ k).s), natA (rawQ k).l1, natA (rawQ k).l2], [(4, .row 82 4 ((F ++ [(v, q)]).map termC) 0)]) := by
  unfold runL fnL
  have hs := r_sign (p := q) hq
  have hc := r_canon (p := q) hq
  have e2 : (sgR q == 0) = false := by simpa using fun h => h0 (sgR_eq_zero.1 h)
  have e3 : (sgR q != 0) = true := by simpa using fun h => h0 (sgR_eq_zero.1 h)
  have hr : ∀ b, b ≤ 10000 → roomy (F.length + 1) b = true := fun b hb => roomy_s (by omega) hb
  simp +decide [Tryz.f97, hs, hc, e2, e3, hr]
theorem pt_same {n : Nat} {F : List (Int × Rat)} {v : Int} {q k : Rat} (hq : H q ≤ 17179869184) (h0 : q = 0) :
    runL n 97 [.agg [.own 0 F.length, .lit (.bool (rawQ k).s), natA (rawQ k).l1, natA (rawQ k).l2], .lit (.int .i64 v), .agg [.lit (.bool (rawQ q).s), natA (rawQ q).l1, natA (rawQ q).l2]] [.row 82 4 (F.map termC) 0] = some (.agg [.own 0 F.length, .lit (.bool (rawQ k).s), natA (rawQ k).l1, natA (rawQ k).l2], [(0, .row 82 4 (F.map termC) 0)]) := by
  unfold runL fnL
  have hs := r_sign (p := q) hq
  have e2 : (sgR q == 0) = true := by rw [sgR_eq_zero.2 h0]; rfl
  have e3 : (sgR q != 0) = false := by rw [sgR_eq_zero.2 h0]; rfl
  simp +decide [Tryz.f97, hs, e2, e3]
end Go.Proofs.YtjpoanaoaeaneaaGreatDoor
set_option linter.all false
set_option maxRecDepth 100000
set_option maxHeartbeats 6400000
namespace Go.Proofs.YtjpoanaoaeaneaaGreatDoor
open Go.RowKit
noncomputable def mg_C3 : Code := (loopsOf (bodyOf Tryz.f133)).getD 0 .skip
def mg_h3 (a0 : Form) (a1 : Form) (a2 : Rat) (l_3 : List (Int × Rat)) (l2_3 : List (Int × Rat)) (out_3 : List (Int × Rat)) : St :=
  ⟨[(5, .ptr 0 0), (6, .ptr 1 0), (7, .ptr 2 0), (8, .sl 4 (l_3.map termC)), (9, .sl 4 (l2_3.map termC))],
   [(0, some (.box 26 [.lit (.bool (rawQ a2).s), natA (rawQ a2).l1, natA (rawQ a2).l2] false)),
    (1, some (.box 28 [.nl 4, .lit (.bool false), .nl 1, .nl 1] false)),
    (2, some (.box 28 [.own 3 out_3.length, .lit (.bool (rawQ (a0.2 + (a1.2 * a2))).s), natA (rawQ (a0.2 + (a1.2 * a2))).l1, natA (rawQ (a0.2 + (a1.2 * a2))).l2] false)),
    (3, some (.row 82 4 (out_3.map termC) 0))], 4⟩
def mg_o3a (a0 : Form) (a1 : Form) (a2 : Rat) (out_3 : List (Int × Rat)) : St :=
  ⟨[(6, .ptr 0 0), (7, .ptr 1 0)],
   [(0, some (.box 28 [.nl 4, .lit (.bool false), .nl 1, .nl 1] false)),
    (1, some (.box 28 [.own 2 out_3.length, .lit (.bool (rawQ (a0.2 + (a1.2 * a2))).s), natA (rawQ (a0.2 + (a1.2 * a2))).l1, natA (rawQ (a0.2 + (a1.2 * a2))).l2] false)),
    (2, some (.row 82 4 (out_3.map termC) 0))], 3⟩
section
variable {a0 : Form} {q11 : Rat} {v11 : Int} {a1 : Form} {out_3 : List (Int × Rat)} {n : Nat} {a2 : Rat} {l2_3 : List (Int × Rat)} {l_3 : List (Int × Rat)} {R11 : List (Int × Rat)} {q10 : Rat} {v10 : Int} {q9 : Rat} {v9 : Int} {R12 : List (Int × Rat)} {R13 : List (Int × Rat)} {R14 : List (Int × Rat)} {q12 : Rat} {v12 : Int} {R15 : List (Int × Rat)}
theorem mg_r3_1 (C1 : 0 < (l_3.length : Int)) (C2 : (l2_3.length : Int) = 0) (E3 : l_3[0]? = some (v11, q11)) (K4 : runL n 97 [.agg [.own 0 out_3.length, .lit (.bool (rawQ (a0.2 + (a1.2 * a2))).s), natA (rawQ (a0.2 + (a1.2 * a2))).l1, natA (rawQ (a0.2 + (a1.2 * a2))).l2], .lit (.int .i64 v11), ratV q11] [.row 82 4 (out_3.map termC) 0] = some (.agg [.own 0 out_3.length, .lit (.bool (rawQ (a0.2 + (a1.2 * a2))).s), natA (rawQ (a0.2 + (a1.2 * a2))).l1, natA (rawQ (a0.2 + (a1.2 * a2))).l2], [(0, .row 82 4 (out_3.map termC) 0)])) (U5 : 0 ≤ 1 ∧ 1 ≤ (l_3.length : Int)) :
    Cont 0 (exec Tryz.prog (tab (n + 1)) 0 113 (livesOf 133) big mg_C3) (livesOf 133 3) (mg_h3 a0 a1 a2 l_3 l2_3 out_3) (mg_h3 a0 a1 a2 (l_3.drop 1) l2_3 out_3) := by
  have C1_ : 0 < l_3.length := by omega
  have C1_z : (l_3.length : Int) ≠ 0 := by omega
  have C1_e : ((l_3.length : Int) == 0) = false := by simpa using C1_z
  have C1_g : ((l_3.length : Int) != 0) = true := by simpa using C1_z
  have C2_ : ((l2_3.length : Int) == 0) = true := by rw [C2]; simp
  have C2_n : ((l2_3.length : Int) != 0) = false := by rw [C2]; simp
  have C2_l : ¬ 0 < (l2_3.length : Int) := by omega
  obtain ⟨EL3, EG3⟩ := List.getElem?_eq_some_iff.1 E3
  simp only [ratV] at K4
  unfold Cont
  simp +decide [mg_h3, loopsOf, Tryz.f133, mg_C3, C1, C1_, C1_e, C1_g, C2_, C2_n, C2_l, EL3, EG3, E3, K4, U5]
theorem mg_r3_2 (C1 : 0 < (l_3.length : Int)) (C2 : (l2_3.length : Int) = 0) (E3 : l_3[0]? = some (v11, q11)) (K4 : runL n 97 [.agg [.own 0 out_3.length, .lit (.bool (rawQ (a0.2 + (a1.2 * a2))).s), natA (rawQ (a0.2 + (a1.2 * a2))).l1, natA (rawQ (a0.2 + (a1.2 * a2))).l2], .lit (.int .i64 v11), ratV q11] [.row 82 4 (out_3.map termC) 0] = some (.agg [.own 4 R11.length, .lit (.bool (rawQ (a0.2 + (a1.2 * a2))).s), natA (rawQ (a0.2 + (a1.2 * a2))).l1, natA (rawQ (a0.2 + (a1.2 * a2))).l2], [(4, .row 82 4 (R11.map termC) 0)])) (U5 : 0 ≤ 1 ∧ 1 ≤ (l_3.length : Int)) :
    Cont 0 (exec Tryz.prog (tab (n + 1)) 0 113 (livesOf 133) big mg_C3) (livesOf 133 3) (mg_h3 a0 a1 a2 l_3 l2_3 out_3) (mg_h3 a0 a1 a2 (l_3.drop 1) l2_3 R11) := by
  have C1_ : 0 < l_3.length := by omega
  have C1_z : (l_3.length : Int) ≠ 0 := by omega
  have C1_e : ((l_3.length : Int) == 0) = false := by simpa using C1_z
  have C1_g : ((l_3.length : Int) != 0) = true := by simpa using C1_z
  have C2_ : ((l2_3.length : Int) == 0) = true := by rw [C2]; simp
  have C2_n : ((l2_3.length : Int) != 0) = false := by rw [C2]; simp
  have C2_l : ¬ 0 < (l2_3.length : Int) := by omega
  obtain ⟨EL3, EG3⟩ := List.getElem?_eq_some_iff.1 E3
  simp only [ratV] at K4
  unfold Cont
  simp +decide [mg_h3, loopsOf, Tryz.f133, mg_C3, C1, C1_, C1_e, C1_g, C2_, C2_n, C2_l, EL3, EG3, E3, K4, U5]
theorem mg_r3_3 (C1 : 0 < (l_3.length : Int)) (C2 : ¬ (l2_3.length : Int) = 0) (E3 : l_3[0]? = some (v9, q9)) (E4 : l2_3[0]? = some (v10, q10)) (C5 : v9 < v10) (K6 : runL n 97 [.agg [.own 0 out_3.length, .lit (.bool (rawQ (a0.2 + (a1.2 * a2))).s), natA (rawQ (a0.2 + (a1.2 * a2))).l1, natA (rawQ (a0.2 + (a1.2 * a2))).l2], .lit (.int .i64 v9), ratV q9] [.row 82 4 (out_3.map termC) 0] = some (.agg [.own 0 out_3.length, .lit (.bool (rawQ (a0.2 + (a1.2 * a2))).s), natA (rawQ (a0.2 + (a1.2 * a2))).l1, natA (rawQ (a0.2 + (a1.2 * a2))).l2], [(0, .row 82 4 (out_3.map termC) 0)])) (U7 : 0 ≤ 1 ∧ 1 ≤ (l_3.length : Int)) :
    Cont 0 (exec Tryz.prog (tab (n + 1)) 0 113 (livesOf 133) big mg_C3) (livesOf 133 3) (mg_h3 a0 a1 a2 l_3 l2_3 out_3) (mg_h3 a0 a1 a2 (l_3.drop 1) l2_3 out_3) := by
  have C1_ : 0 < l_3.length := by omega
  have C1_z : (l_3.length : Int) ≠ 0 := by omega
  have C1_e : ((l_3.length : Int) == 0) = false := by simpa using C1_z
  have C1_g : ((l_3.length : Int) != 0) = true := by simpa using C1_z
  have C2_ : ((l2_3.length : Int) == 0) = false := by simpa using C2
  have C2_n : ((l2_3.length : Int) != 0) = true := by simpa using C2
  have C2_l : 0 < (l2_3.length : Int) := by omega
  obtain ⟨EL3, EG3⟩ := List.getElem?_eq_some_iff.1 E3
  obtain ⟨EL4, EG4⟩ := List.getElem?_eq_some_iff.1 E4
  simp only [ratV] at K6
  unfold Cont
  simp +decide [mg_h3, loopsOf, Tryz.f133, mg_C3, C1, C1_, C1_e, C1_g, C2_, C2_n, C2_l, EL3, EG3, E3, EL4, EG4, E4, C5, K6, U7]
theorem mg_r3_4 (C1 : 0 < (l_3.length : Int)) (C2 : ¬ (l2_3.length : Int) = 0) (E3 : l_3[0]? = some (v9, q9)) (E4 : l2_3[0]? = some (v10, q10)) (C5 : v9 < v10) (K6 : runL n 97 [.agg [.own 0 out_3.length, .lit (.bool (rawQ (a0.2 + (a1.2 * a2))).s), natA (rawQ (a0.2 + (a1.2 * a2))).l1, natA (rawQ (a0.2 + (a1.2 * a2))).l2], .lit (.int .i64 v9), ratV q9] [.row 82 4 (out_3.map termC) 0] = some (.agg [.own 4 R12.length, .lit (.bool (rawQ (a0.2 + (a1.2 * a2))).s), natA (rawQ (a0.2 + (a1.2 * a2))).l1, natA (rawQ (a0.2 + (a1.2 * a2))).l2], [(4, .row 82 4 (R12.map termC) 0)])) (U7 : 0 ≤ 1 ∧ 1 ≤ (l_3.length : Int)) :
    Cont 0 (exec Tryz.prog (tab (n + 1)) 0 113 (livesOf 133) big mg_C3) (livesOf 133 3) (mg_h3 a0 a1 a2 l_3 l2_3 out_3) (mg_h3 a0 a1 a2 (l_3.drop 1) l2_3 R12) := by
  have C1_ : 0 < l_3.length := by omega
  have C1_z : (l_3.length : Int) ≠ 0 := by omega
  have C1_e : ((l_3.length : Int) == 0) = false := by simpa using C1_z
  have C1_g : ((l_3.length : Int) != 0) = true := by simpa using C1_z
  have C2_ : ((l2_3.length : Int) == 0) = false := by simpa using C2
  have C2_n : ((l2_3.length : Int) != 0) = true := by simpa using C2
  have C2_l : 0 < (l2_3.length : Int) := by omega
  obtain ⟨EL3, EG3⟩ := List.getElem?_eq_some_iff.1 E3
  obtain ⟨EL4, EG4⟩ := List.getElem?_eq_some_iff.1 E4
  simp only [ratV] at K6
  unfold Cont
  simp +decide [mg_h3, loopsOf, Tryz.f133, mg_C3, C1, C1_, C1_e, C1_g, C2_, C2_n, C2_l, EL3, EG3, E3, EL4, EG4, E4, C5, K6, U7]
theorem mg_r3_5 (C1 : 0 < (l_3.length : Int)) (C2 : ¬ (l2_3.length : Int) = 0) (E3 : l_3[0]? = some (v9, q9)) (E4 : l2_3[0]? = some (v10, q10)) (C5 : ¬ v9 < v10) (C6 : v10 < v9) (B7a : H q10 ≤ 17179869184) (B7b : H a2 ≤ 17179869184) (K8 : runL n 97 [.agg [.own 0 out_3.length, .lit (.bool (rawQ (a0.2 + (a1.2 * a2))).s), natA (rawQ (a0.2 + (a1.2 * a2))).l1, natA (rawQ (a0.2 + (a1.2 * a2))).l2], .lit (.int .i64 v10), ratV (q10 * a2)] [.row 82 4 (out_3.map termC) 0] = some (.agg [.own 0 out_3.length, .lit (.bool (rawQ (a0.2 + (a1.2 * a2))).s), natA (rawQ (a0.2 + (a1.2 * a2))).l1, natA (rawQ (a0.2 + (a1.2 * a2))).l2], [(0, .row 82 4 (out_3.map termC) 0)])) (U9 : 0 ≤ 1 ∧ 1 ≤ (l2_3.length : Int)) :
    Cont 0 (exec Tryz.prog (tab (n + 1)) 0 113 (livesOf 133) big mg_C3) (livesOf 133 3) (mg_h3 a0 a1 a2 l_3 l2_3 out_3) (mg_h3 a0 a1 a2 l_3 (l2_3.drop 1) out_3) := by
  have C1_ : 0 < l_3.length := by omega
  have C1_z : (l_3.length : Int) ≠ 0 := by omega
  have C1_e : ((l_3.length : Int) == 0) = false := by simpa using C1_z
  have C1_g : ((l_3.length : Int) != 0) = true := by simpa using C1_z
  have C2_ : ((l2_3.length : Int) == 0) = false := by simpa using C2
  have C2_n : ((l2_3.length : Int) != 0) = true := by simpa using C2
  have C2_l : 0 < (l2_3.length : Int) := by omega
  obtain ⟨EL3, EG3⟩ := List.getElem?_eq_some_iff.1 E3
  obtain ⟨EL4, EG4⟩ := List.getElem?_eq_some_iff.1 E4
  have K7 := r_mul (p := q10) (q := a2) B7a B7b
  simp only [ratV] at K8
  unfold Cont
  simp +decide [mg_h3, loopsOf, Tryz.f133, mg_C3, C1, C1_, C1_e, C1_g, C2_, C2_n, C2_l, EL3, EG3, E3, EL4, EG4, E4, C5, C6, K7, K8, U9]
theorem mg_r3_6 (C1 : 0 < (l_3.length : Int)) (C2 : ¬ (l2_3.length : Int) = 0) (E3 : l_3[0]? = some (v9, q9)) (E4 : l2_3[0]? = some (v10, q10)) (C5 : ¬ v9 < v10) (C6 : v10 < v9) (B7a : H q10 ≤ 17179869184) (B7b : H a2 ≤ 17179869184) (K8 : runL n 97 [.agg [.own 0 out_3.length, .lit (.bool (rawQ (a0.2 + (a1.2 * a2))).s), natA (rawQ (a0.2 + (a1.2 * a2))).l1, natA (rawQ (a0.2 + (a1.2 * a2))).l2], .lit (.int .i64 v10), ratV (q10 * a2)] [.row 82 4 (out_3.map termC) 0] = some (.agg [.own 4 R13.length, .lit (.bool (rawQ (a0.2 + (a1.2 * a2))).s), natA (rawQ (a0.2 + (a1.2 * a2))).l1, natA (rawQ (a0.2 + (a1.2 * a2))).l2], [(4, .row 82 4 (R13.map termC) 0)])) (U9 : 0 ≤ 1 ∧ 1 ≤ (l2_3.length : Int)) :
    Cont 0 (exec Tryz.prog (tab (n + 1)) 0 113 (livesOf 133) big mg_C3) (livesOf 133 3) (mg_h3 a0 a1 a2 l_3 l2_3 out_3) (mg_h3 a0 a1 a2 l_3 (l2_3.drop 1) R13) := by
  have C1_ : 0 < l_3.length := by omega
  have C1_z : (l_3.length : Int) ≠ 0 := by omega
  have C1_e : ((l_3.length : Int) == 0) = false := by simpa using C1_z
  have C1_g : ((l_3.length : Int) != 0) = true := by simpa using C1_z
  have C2_ : ((l2_3.length : Int) == 0) = false := by simpa using C2
  have C2_n : ((l2_3.length : Int) != 0) = true := by simpa using C2
  have C2_l : 0 < (l2_3.length : Int) := by omega
  obtain ⟨EL3, EG3⟩ := List.getElem?_eq_some_iff.1 E3
  obtain ⟨EL4, EG4⟩ := List.getElem?_eq_some_iff.1 E4
  have K7 := r_mul (p := q10) (q := a2) B7a B7b
  simp only [ratV] at K8
  unfold Cont
  simp +decide [mg_h3, loopsOf, Tryz.f133, mg_C3, C1, C1_, C1_e, C1_g, C2_, C2_n, C2_l, EL3, EG3, E3, EL4, EG4, E4, C5, C6, K7, K8, U9]
theorem mg_r3_7 (C1 : 0 < (l_3.length : Int)) (C2 : ¬ (l2_3.length : Int) = 0) (E3 : l_3[0]? = some (v9, q9)) (E4 : l2_3[0]? = some (v10, q10)) (C5 : ¬ v9 < v10) (C6 : ¬ v10 < v9) (B7a : H q10 ≤ 17179869184) (B7b : H a2 ≤ 17179869184) (B8a : H q9 ≤ 17179869184) (B8b : H (q10 * a2) ≤ 17179869184) (K9 : runL n 97 [.agg [.own 0 out_3.length, .lit (.bool (rawQ (a0.2 + (a1.2 * a2))).s), natA (rawQ (a0.2 + (a1.2 * a2))).l1, natA (rawQ (a0.2 + (a1.2 * a2))).l2], .lit (.int .i64 v9), ratV (q9 + (q10 * a2))] [.row 82 4 (out_3.map termC) 0] = some (.agg [.own 0 out_3.length, .lit (.bool (rawQ (a0.2 + (a1.2 * a2))).s), natA (rawQ (a0.2 + (a1.2 * a2))).l1, natA (rawQ (a0.2 + (a1.2 * a2))).l2], [(0, .row 82 4 (out_3.map termC) 0)])) (U10 : 0 ≤ 1 ∧ 1 ≤ (l_3.length : Int)) (U11 : 0 ≤ 1 ∧ 1 ≤ (l2_3.length : Int)) :
    Cont 0 (exec Tryz.prog (tab (n + 1)) 0 113 (livesOf 133) big mg_C3) (livesOf 133 3) (mg_h3 a0 a1 a2 l_3 l2_3 out_3) (mg_h3 a0 a1 a2 (l_3.drop 1) (l2_3.drop 1) out_3) := by
  have C1_ : 0 < l_3.length := by omega
  have C1_z : (l_3.length : Int) ≠ 0 := by omega
  have C1_e : ((l_3.length : Int) == 0) = false := by simpa using C1_z
  have C1_g : ((l_3.length : Int) != 0) = true := by simpa using C1_z
  have C2_ : ((l2_3.length : Int) == 0) = false := by simpa using C2
  have C2_n : ((l2_3.length : Int) != 0) = true := by simpa using C2
  have C2_l : 0 < (l2_3.length : Int) := by omega
  obtain ⟨EL3, EG3⟩ := List.getElem?_eq_some_iff.1 E3
  obtain ⟨EL4, EG4⟩ := List.getElem?_eq_some_iff.1 E4
  have K7 := r_mul (p := q10) (q := a2) B7a B7b
  have K8 := r_add (p := q9) (q := q10 * a2) B8a B8b
  simp only [ratV] at K9
  unfold Cont
  simp +decide [mg_h3, loopsOf, Tryz.f133, mg_C3, C1, C1_, C1_e, C1_g, C2_, C2_n, C2_l, EL3, EG3, E3, EL4, EG4, E4, C5, C6, K7, K8, K9, U10, U11]
theorem mg_r3_8 (C1 : 0 < (l_3.length : Int)) (C2 : ¬ (l2_3.length : Int) = 0) (E3 : l_3[0]? = some (v9, q9)) (E4 : l2_3[0]? = some (v10, q10)) (C5 : ¬ v9 < v10) (C6 : ¬ v10 < v9) (B7a : H q10 ≤ 17179869184) (B7b : H a2 ≤ 17179869184) (B8a : H q9 ≤ 17179869184) (B8b : H (q10 * a2) ≤ 17179869184) (K9 : runL n 97 [.agg [.own 0 out_3.length, .lit (.bool (rawQ (a0.2 + (a1.2 * a2))).s), natA (rawQ (a0.2 + (a1.2 * a2))).l1, natA (rawQ (a0.2 + (a1.2 * a2))).l2], .lit (.int .i64 v9), ratV (q9 + (q10 * a2))] [.row 82 4 (out_3.map termC) 0] = some (.agg [.own 4 R14.length, .lit (.bool (rawQ (a0.2 + (a1.2 * a2))).s), natA (rawQ (a0.2 + (a1.2 * a2))).l1, natA (rawQ (a0.2 + (a1.2 * a2))).l2], [(4, .row 82 4 (R14.map termC) 0)])) (U10 : 0 ≤ 1 ∧ 1 ≤ (l_3.length : Int)) (U11 : 0 ≤ 1 ∧ 1 ≤ (l2_3.length : Int)) :
    Cont 0 (exec Tryz.prog (tab (n + 1)) 0 113 (livesOf 133) big mg_C3) (livesOf 133 3) (mg_h3 a0 a1 a2 l_3 l2_3 out_3) (mg_h3 a0 a1 a2 (l_3.drop 1) (l2_3.drop 1) R14) := by
  have C1_ : 0 < l_3.length := by omega
  have C1_z : (l_3.length : Int) ≠ 0 := by omega
  have C1_e : ((l_3.length : Int) == 0) = false := by simpa using C1_z
  have C1_g : ((l_3.length : Int) != 0) = true := by simpa using C1_z
  have C2_ : ((l2_3.length : Int) == 0) = false := by simpa using C2
  have C2_n : ((l2_3.length : Int) != 0) = true := by simpa using C2
  have C2_l : 0 < (l2_3.length : Int) := by omega
  obtain ⟨EL3, EG3⟩ := List.getElem?_eq_some_iff.1 E3
  obtain ⟨EL4, EG4⟩ := List.getElem?_eq_some_iff.1 E4
  have K7 := r_mul (p := q10) (q := a2) B7a B7b
  have K8 := r_add (p := q9) (q := q10 * a2) B8a B8b
  simp only [ratV] at K9
  unfold Cont
  simp +decide [mg_h3, loopsOf, Tryz.f133, mg_C3, C1, C1_, C1_e, C1_g, C2_, C2_n, C2_l, EL3, EG3, E3, EL4, EG4, E4, C5, C6, K7, K8, K9, U10, U11]
theorem mg_r3_9 (C1 : ¬ 0 < (l_3.length : Int)) (C2 : 0 < (l2_3.length : Int)) (E3 : l2_3[0]? = some (v12, q12)) (B4a : H q12 ≤ 17179869184) (B4b : H a2 ≤ 17179869184) (K5 : runL n 97 [.agg [.own 0 out_3.length, .lit (.bool (rawQ (a0.2 + (a1.2 * a2))).s), natA (rawQ (a0.2 + (a1.2 * a2))).l1, natA (rawQ (a0.2 + (a1.2 * a2))).l2], .lit (.int .i64 v12), ratV (q12 * a2)] [.row 82 4 (out_3.map termC) 0] = some (.agg [.own 0 out_3.length, .lit (.bool (rawQ (a0.2 + (a1.2 * a2))).s), natA (rawQ (a0.2 + (a1.2 * a2))).l1, natA (rawQ (a0.2 + (a1.2 * a2))).l2], [(0, .row 82 4 (out_3.map termC) 0)])) (U6 : 0 ≤ 1 ∧ 1 ≤ (l2_3.length : Int)) :
    Cont 0 (exec Tryz.prog (tab (n + 1)) 0 113 (livesOf 133) big mg_C3) (livesOf 133 3) (mg_h3 a0 a1 a2 l_3 l2_3 out_3) (mg_h3 a0 a1 a2 l_3 (l2_3.drop 1) out_3) := by
  have C1_ : ¬ 0 < l_3.length := by omega
  have C1_z : (l_3.length : Int) = 0 := by omega
  have C1_e : ((l_3.length : Int) == 0) = true := by rw [C1_z]; simp
  have C1_g : ((l_3.length : Int) != 0) = false := by rw [C1_z]; simp
  have C2_ : 0 < l2_3.length := by omega
  have C2_z : (l2_3.length : Int) ≠ 0 := by omega
  have C2_e : ((l2_3.length : Int) == 0) = false := by simpa using C2_z
  have C2_g : ((l2_3.length : Int) != 0) = true := by simpa using C2_z
  obtain ⟨EL3, EG3⟩ := List.getElem?_eq_some_iff.1 E3
  have K4 := r_mul (p := q12) (q := a2) B4a B4b
  simp only [ratV] at K5
  unfold Cont
  simp +decide [mg_h3, loopsOf, Tryz.f133, mg_C3, C1, C1_, C1_e, C1_g, C2, C2_, C2_e, C2_g, EL3, EG3, E3, K4, K5, U6]
theorem mg_r3_10 (C1 : ¬ 0 < (l_3.length : Int)) (C2 : 0 < (l2_3.length : Int)) (E3 : l2_3[0]? = some (v12, q12)) (B4a : H q12 ≤ 17179869184) (B4b : H a2 ≤ 17179869184) (K5 : runL n 97 [.agg [.own 0 out_3.length, .lit (.bool (rawQ (a0.2 + (a1.2 * a2))).s), natA (rawQ (a0.2 + (a1.2 * a2))).l1, natA (rawQ (a0.2 + (a1.2 * a2))).l2], .lit (.int .i64 v12), ratV (q12 * a2)] [.row 82 4 (out_3.map termC) 0] = some (.agg [.own 4 R15.length, .lit (.bool (rawQ (a0.2 + (a1.2 * a2))).s), natA (rawQ (a0.2 + (a1.2 * a2))).l1, natA (rawQ (a0.2 + (a1.2 * a2))).l2], [(4, .row 82 4 (R15.map termC) 0)])) (U6 : 0 ≤ 1 ∧ 1 ≤ (l2_3.length : Int)) :
    Cont 0 (exec Tryz.prog (tab (n + 1)) 0 113 (livesOf 133) big mg_C3) (livesOf 133 3) (mg_h3 a0 a1 a2 l_3 l2_3 out_3) (mg_h3 a0 a1 a2 l_3 (l2_3.drop 1) R15) := by
  have C1_ : ¬ 0 < l_3.length := by omega
  have C1_z : (l_3.length : Int) = 0 := by omega
  have C1_e : ((l_3.length : Int) == 0) = true := by rw [C1_z]; simp
  have C1_g : ((l_3.length : Int) != 0) = false := by rw [C1_z]; simp
  have C2_ : 0 < l2_3.length := by omega
  have C2_z : (l2_3.length : Int) ≠ 0 := by omega
  have C2_e : ((l2_3.length : Int) == 0) = false := by simpa using C2_z
  have C2_g : ((l2_3.length : Int) != 0) = true := by simpa using C2_z
  obtain ⟨EL3, EG3⟩ := List.getElem?_eq_some_iff.1 E3
  have K4 := r_mul (p := q12) (q := a2) B4a B4b
  simp only [ratV] at K5
  unfold Cont
  simp +decide [mg_h3, loopsOf, Tryz.f133, mg_C3, C1, C1_, C1_e, C1_g, C2, C2_, C2_e, C2_g, EL3, EG3, E3, K4, K5, U6]
theorem mg_x3_1 (C1 : ¬ 0 < (l_3.length : Int)) (C2 : ¬ 0 < (l2_3.length : Int)) :
    Leave 0 (exec Tryz.prog (tab (n + 1)) 0 113 (livesOf 133) big mg_C3) (livesOf 133 (outOf 3)) (mg_h3 a0 a1 a2 l_3 l2_3 out_3) (.exit 0) (mg_o3a a0 a1 a2 out_3) := by
  have C1_ : ¬ 0 < l_3.length := by omega
  have C1_z : (l_3.length : Int) = 0 := by omega
  have C1_e : ((l_3.length : Int) == 0) = true := by rw [C1_z]; simp
  have C1_g : ((l_3.length : Int) != 0) = false := by rw [C1_z]; simp
  have C2_ : ¬ 0 < l2_3.length := by omega
  have C2_z : (l2_3.length : Int) = 0 := by omega
  have C2_e : ((l2_3.length : Int) == 0) = true := by rw [C2_z]; simp
  have C2_g : ((l2_3.length : Int) != 0) = false := by rw [C2_z]; simp
  unfold Leave
  simp +decide [mg_h3, loopsOf, Tryz.f133, mg_o3a, mg_C3, C1, C1_, C1_e, C1_g, C2, C2_, C2_e, C2_g]
theorem mg_f1 (B1a : H a1.2 ≤ 17179869184) (B1b : H a2 ≤ 17179869184) (B2a : H a0.2 ≤ 17179869184) (B2b : H (a1.2 * a2) ≤ 17179869184) (L3 : loopG Tryz.prog (tab (n + 1)) 0 113 (livesOf 133) 3 mg_C3 (mg_h3 a0 a1 a2 a0.1 a1.1 []) = some (.exit 0, mg_o3a a0 a1 a2 out_3)) :
    run (n + 1) 133 [formV a0, formV a1, ratV a2] = some (formV (out_3, a0.2 + (a1.2 * a2))) := by
  have K1 := r_mul (p := a1.2) (q := a2) B1a B1b
  have K2 := r_add (p := a0.2) (q := a1.2 * a2) B2a B2b
  unfold run fnP
  simp +decide [Tryz.f133, K1, K2]
  rw [loopX_G (C' := mg_C3) (e := (mg_h3 a0 a1 a2 a0.1 a1.1 [])) ?_ ?_, L3]
  rotate_left
  · kernel_rfl
  · simp +decide [mg_h3, K1, K2]
  simp +decide [mg_o3a, K1, K2]
end
theorem lsu_f1 {n : Nat} {a0 : Form} {a1 : Form} {r : Form} (K2 : run (n + 1) 133 [formV a0, formV a1, ratV (ofQ (-1))] = some (formV r)) :
    run (n + 2) 101 [formV a0, formV a1] = some (formV r) := by
  have K1 := r_ofq (z := (-1)) (by omega) (by omega)
  simp only [ratV, formV] at K2
  unfold run fnP
  simp +decide [Tryz.f101, K1, K2]
end Go.Proofs.YtjpoanaoaeaneaaGreatDoor
set_option linter.all false
set_option maxRecDepth 100000
set_option maxHeartbeats 6400000
namespace Go.Proofs.YtjpoanaoaeaneaaGreatDoor
open Go.RowKit
attribute [local irreducible] run runL loopG exec
def mgK : List (Int × Rat) → List (Int × Rat) → Nat
  | [], m => m.length
  | a :: l, [] => (a :: l).length
  | a :: l, b :: m => 1 + if a.1 < b.1 then mgK l (b :: m) else if b.1 < a.1 then mgK (a :: l) m else mgK l m
termination_by l m => l.length + m.length
theorem mgK_nil (m : List (Int × Rat)) : mgK [] m = m.length := by rw [mgK]
theorem mgK_a (a : Int × Rat) (l : List (Int × Rat)) : mgK (a :: l) [] = l.length + 1 := by rw [mgK]; rfl
theorem mgK_ab (a b : Int × Rat) (l m : List (Int × Rat)) : mgK (a :: l) (b :: m) = 1 + if a.1 < b.1 then mgK l (b :: m) else if b.1 < a.1 then mgK (a :: l) m else mgK l m := by rw [mgK]
theorem mgK_one (l : List (Int × Rat)) : mgK l [] = l.length := by cases l; exact mgK_nil []; exact mgK_a _ _
theorem mgK_le : ∀ (k : Nat) (l m : List (Int × Rat)), l.length + m.length ≤ k → mgK l m ≤ l.length + m.length
  | k, [], m, h => by rw [mgK_nil]; simp
  | k, a :: l, [], h => by rw [mgK_a]; simp
  | 0, a :: l, b :: m, h => by simp at h
  | k + 1, a :: l, b :: m, h => by
    simp only [List.length_cons] at h
    have h1 := mgK_le k l (b :: m) (by simp <;> omega)
    have h2 := mgK_le k (a :: l) m (by simp <;> omega)
    have h3 := mgK_le k l m (by omega)
    simp only [List.length_cons] at h1 h2
    rw [mgK_ab]
    simp only [List.length_cons]
    split
    · omega
    · split <;> omega
structure MgS where
  l : List (Int × Rat)
  m : List (Int × Rat)
  out : List (Int × Rat)
theorem put_no {v : Int} {q : Rat} (h : q = 0) : put1 v q = [] := if_pos h
theorem put_yes {v : Int} {q : Rat} (h : ¬ q = 0) : put1 v q = [(v, q)] := if_neg h
theorem merge_c {n : Nat} {f g : Form} {c : Rat} {b : Nat} (hF : ∀ t ∈ f.1, H t.2 ≤ b) (hG : ∀ t ∈ g.1, H t.2 ≤ b) (hb : b ≤ 1000000) (hc : H c ≤ 1000000) (hk : H f.2 ≤ 1000000) (hk2 : H g.2 ≤ 1000000) (hlf : f.1.length ≤ 1000000) (hlg : g.1.length ≤ 1000000) :
    run (n + 1) 133 [formV f, formV g, ratV c] = some (formV (mergeV f.1 g.1 c, f.2 + g.2 * c)) := by
  have hm := H_mul g.2 c
  have ha := H_add f.2 (g.2 * c)
  have hM := mgK_le _ f.1 g.1 (Nat.le_refl _)
  obtain ⟨b', hL, hI⟩ := loopG_R (O := tab (n + 1)) (P := Tryz.prog) (m := 0) (N := 113) (lives := livesOf 133) (r := 3) (C := mg_C3) (exN := .exit 0) (M := mgK f.1 g.1) (enc := fun i (s : MgS) => mg_h3 f g c s.l s.m s.out) (out := fun s => mg_o3a f g c s.out)
    (fun i s => s.out ++ mergeV s.l s.m c = mergeV f.1 g.1 c ∧ mgK s.l s.m + i = mgK f.1 g.1 ∧ s.out.length ≤ i ∧ (∀ t ∈ s.l, H t.2 ≤ b) ∧ ∀ t ∈ s.m, H t.2 ≤ b) ⟨f.1, g.1, []⟩ ⟨rfl, rfl, by simp, hF, hG⟩ (by omega) (by simp)
    (fun i s hi hI => by
      obtain ⟨l, m, out⟩ := s
      obtain ⟨i1, i2, i3, i4, i5⟩ := hI
      dsimp only at i1 i2 i3 i4 i5 ⊢
      have fin : ∀ (l' m' : List (Int × Rat)) (v : Int) (q : Rat), mergeV l m c = put1 v q ++ mergeV l' m' c → mgK l m = 1 + mgK l' m' → (∀ t ∈ l', H t.2 ≤ b) → (∀ t ∈ m', H t.2 ≤ b) → ∀ (q' : Rat), q' = q →
          (out ++ put1 v q') ++ mergeV l' m' c = mergeV f.1 g.1 c ∧ mgK l' m' + (i + 1) = mgK f.1 g.1 ∧ (out ++ put1 v q').length ≤ i + 1 ∧ (∀ t ∈ l', H t.2 ≤ b) ∧ ∀ t ∈ m', H t.2 ≤ b := fun l' m' v q h1 h2 h3 h4 q' hq => by
        subst hq
        refine ⟨by rw [List.append_assoc, ← h1]; exact i1, by omega, ?_, h3, h4⟩
        have := put1_len v q'
        rw [List.length_append]; omega
      match l, m with
      | [], [] => rw [mgK_nil] at i2; simp at i2; omega
      | (v, q) :: l, [] =>
        have e := fin l [] v q (mergeV_a (v, q) l c) (by rw [mgK_a, mgK_one]; omega) (fun t ht => i4 t (by simp [ht])) i5 q rfl
        have hq : H q ≤ b := i4 (v, q) (by simp)
        by_cases h0 : q = 0
        · rw [put_no h0, List.append_nil] at e
          exact ⟨⟨l, [], out⟩, mg_r3_1 (l_3 := (v, q) :: l) (by simp <;> omega) (by simp) rfl (pt_same (by omega) h0) ⟨by omega, by simp <;> omega⟩, e⟩
        · rw [put_yes h0] at e
          exact ⟨⟨l, [], out ++ [(v, q)]⟩, mg_r3_2 (l_3 := (v, q) :: l) (by simp <;> omega) (by simp) rfl (pt_new (by omega) h0 (by omega)) ⟨by omega, by simp <;> omega⟩, e⟩
      | [], (u, p) :: m =>
        have e := fin [] m u (p * c) (mergeV_b (u, p) m c) (by rw [mgK_nil, mgK_nil, List.length_cons]; omega) i4 (fun t ht => i5 t (by simp [ht])) (p * c) rfl
        have hp : H p ≤ b := i5 (u, p) (by simp)
        have hpc := H_mul p c
        by_cases h0 : p * c = 0
        · rw [put_no h0, List.append_nil] at e
          exact ⟨⟨[], m, out⟩, mg_r3_9 (l2_3 := (u, p) :: m) (by simp) (by simp <;> omega) rfl (by omega) (by omega) (pt_same (by omega) h0) ⟨by omega, by simp <;> omega⟩, e⟩
        · rw [put_yes h0] at e
          exact ⟨⟨[], m, out ++ [(u, p * c)]⟩, mg_r3_10 (l2_3 := (u, p) :: m) (by simp) (by simp <;> omega) rfl (by omega) (by omega) (pt_new (by omega) h0 (by omega)) ⟨by omega, by simp <;> omega⟩, e⟩
      | (v, q) :: l, (u, p) :: m =>
        have hq : H q ≤ b := i4 (v, q) (by simp)
        have hp : H p ≤ b := i5 (u, p) (by simp)
        have hpc := H_mul p c
        have hqp := H_add q (p * c)
        have hk := mgK_ab (v, q) (u, p) l m
        dsimp only at hk
        by_cases c1 : v < u
        · rw [if_pos c1] at hk
          have e := fin l ((u, p) :: m) v q (mergeV_lt c1 l m c) hk (fun t ht => i4 t (by simp [ht])) i5 q rfl
          by_cases h0 : q = 0
          · rw [put_no h0, List.append_nil] at e
            exact ⟨⟨l, (u, p) :: m, out⟩, mg_r3_3 (l_3 := (v, q) :: l) (l2_3 := (u, p) :: m) (by simp <;> omega) (by simp <;> omega) rfl rfl c1 (pt_same (by omega) h0) ⟨by omega, by simp <;> omega⟩, e⟩
          · rw [put_yes h0] at e
            exact ⟨⟨l, (u, p) :: m, out ++ [(v, q)]⟩, mg_r3_4 (l_3 := (v, q) :: l) (l2_3 := (u, p) :: m) (by simp <;> omega) (by simp <;> omega) rfl rfl c1 (pt_new (by omega) h0 (by omega)) ⟨by omega, by simp <;> omega⟩, e⟩
        · rw [if_neg c1] at hk
          by_cases c2 : u < v
          · rw [if_pos c2] at hk
            have e := fin ((v, q) :: l) m u (p * c) (mergeV_gt c2 l m c) hk i4 (fun t ht => i5 t (by simp [ht])) (p * c) rfl
            by_cases h0 : p * c = 0
            · rw [put_no h0, List.append_nil] at e
              exact ⟨⟨(v, q) :: l, m, out⟩, mg_r3_5 (l_3 := (v, q) :: l) (l2_3 := (u, p) :: m) (by simp <;> omega) (by simp <;> omega) rfl rfl c1 c2 (by omega) (by omega) (pt_same (by omega) h0) ⟨by omega, by simp <;> omega⟩, e⟩
            · rw [put_yes h0] at e
              exact ⟨⟨(v, q) :: l, m, out ++ [(u, p * c)]⟩, mg_r3_6 (l_3 := (v, q) :: l) (l2_3 := (u, p) :: m) (by simp <;> omega) (by simp <;> omega) rfl rfl c1 c2 (by omega) (by omega) (pt_new (by omega) h0 (by omega)) ⟨by omega, by simp <;> omega⟩, e⟩
          · rw [if_neg c2] at hk
            have huv : v = u := by omega
            have e := fin l m v (q + p * c) (mergeV_eq huv l m c) hk (fun t ht => i4 t (by simp [ht])) (fun t ht => i5 t (by simp [ht])) (q + p * c) rfl
            by_cases h0 : q + p * c = 0
            · rw [put_no h0, List.append_nil] at e
              exact ⟨⟨l, m, out⟩, mg_r3_7 (l_3 := (v, q) :: l) (l2_3 := (u, p) :: m) (by simp <;> omega) (by simp <;> omega) rfl rfl c1 c2 (by omega) (by omega) (by omega) (by omega) (pt_same (by omega) h0) ⟨by omega, by simp <;> omega⟩ ⟨by omega, by simp <;> omega⟩, e⟩
            · rw [put_yes h0] at e
              exact ⟨⟨l, m, out ++ [(v, q + p * c)]⟩, mg_r3_8 (l_3 := (v, q) :: l) (l2_3 := (u, p) :: m) (by simp <;> omega) (by simp <;> omega) rfl rfl c1 c2 (by omega) (by omega) (by omega) (by omega) (pt_new (by omega) h0 (by omega)) ⟨by omega, by simp <;> omega⟩ ⟨by omega, by simp <;> omega⟩, e⟩)
    (fun s hI => by
      obtain ⟨l, m, out⟩ := s
      obtain ⟨_, i2, _⟩ := hI
      dsimp only at i2 ⊢
      have h0 : l = [] ∧ m = [] := by
        match l, m with
        | [], [] => exact ⟨rfl, rfl⟩
        | a :: l, [] => rw [mgK_a] at i2; omega
        | [], b :: m => rw [mgK_nil] at i2; simp at i2
        | a :: l, b :: m => rw [mgK_ab] at i2; omega
      obtain ⟨rfl, rfl⟩ := h0
      exact mg_x3_1 (by simp) (by simp))
  obtain ⟨l, m, out⟩ := b'
  obtain ⟨i1, i2, _⟩ := hI
  dsimp only at i1 i2 hL
  have h0 : l = [] ∧ m = [] := by
    match l, m with
    | [], [] => exact ⟨rfl, rfl⟩
    | a :: l, [] => rw [mgK_a] at i2; omega
    | [], b :: m => rw [mgK_nil] at i2; simp at i2
    | a :: l, b :: m => rw [mgK_ab] at i2; omega
  obtain ⟨rfl, rfl⟩ := h0
  rw [mergeV_nil, List.append_nil] at i1
  subst i1
  exact mg_f1 (by omega) (by omega) (by omega) (by omega) hL
theorem psub_c {n : Nat} {f g : Form} {b : Nat} (hF : ∀ t ∈ f.1, H t.2 ≤ b) (hG : ∀ t ∈ g.1, H t.2 ≤ b) (hb : b ≤ 1000000) (hk : H f.2 ≤ 1000000) (hk2 : H g.2 ≤ 1000000) (hlf : f.1.length ≤ 1000000) (hlg : g.1.length ≤ 1000000) :
    run (n + 2) 101 [formV f, formV g] = some (formV (mergeV f.1 g.1 (-1), f.2 - g.2)) := by
  have e : ofQ (-1) = -1 := by decide +kernel
  have h := lsu_f1 (n := n) (merge_c (n := n) (c := ofQ (-1)) hF hG hb (by rw [e]; decide) hk hk2 hlf hlg)
  have e2 : f.2 + g.2 * (-1) = f.2 - g.2 := by grind
  rw [e, e2] at h
  exact h
end Go.Proofs.YtjpoanaoaeaneaaGreatDoor
set_option linter.all false
namespace Go.Proofs.YtjpoanaoaeaneaaGreatDoor
open Go.RowKit
def Srt (F : List (Int × Rat)) : Prop := F.Pairwise (fun a b => a.1 < b.1) ∧ ∀ t ∈ F, t.2 ≠ 0
def LBd (k : Int) (F : List (Int × Rat)) : Prop := ∀ t ∈ F, k < t.1
def cof : List (Int × Rat) → Int → Rat
  | [], _ => 0
  | t :: l, u => if t.1 = u then t.2 else cof l u
theorem cof_nil (u : Int) : cof [] u = 0 := rfl
theorem cof_hd {t : Int × Rat} {F : List (Int × Rat)} {u : Int} (h : u = t.1) : cof (t :: F) u = t.2 := by unfold cof; rw [if_pos h.symm]
theorem cof_tl {t : Int × Rat} {F : List (Int × Rat)} {u : Int} (h : u ≠ t.1) : cof (t :: F) u = cof F u := by rw [cof, if_neg fun e => h e.symm]
theorem Srt.nil : Srt [] := ⟨List.Pairwise.nil, fun t ht => by cases ht⟩
theorem Srt.tail {t : Int × Rat} {F : List (Int × Rat)} (h : Srt (t :: F)) : Srt F := ⟨(List.pairwise_cons.1 h.1).2, fun u hu => h.2 u (by simp [hu])⟩
theorem Srt.head {t : Int × Rat} {F : List (Int × Rat)} (h : Srt (t :: F)) : LBd t.1 F := fun u hu => (List.pairwise_cons.1 h.1).1 u hu
theorem Srt.nz {t : Int × Rat} {F : List (Int × Rat)} (h : Srt (t :: F)) : t.2 ≠ 0 := h.2 t (by simp)
theorem cof_low : ∀ {F : List (Int × Rat)} {u : Int}, (∀ t ∈ F, t.1 ≠ u) → cof F u = 0
  | [], _, _ => rfl
  | t :: F, u, h => by rw [cof, if_neg (h t (by simp))]; exact cof_low fun x hx => h x (by simp [hx])
theorem LBd.cof {F : List (Int × Rat)} {k u : Int} (h : LBd k F) (hu : u ≤ k) : cof F u = 0 := cof_low fun t ht e => by have := h t ht; omega
theorem LBd.mono {F : List (Int × Rat)} {k j : Int} (h : LBd k F) (hj : j ≤ k) : LBd j F := fun t ht => by have := h t ht; omega
theorem put_srt {F : List (Int × Rat)} {v : Int} {q : Rat} (h : Srt F) (hl : LBd v F) : Srt (put1 v q ++ F) ∧ (∀ u, cof (put1 v q ++ F) u = if u = v then q else cof F u) ∧ ∀ k, k < v → LBd k (put1 v q ++ F) := by
  unfold put1
  split
  · rename_i h0
    rw [List.nil_append]
    refine ⟨h, fun u => ?_, fun k hk => hl.mono (by omega)⟩
    split
    · rename_i e; subst e; rw [hl.cof (Int.le_refl _), h0]
    · rfl
  · rename_i h0
    refine ⟨⟨List.pairwise_cons.2 ⟨fun x hx => hl x hx, h.1⟩, fun t ht => ?_⟩, fun u => ?_, fun k hk t ht => ?_⟩
    · rcases List.mem_cons.1 ht with rfl | ht
      · exact h0
      · exact h.2 t ht
    · show cof ((v, q) :: F) u = _
      rw [cof]
      by_cases e : v = u
      · rw [if_pos e, if_pos e.symm]
      · rw [if_neg e, if_neg fun e2 => e e2.symm]
    · rcases List.mem_cons.1 ht with rfl | ht
      · exact hk
      · have := hl t ht; omega
theorem srt_ext : ∀ {F G : List (Int × Rat)}, Srt F → Srt G → (∀ u, cof F u = cof G u) → F = G
  | [], [], _, _, _ => rfl
  | [], t :: G, _, hg, h => by
    have := h t.1
    rw [cof_nil, cof_hd rfl] at this
    exact absurd this.symm hg.nz
  | t :: F, [], hf, _, h => by
    have := h t.1
    rw [cof_nil, cof_hd rfl] at this
    exact absurd this hf.nz
  | (v, q) :: F, (u, p) :: G, hf, hg, h => by
    have e : v = u := by
      rcases Int.lt_trichotomy v u with h1 | h1 | h1
      · have h2 := h v
        rw [cof_hd rfl, cof_tl (by dsimp only; omega), hg.head.cof (by dsimp only; omega)] at h2
        exact absurd h2 hf.nz
      · exact h1
      · have h2 := h u
        rw [cof_tl (by dsimp only; omega), hf.head.cof (by dsimp only; omega), cof_hd rfl] at h2
        exact absurd h2.symm hg.nz
    subst e
    have e2 : q = p := by
      have h2 := h v
      rw [cof_hd rfl, cof_hd rfl] at h2
      exact h2
    subst e2
    rw [srt_ext hf.tail hg.tail fun u => ?_]
    by_cases e : u = v
    · subst e
      rw [hf.head.cof (Int.le_refl _), hg.head.cof (Int.le_refl _)]
    · have h2 := h u
      rw [cof_tl e, cof_tl e] at h2
      exact h2
theorem plus_done {F : List (Int × Rat)} {v : Int} {c : Rat} (h : LBd v F) (hz : ∀ t ∈ F, t.2 ≠ 0) : plusV true F v c = F := by
  induction F with
  | nil => rfl
  | cons t F ih =>
    have h1 := h t (by simp)
    rw [plusV_lt (by omega) (.inl rfl), ih (fun x hx => h x (by simp [hx])) fun x hx => hz x (by simp [hx])]
    unfold put1
    rw [if_neg (hz t (by simp))]
    rfl
theorem put_one {t : Int × Rat} {F : List (Int × Rat)} (h : t.2 ≠ 0) : put1 t.1 t.2 ++ F = t :: F := by unfold put1; rw [if_neg h]; rfl
theorem plus_srt {v : Int} {c : Rat} : ∀ {F : List (Int × Rat)}, Srt F → Srt (plusV false F v c) ∧ (∀ u, cof (plusV false F v c) u = cof F u + if u = v then c else 0) ∧ ∀ k, k < v → LBd k F → LBd k (plusV false F v c)
  | [], h => by
    have e : plusV false [] v c = put1 v c ++ [] := by rw [List.append_nil]; rfl
    rw [e]
    obtain ⟨h1, h2, h3⟩ := put_srt (v := v) (q := c) h (fun t ht => by cases ht)
    refine ⟨h1, fun u => ?_, fun k hk _ => h3 k hk⟩
    rw [h2, cof_nil]
    split <;> grind
  | t :: F, h => by
    have hd := h.head
    rcases Int.lt_trichotomy t.1 v with h1 | h1 | h1
    · obtain ⟨a1, a2, a3⟩ := plus_srt (v := v) (c := c) h.tail
      rw [plusV_lt (by omega) (.inr h1)]
      obtain ⟨b1, b2, b3⟩ := put_srt (v := t.1) (q := t.2) a1 (a3 _ h1 hd)
      refine ⟨b1, fun u => ?_, fun k hk hl => b3 k (hl t (by simp))⟩
      rw [b2, a2]
      by_cases e : u = t.1
      · rw [if_pos e, cof_hd e, if_neg (by omega)]; grind
      · rw [if_neg e, cof_tl e]
    · rw [plusV_eq h1, plus_done (by rw [← h1]; exact hd) h.tail.2]
      obtain ⟨b1, b2, b3⟩ := put_srt (v := t.1) (q := t.2 + c) h.tail hd
      refine ⟨b1, fun u => ?_, fun k hk hl => b3 k (hl t (by simp))⟩
      rw [b2]
      by_cases e : u = t.1
      · have e5 : u = v := by omega
        rw [if_pos e, if_pos e5, cof_hd e]
      · have e5 : ¬ u = v := by omega
        rw [if_neg e, if_neg e5, cof_tl e]; grind
    · rw [plusV_gt h1, plus_done (hd.mono (by omega)) h.tail.2, put_one h.nz]
      obtain ⟨b1, b2, b3⟩ := put_srt (v := v) (q := c) h (fun x hx => by
        rcases List.mem_cons.1 hx with rfl | hx
        · exact h1
        · have := hd x hx; omega)
      refine ⟨b1, fun u => ?_, fun k hk hl => b3 k hk⟩
      rw [b2]
      by_cases e : u = v
      · have e3 : cof (t :: F) u = 0 := cof_low fun x hx => by
          rcases List.mem_cons.1 hx with rfl | hx
          · omega
          · have := hd x hx; omega
        rw [if_pos e, if_pos e, e3]
        grind
      · rw [if_neg e, if_neg e]; grind
theorem add_srt : ∀ {G F : List (Int × Rat)}, Srt F → Srt G → Srt (addV F G) ∧ ∀ u, cof (addV F G) u = cof F u + cof G u
  | [], F, hf, _ => ⟨hf, fun u => by rw [cof_nil]; show cof F u = _; grind⟩
  | t :: G, F, hf, hg => by
    obtain ⟨a1, a2, _⟩ := plus_srt (v := t.1) (c := t.2) hf
    obtain ⟨b1, b2⟩ := add_srt a1 hg.tail
    refine ⟨b1, fun u => ?_⟩
    show cof (addV (plusV false F t.1 t.2) G) u = _
    rw [b2, a2]
    by_cases e : u = t.1
    · rw [if_pos e, cof_hd e, hg.head.cof (by omega)]; grind
    · rw [if_neg e, cof_tl e]; grind
theorem merge_srt {c : Rat} : ∀ (n : Nat) {F G : List (Int × Rat)}, F.length + G.length ≤ n → Srt F → Srt G → Srt (mergeV F G c) ∧ (∀ u, cof (mergeV F G c) u = cof F u + cof G u * c) ∧ ∀ k, LBd k F → LBd k G → LBd k (mergeV F G c)
  | n, [], [], _, hf, hg => by rw [mergeV_nil]; exact ⟨hf, fun u => by rw [cof_nil]; grind, fun k h _ => h⟩
  | 0, a :: F, G, hn, _, _ => by simp at hn
  | 0, [], b :: G, hn, _, _ => by simp at hn
  | n + 1, a :: F, [], hn, hf, hg => by
    obtain ⟨a1, a2, a3⟩ := merge_srt (c := c) n (F := F) (G := []) (by simp at hn ⊢; omega) hf.tail hg
    rw [mergeV_a]
    obtain ⟨b1, b2, b3⟩ := put_srt (v := a.1) (q := a.2) a1 (a3 _ hf.head fun t ht => by cases ht)
    refine ⟨b1, fun u => ?_, fun k h1 _ => b3 k (h1 a (by simp))⟩
    rw [b2, a2]
    by_cases e : u = a.1
    · rw [if_pos e, cof_hd e, cof_nil]; grind
    · rw [if_neg e, cof_tl e]
  | n + 1, [], b :: G, hn, hf, hg => by
    obtain ⟨a1, a2, a3⟩ := merge_srt (c := c) n (F := []) (G := G) (by simp at hn ⊢; omega) hf hg.tail
    rw [mergeV_b]
    obtain ⟨b1, b2, b3⟩ := put_srt (v := b.1) (q := b.2 * c) a1 (a3 _ (fun t ht => by cases ht) hg.head)
    refine ⟨b1, fun u => ?_, fun k _ h1 => b3 k (h1 b (by simp))⟩
    rw [b2, a2]
    by_cases e : u = b.1
    · rw [if_pos e, cof_hd e, cof_nil]; grind
    · rw [if_neg e, cof_tl e]
  | n + 1, a :: F, b :: G, hn, hf, hg => by
    simp only [List.length_cons] at hn
    rcases Int.lt_trichotomy a.1 b.1 with h1 | h1 | h1
    · obtain ⟨a1, a2, a3⟩ := merge_srt (c := c) n (F := F) (G := b :: G) (by simp; omega) hf.tail hg
      rw [mergeV_lt h1]
      obtain ⟨b1, b2, b3⟩ := put_srt (v := a.1) (q := a.2) a1 (a3 _ hf.head fun t ht => by
        rcases List.mem_cons.1 ht with rfl | ht
        · exact h1
        · have := hg.head t ht; omega)
      refine ⟨b1, fun u => ?_, fun k h2 _ => b3 k (h2 a (by simp))⟩
      rw [b2, a2]
      by_cases e : u = a.1
      · have e3 : cof (b :: G) u = 0 := cof_low fun x hx => by
          rcases List.mem_cons.1 hx with rfl | hx
          · omega
          · have := hg.head x hx; omega
        have e4 : cof (a :: F) u = a.2 := cof_hd e
        rw [if_pos e, e3, e4]; grind
      · have e4 : cof (a :: F) u = cof F u := cof_tl e
        rw [if_neg e, e4]
    · obtain ⟨a1, a2, a3⟩ := merge_srt (c := c) n (F := F) (G := G) (by omega) hf.tail hg.tail
      rw [mergeV_eq h1]
      obtain ⟨b1, b2, b3⟩ := put_srt (v := a.1) (q := a.2 + b.2 * c) a1 (a3 _ hf.head (by rw [h1]; exact hg.head))
      refine ⟨b1, fun u => ?_, fun k h2 _ => b3 k (h2 a (by simp))⟩
      rw [b2, a2]
      by_cases e : u = a.1
      · rw [if_pos e, cof_hd e, cof_hd (u := u) (by omega)]
      · have e3 : cof (b :: G) u = cof G u := cof_tl (by omega)
        have e4 : cof (a :: F) u = cof F u := cof_tl e
        rw [if_neg e, e3, e4]
    · obtain ⟨a1, a2, a3⟩ := merge_srt (c := c) n (F := a :: F) (G := G) (by simp; omega) hf hg.tail
      rw [mergeV_gt h1]
      obtain ⟨b1, b2, b3⟩ := put_srt (v := b.1) (q := b.2 * c) a1 (a3 _ (fun t ht => by
        rcases List.mem_cons.1 ht with rfl | ht
        · exact h1
        · have := hf.head t ht; omega) hg.head)
      refine ⟨b1, fun u => ?_, fun k _ h2 => b3 k (h2 b (by simp))⟩
      rw [b2, a2]
      by_cases e : u = b.1
      · have e3 : cof (a :: F) u = 0 := cof_low fun x hx => by
          rcases List.mem_cons.1 hx with rfl | hx
          · omega
          · have := hf.head x hx; omega
        have e4 : cof (b :: G) u = b.2 := cof_hd e
        rw [if_pos e, e3, e4]; grind
      · have e4 : cof (b :: G) u = cof G u := cof_tl e
        rw [if_neg e, e4]
theorem merge_scl (c : Rat) : ∀ (F : List (Int × Rat)), mergeV [] F c = sclV F c
  | [] => mergeV_nil c
  | t :: F => by rw [mergeV_b, merge_scl c F]; simp [sclV]
theorem scl_srt {F : List (Int × Rat)} {c : Rat} (h : Srt F) : Srt (sclV F c) ∧ ∀ u, cof (sclV F c) u = cof F u * c := by
  rw [← merge_scl]
  obtain ⟨a1, a2, _⟩ := merge_srt (c := c) _ (Nat.le_refl _) Srt.nil h
  exact ⟨a1, fun u => by rw [a2, cof_nil]; grind⟩
theorem merge_add {F G : List (Int × Rat)} {c : Rat} (hf : Srt F) (hg : Srt G) : mergeV F G c = addV F (sclV G c) := by
  obtain ⟨a1, a2, _⟩ := merge_srt (c := c) _ (Nat.le_refl _) hf hg
  obtain ⟨b1, b2⟩ := scl_srt (c := c) hg
  obtain ⟨d1, d2⟩ := add_srt hf b1
  exact srt_ext a1 d1 fun u => by rw [a2, d2, b2]
theorem OkFm.srt {f : Form} {vars : Int} (h : OkFm f vars) : Srt f.1 ∧ ∀ t ∈ f.1, 0 ≤ t.1 ∧ t.1 < vars := by
  have key : ∀ (i : Nat) (hi : i < f.1.length), 0 ≤ (f.1[i]).1 ∧ (f.1[i]).1 < vars ∧ (f.1[i]).2 ≠ 0 ∧ ∀ (h0 : 0 < i), (f.1[i - 1]'(by omega)).1 < (f.1[i]).1 := fun i hi => by
    obtain ⟨a1, a2, a3, a4⟩ := h i hi (f.1[i]).1 (f.1[i]).2 (List.getElem?_eq_getElem hi)
    exact ⟨a1, a2, a3, fun h0 => a4 _ (f.1[i - 1]'(by omega)).2 h0 (List.getElem?_eq_getElem _)⟩
  have ord : ∀ (j i : Nat) (hj : j < f.1.length) (hij : i < j), (f.1[i]'(by omega)).1 < (f.1[j]).1 := fun j => by
    induction j with
    | zero => intro i hj hij; omega
    | succ j ih =>
      intro i hj hij
      have h1 := (key (j + 1) hj).2.2.2 (by omega)
      have h2 : (f.1[j + 1 - 1]'(by omega)) = f.1[j]'(by omega) := rfl
      rw [h2] at h1
      by_cases e : i = j
      · subst e; exact h1
      · have := ih i (by omega) (by omega); omega
  refine ⟨⟨List.pairwise_iff_getElem.2 fun i j hi hj hij => ord j i hj hij, fun t ht => ?_⟩, fun t ht => ?_⟩
  · obtain ⟨i, hi, rfl⟩ := List.getElem_of_mem ht
    exact (key i hi).2.2.1
  · obtain ⟨i, hi, rfl⟩ := List.getElem_of_mem ht
    exact ⟨(key i hi).1, (key i hi).2.1⟩
end Go.Proofs.YtjpoanaoaeaneaaGreatDoor
set_option linter.all false
namespace Go.Proofs.YtjpoanaoaeaneaaGreatDoor
open Go.RowKit
def evS (X : List Rat) : List (Int × Rat) → Rat
  | [] => 0
  | t :: F => t.2 * X.getD t.1.toNat 0 + evS X F
theorem evS_fold (X : List Rat) : ∀ (F : List (Int × Rat)) (s : Rat), F.foldl (fun s t => s + t.2 * X.getD t.1.toNat 0) s = s + evS X F
  | [], s => by rw [List.foldl_nil, evS]; grind
  | t :: F, s => by rw [List.foldl_cons, evS_fold X F, evS]; grind
theorem evS_app (X : List Rat) : ∀ (F G : List (Int × Rat)), evS X (F ++ G) = evS X F + evS X G
  | [], G => by rw [List.nil_append, evS]; grind
  | t :: F, G => by rw [List.cons_append, evS, evS_app X F G, evS]; grind
theorem evS_put (X : List Rat) (v : Int) (q : Rat) : evS X (put1 v q) = q * X.getD v.toNat 0 := by
  unfold put1
  split
  · rename_i h; rw [h, evS]; grind
  · rw [evS, evS]; grind
theorem evS_plus {X : List Rat} {v : Int} {c : Rat} : ∀ {F : List (Int × Rat)}, Srt F → evS X (plusV false F v c) = evS X F + c * X.getD v.toNat 0
  | [], _ => by
    have e : plusV false [] v c = put1 v c := rfl
    rw [e, evS_put, evS]; grind
  | t :: F, h => by
    have hd := h.head
    rcases Int.lt_trichotomy t.1 v with h1 | h1 | h1
    · rw [plusV_lt (by omega) (.inr h1), evS_app, evS_put, evS_plus h.tail, evS]; grind
    · rw [plusV_eq h1, plus_done (by rw [← h1]; exact hd) h.tail.2, evS_app, evS_put, evS, h1]; grind
    · rw [plusV_gt h1, plus_done (hd.mono (by omega)) h.tail.2, evS_app, evS_app, evS_put, evS_put, evS]; grind
theorem evS_add {X : List Rat} : ∀ {G F : List (Int × Rat)}, Srt F → Srt G → evS X (addV F G) = evS X F + evS X G
  | [], F, _, _ => by
    have e : addV F [] = F := rfl
    rw [e, evS]; grind
  | t :: G, F, hf, hg => by
    have e : addV F (t :: G) = addV (plusV false F t.1 t.2) G := rfl
    rw [e, evS_add (plus_srt hf).1 hg.tail, evS_plus hf, evS]; grind
theorem evS_scl (X : List Rat) (c : Rat) : ∀ (F : List (Int × Rat)), evS X (sclV F c) = evS X F * c
  | [] => by
    have e : sclV [] c = [] := rfl
    rw [e, evS]; grind
  | t :: F => by
    have e : sclV (t :: F) c = put1 t.1 (t.2 * c) ++ sclV F c := rfl
    rw [e, evS_app, evS_put, evS_scl X c F, evS]; grind
def InR (k : Nat) (F : List (Int × Rat)) : Prop := ∀ t ∈ F, 0 ≤ t.1 ∧ t.1 < (k : Int)
theorem InR.app {k : Nat} {F G : List (Int × Rat)} (h : InR k F) (g : InR k G) : InR k (F ++ G) := fun t ht => (List.mem_append.1 ht).elim (h t) (g t)
theorem InR.put {k : Nat} {v : Int} {q : Rat} (h : 0 ≤ v ∧ v < (k : Int)) : InR k (put1 v q) := fun t ht => by
  obtain ⟨rfl, _⟩ := put1_mem ht
  exact h
theorem InR.plus {k : Nat} {v : Int} {c : Rat} (hv : 0 ≤ v ∧ v < (k : Int)) : ∀ {d : Bool} {F : List (Int × Rat)}, InR k F → InR k (plusV d F v c)
  | d, [], _ => by
    rw [plusV]
    split
    · exact fun t ht => by cases ht
    · exact InR.put hv
  | d, t :: F, h => by
    have ht : 0 ≤ t.1 ∧ t.1 < (k : Int) := h t (by simp)
    have hF : InR k F := fun u hu => h u (by simp [hu])
    rw [plusV]
    split
    · exact (InR.put ht).app (InR.plus hv hF)
    · split
      · exact (InR.put hv).app ((InR.put ht).app (InR.plus hv hF))
      · exact (InR.put ht).app (InR.plus hv hF)
theorem InR.add {k : Nat} : ∀ {G F : List (Int × Rat)}, InR k F → InR k G → InR k (addV F G)
  | [], F, h, _ => h
  | t :: G, F, h, g => by
    have e : addV F (t :: G) = addV (plusV false F t.1 t.2) G := rfl
    rw [e]
    exact InR.add (InR.plus (g t (by simp)) h) fun u hu => g u (by simp [hu])
theorem InR.scl {k : Nat} {c : Rat} {F : List (Int × Rat)} (h : InR k F) : InR k (sclV F c) := fun t ht => by
  simp only [sclV, List.mem_flatMap] at ht
  obtain ⟨u, hu, h1⟩ := ht
  obtain ⟨rfl, _⟩ := put1_mem h1
  exact h u hu
theorem evF_in {X : List Rat} : ∀ {F : List (Int × Rat)} {i : Nat} {s r : Rat}, foldE (evF X) i s F = .ok r → InR X.length F
  | [], _, _, _, _ => fun t ht => by cases ht
  | t :: F, i, s, r, h => by
    rw [foldE] at h
    unfold evF at h
    by_cases h1 : t.1 < 0 ∨ (X.length : Int) ≤ t.1
    · rw [if_pos h1] at h; cases h
    · rw [if_neg h1] at h
      have := evF_in h
      intro u hu
      rcases List.mem_cons.1 hu with rfl | hu
      · omega
      · exact this u hu
theorem evR_in {X : List Rat} {f : Form} (h : InR X.length f.1) : evR X f = .tup [ratV (f.2 + evS X f.1), .lit (.int .i64 0)] ∧ foldE (evF X) 0 f.2 f.1 = .ok (f.2 + evS X f.1) := by
  have e := evF_ok (X := X) (F := f.1) 0 f.2 h
  rw [evS_fold] at e
  refine ⟨?_, e⟩
  unfold evR
  rw [e]
theorem evR_out {X : List Rat} {f : Form} (h : ¬ InR X.length f.1) : evR X f = .tup [ratV 0, .lit (.int .i64 2)] := by
  unfold evR
  cases hE : foldE (evF X) 0 f.2 f.1 with
  | ok s => exact absurd (evF_in hE) h
  | error s => simp
theorem TmB.add {b : Nat} : ∀ {G F : List (Int × Rat)} {m : Nat}, TmB m F → TmB b G → TmB (m + (b + 1) * G.length) (addV F G)
  | [], F, m, h, _ => h
  | t :: G, F, m, h, g => by
    have e : addV F (t :: G) = addV (plusV false F t.1 t.2) G := rfl
    rw [e]
    refine (TmB.add (TmB.plus (g t (by simp)).2 h) fun u hu => g u (by simp [hu])).mono ?_
    rw [List.length_cons, Nat.mul_add]
    omega
theorem addV_len : ∀ (G F : List (Int × Rat)), (addV F G).length ≤ F.length + G.length
  | [], F => by have e : addV F [] = F := rfl; rw [e]; simp
  | t :: G, F => by
    have e : addV F (t :: G) = addV (plusV false F t.1 t.2) G := rfl
    have h1 := addV_len G (plusV false F t.1 t.2)
    have h2 := plusV_len false F t.1 t.2
    rw [e, List.length_cons]
    omega
theorem TmB.scl {m b : Nat} {c : Rat} {F : List (Int × Rat)} (h : TmB m F) (hc : H c ≤ b) : TmB (m + b) (sclV F c) := fun t ht => by
  simp only [sclV, List.mem_flatMap] at ht
  obtain ⟨u, hu, h1⟩ := ht
  obtain ⟨rfl, h2⟩ := put1_mem h1
  have h3 := H_mul u.2 c
  have h4 := (h u hu).2
  exact ⟨h2, by dsimp only; omega⟩
theorem TmB.bd {m : Nat} {f : Form} (h : TmB m f.1) (hl : f.1.length ≤ 100000000) (hk : H f.2 ≤ m) : BdF m f := ⟨hl, fun t ht => (h t ht).2, hk⟩
end Go.Proofs.YtjpoanaoaeaneaaGreatDoor
