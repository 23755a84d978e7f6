/- Walks: relucertref07.plus. -/
import Derived.Test.YthkkmokbjmempaaGreatDoorUe
set_option linter.all false
set_option linter.all false
set_option maxRecDepth 100000
set_option maxHeartbeats 6400000
namespace Go.Proofs.YthkkmokbjmempaaGreatDoor
open Go.RowKit

/-! relucertref07.plus, level 1 -/
noncomputable def pl_C4 : Code := (loopsOf (bodyOf Tryz.f78)).getD 0 .skip
def pl_h4 (a0 : Form) (a1 : Int) (a2 : Rat) (out_4 : List (Int × Rat)) (d_4 : Bool) (i_4 : Nat) : St :=
  ⟨[(1, .lit (.int .i64 a1)), (3, .ptr 0 0), (5, .ptr 1 0), (6, .ptr 2 0), (7, .own 3 out_4.length), (8, .lit (.bool d_4)), (9, .lit (.int .i64 (i_4 : Int)))],
   [(0, some (.box 29 [.sl 4 (a0.1.map termC), .lit (.bool (rawQ a0.2).s), natA (rawQ a0.2).l1, natA (rawQ a0.2).l2] false)),
    (1, some (.box 27 [.lit (.bool (rawQ a2).s), natA (rawQ a2).l1, natA (rawQ a2).l2] false)),
    (2, some (.box 29 [.nl 4, .lit (.bool false), .nl 1, .nl 1] false)),
    (3, some (.row 76 4 (out_4.map termC) 0))], 4⟩
def pl_o4a (a0 : Form) (a1 : Int) (a2 : Rat) (out_4 : List (Int × Rat)) (d_4 : Bool) : St :=
  ⟨[(1, .lit (.int .i64 a1)), (3, .ptr 0 0), (5, .ptr 1 0), (6, .ptr 2 0), (7, .own 3 out_4.length), (8, .lit (.bool d_4))],
   [(0, some (.box 29 [.sl 4 (a0.1.map termC), .lit (.bool (rawQ a0.2).s), natA (rawQ a0.2).l1, natA (rawQ a0.2).l2] false)),
    (1, some (.box 27 [.lit (.bool (rawQ a2).s), natA (rawQ a2).l1, natA (rawQ a2).l2] false)),
    (2, some (.box 29 [.nl 4, .lit (.bool false), .nl 1, .nl 1] false)),
    (3, some (.row 76 4 (out_4.map termC) 0))], 4⟩
theorem pl_r4_1 {n : Nat} {a0 : Form} {a1 : Int} {a2 : Rat} {i_4 : Nat} {v3 : Int} {q3 : Rat} {out_4 : List (Int × Rat)} {d_4 : Bool} (C1 : (i_4 : Int) < (a0.1.length : Int)) (E2 : a0.1[i_4]? = some (v3, q3)) (C3 : v3 = a1) (B4a : H q3 ≤ 17179869184) (B4b : H a2 ≤ 17179869184) (K5 : runL n 90 [.own 0 out_4.length, .agg [.lit (.int .i64 v3), .lit (.bool (rawQ (q3 + a2)).s), natA (rawQ (q3 + a2)).l1, natA (rawQ (q3 + a2)).l2]] [.row 76 4 (out_4.map termC) 0] = some (.own 0 out_4.length, [(0, .row 76 4 (out_4.map termC) 0)])) (W6 : InI ((i_4 : Int) + 1)) :
    Cont 0 (exec Tryz.prog (tab (n + 1)) 0 61 (livesOf 78) big pl_C4) (livesOf 78 4) (pl_h4 a0 a1 a2 out_4 d_4 i_4) (pl_h4 a0 a1 a2 out_4 true (i_4 + 1)) := by
  have C1_ : i_4 < a0.1.length := by omega
  obtain ⟨EL2, EG2⟩ := List.getElem?_eq_some_iff.1 E2
  have C3_ : (v3 == a1) = true := by rw [C3]; simp
  have C3_n : (v3 != a1) = false := by rw [C3]; simp
  have K4 := r_add (p := q3) (q := a2) B4a B4b
  have W6_ : IntKind.i64.wrap ((i_4 : Int) + 1) = (i_4 : Int) + 1 := wr64 W6.1 W6.2
  unfold Cont
  simp +decide [pl_h4, loopsOf, Tryz.f78, pl_C4, C1, C1_, EL2, EG2, E2, C3_, C3_n, K4, K5, W6_]
theorem pl_r4_2 {n : Nat} {a0 : Form} {a1 : Int} {a2 : Rat} {i_4 : Nat} {v3 : Int} {q3 : Rat} {out_4 : List (Int × Rat)} {R12 : List (Int × Rat)} {d_4 : Bool} (C1 : (i_4 : Int) < (a0.1.length : Int)) (E2 : a0.1[i_4]? = some (v3, q3)) (C3 : v3 = a1) (B4a : H q3 ≤ 17179869184) (B4b : H a2 ≤ 17179869184) (K5 : runL n 90 [.own 0 out_4.length, .agg [.lit (.int .i64 v3), .lit (.bool (rawQ (q3 + a2)).s), natA (rawQ (q3 + a2)).l1, natA (rawQ (q3 + a2)).l2]] [.row 76 4 (out_4.map termC) 0] = some (.own 3 R12.length, [(3, .row 76 4 (R12.map termC) 0)])) (W6 : InI ((i_4 : Int) + 1)) :
    Cont 0 (exec Tryz.prog (tab (n + 1)) 0 61 (livesOf 78) big pl_C4) (livesOf 78 4) (pl_h4 a0 a1 a2 out_4 d_4 i_4) (pl_h4 a0 a1 a2 R12 true (i_4 + 1)) := by
  have C1_ : i_4 < a0.1.length := by omega
  obtain ⟨EL2, EG2⟩ := List.getElem?_eq_some_iff.1 E2
  have C3_ : (v3 == a1) = true := by rw [C3]; simp
  have C3_n : (v3 != a1) = false := by rw [C3]; simp
  have K4 := r_add (p := q3) (q := a2) B4a B4b
  have W6_ : IntKind.i64.wrap ((i_4 : Int) + 1) = (i_4 : Int) + 1 := wr64 W6.1 W6.2
  unfold Cont
  simp +decide [pl_h4, loopsOf, Tryz.f78, pl_C4, C1, C1_, EL2, EG2, E2, C3_, C3_n, K4, K5, W6_]
theorem pl_r4_3 {n : Nat} {a0 : Form} {a1 : Int} {a2 : Rat} {i_4 : Nat} {v3 : Int} {q3 : Rat} {d_4 : Bool} {out_4 : List (Int × Rat)} (C1 : (i_4 : Int) < (a0.1.length : Int)) (E2 : a0.1[i_4]? = some (v3, q3)) (C3 : ¬ v3 = a1) (C4 : d_4 = false) (C5 : a1 < v3) (B6a : H a2 ≤ 17179869184) (K7 : runL n 90 [.own 0 out_4.length, .agg [.lit (.int .i64 a1), .lit (.bool (rawQ a2).s), natA (rawQ a2).l1, natA (rawQ a2).l2]] [.row 76 4 (out_4.map termC) 0] = some (.own 0 out_4.length, [(0, .row 76 4 (out_4.map termC) 0)])) (K8 : runL n 90 [.own 0 out_4.length, .agg [.lit (.int .i64 v3), .lit (.bool (rawQ q3).s), natA (rawQ q3).l1, natA (rawQ q3).l2]] [.row 76 4 (out_4.map termC) 0] = some (.own 0 out_4.length, [(0, .row 76 4 (out_4.map termC) 0)])) (W9 : InI ((i_4 : Int) + 1)) :
    Cont 0 (exec Tryz.prog (tab (n + 1)) 0 61 (livesOf 78) big pl_C4) (livesOf 78 4) (pl_h4 a0 a1 a2 out_4 d_4 i_4) (pl_h4 a0 a1 a2 out_4 true (i_4 + 1)) := by
  have C1_ : i_4 < a0.1.length := by omega
  obtain ⟨EL2, EG2⟩ := List.getElem?_eq_some_iff.1 E2
  have C3_ : (v3 == a1) = false := by simpa using C3
  have C3_n : (v3 != a1) = true := by simpa using C3
  have K6 := r_canon (p := a2) B6a
  have W9_ : IntKind.i64.wrap ((i_4 : Int) + 1) = (i_4 : Int) + 1 := wr64 W9.1 W9.2
  unfold Cont
  simp +decide [pl_h4, loopsOf, Tryz.f78, pl_C4, C1, C1_, EL2, EG2, E2, C3_, C3_n, C4, C5, K6, K7, K8, W9_]
theorem pl_r4_4 {n : Nat} {a0 : Form} {a1 : Int} {a2 : Rat} {i_4 : Nat} {v3 : Int} {q3 : Rat} {d_4 : Bool} {out_4 : List (Int × Rat)} {R14 : List (Int × Rat)} (C1 : (i_4 : Int) < (a0.1.length : Int)) (E2 : a0.1[i_4]? = some (v3, q3)) (C3 : ¬ v3 = a1) (C4 : d_4 = false) (C5 : a1 < v3) (B6a : H a2 ≤ 17179869184) (K7 : runL n 90 [.own 0 out_4.length, .agg [.lit (.int .i64 a1), .lit (.bool (rawQ a2).s), natA (rawQ a2).l1, natA (rawQ a2).l2]] [.row 76 4 (out_4.map termC) 0] = some (.own 0 out_4.length, [(0, .row 76 4 (out_4.map termC) 0)])) (K8 : runL n 90 [.own 0 out_4.length, .agg [.lit (.int .i64 v3), .lit (.bool (rawQ q3).s), natA (rawQ q3).l1, natA (rawQ q3).l2]] [.row 76 4 (out_4.map termC) 0] = some (.own 3 R14.length, [(3, .row 76 4 (R14.map termC) 0)])) (W9 : InI ((i_4 : Int) + 1)) :
    Cont 0 (exec Tryz.prog (tab (n + 1)) 0 61 (livesOf 78) big pl_C4) (livesOf 78 4) (pl_h4 a0 a1 a2 out_4 d_4 i_4) (pl_h4 a0 a1 a2 R14 true (i_4 + 1)) := by
  have C1_ : i_4 < a0.1.length := by omega
  obtain ⟨EL2, EG2⟩ := List.getElem?_eq_some_iff.1 E2
  have C3_ : (v3 == a1) = false := by simpa using C3
  have C3_n : (v3 != a1) = true := by simpa using C3
  have K6 := r_canon (p := a2) B6a
  have W9_ : IntKind.i64.wrap ((i_4 : Int) + 1) = (i_4 : Int) + 1 := wr64 W9.1 W9.2
  unfold Cont
  simp +decide [pl_h4, loopsOf, Tryz.f78, pl_C4, C1, C1_, EL2, EG2, E2, C3_, C3_n, C4, C5, K6, K7, K8, W9_]
theorem pl_r4_5 {n : Nat} {a0 : Form} {a1 : Int} {a2 : Rat} {i_4 : Nat} {v3 : Int} {q3 : Rat} {d_4 : Bool} {out_4 : List (Int × Rat)} {R13 : List (Int × Rat)} (C1 : (i_4 : Int) < (a0.1.length : Int)) (E2 : a0.1[i_4]? = some (v3, q3)) (C3 : ¬ v3 = a1) (C4 : d_4 = false) (C5 : a1 < v3) (B6a : H a2 ≤ 17179869184) (K7 : runL n 90 [.own 0 out_4.length, .agg [.lit (.int .i64 a1), .lit (.bool (rawQ a2).s), natA (rawQ a2).l1, natA (rawQ a2).l2]] [.row 76 4 (out_4.map termC) 0] = some (.own 3 R13.length, [(3, .row 76 4 (R13.map termC) 0)])) (K8 : runL n 90 [.own 0 R13.length, .agg [.lit (.int .i64 v3), .lit (.bool (rawQ q3).s), natA (rawQ q3).l1, natA (rawQ q3).l2]] [.row 76 4 (R13.map termC) 0] = some (.own 0 R13.length, [(0, .row 76 4 (R13.map termC) 0)])) (W9 : InI ((i_4 : Int) + 1)) :
    Cont 0 (exec Tryz.prog (tab (n + 1)) 0 61 (livesOf 78) big pl_C4) (livesOf 78 4) (pl_h4 a0 a1 a2 out_4 d_4 i_4) (pl_h4 a0 a1 a2 R13 true (i_4 + 1)) := by
  have C1_ : i_4 < a0.1.length := by omega
  obtain ⟨EL2, EG2⟩ := List.getElem?_eq_some_iff.1 E2
  have C3_ : (v3 == a1) = false := by simpa using C3
  have C3_n : (v3 != a1) = true := by simpa using C3
  have K6 := r_canon (p := a2) B6a
  have W9_ : IntKind.i64.wrap ((i_4 : Int) + 1) = (i_4 : Int) + 1 := wr64 W9.1 W9.2
  unfold Cont
  simp +decide [pl_h4, loopsOf, Tryz.f78, pl_C4, C1, C1_, EL2, EG2, E2, C3_, C3_n, C4, C5, K6, K7, K8, W9_]
theorem pl_r4_6 {n : Nat} {a0 : Form} {a1 : Int} {a2 : Rat} {i_4 : Nat} {v3 : Int} {q3 : Rat} {d_4 : Bool} {out_4 : List (Int × Rat)} {R13 : List (Int × Rat)} {R15 : List (Int × Rat)} (C1 : (i_4 : Int) < (a0.1.length : Int)) (E2 : a0.1[i_4]? = some (v3, q3)) (C3 : ¬ v3 = a1) (C4 : d_4 = false) (C5 : a1 < v3) (B6a : H a2 ≤ 17179869184) (K7 : runL n 90 [.own 0 out_4.length, .agg [.lit (.int .i64 a1), .lit (.bool (rawQ a2).s), natA (rawQ a2).l1, natA (rawQ a2).l2]] [.row 76 4 (out_4.map termC) 0] = some (.own 3 R13.length, [(3, .row 76 4 (R13.map termC) 0)])) (K8 : runL n 90 [.own 0 R13.length, .agg [.lit (.int .i64 v3), .lit (.bool (rawQ q3).s), natA (rawQ q3).l1, natA (rawQ q3).l2]] [.row 76 4 (R13.map termC) 0] = some (.own 3 R15.length, [(3, .row 76 4 (R15.map termC) 0)])) (W9 : InI ((i_4 : Int) + 1)) :
    Cont 0 (exec Tryz.prog (tab (n + 1)) 0 61 (livesOf 78) big pl_C4) (livesOf 78 4) (pl_h4 a0 a1 a2 out_4 d_4 i_4) (pl_h4 a0 a1 a2 R15 true (i_4 + 1)) := by
  have C1_ : i_4 < a0.1.length := by omega
  obtain ⟨EL2, EG2⟩ := List.getElem?_eq_some_iff.1 E2
  have C3_ : (v3 == a1) = false := by simpa using C3
  have C3_n : (v3 != a1) = true := by simpa using C3
  have K6 := r_canon (p := a2) B6a
  have W9_ : IntKind.i64.wrap ((i_4 : Int) + 1) = (i_4 : Int) + 1 := wr64 W9.1 W9.2
  unfold Cont
  simp +decide [pl_h4, loopsOf, Tryz.f78, pl_C4, C1, C1_, EL2, EG2, E2, C3_, C3_n, C4, C5, K6, K7, K8, W9_]
theorem pl_r4_7 {n : Nat} {a0 : Form} {a1 : Int} {a2 : Rat} {i_4 : Nat} {v3 : Int} {q3 : Rat} {d_4 : Bool} {out_4 : List (Int × Rat)} (C1 : (i_4 : Int) < (a0.1.length : Int)) (E2 : a0.1[i_4]? = some (v3, q3)) (C3 : ¬ v3 = a1) (C4 : d_4 = false) (C5 : ¬ a1 < v3) (K6 : runL n 90 [.own 0 out_4.length, .agg [.lit (.int .i64 v3), .lit (.bool (rawQ q3).s), natA (rawQ q3).l1, natA (rawQ q3).l2]] [.row 76 4 (out_4.map termC) 0] = some (.own 0 out_4.length, [(0, .row 76 4 (out_4.map termC) 0)])) (W7 : InI ((i_4 : Int) + 1)) :
    Cont 0 (exec Tryz.prog (tab (n + 1)) 0 61 (livesOf 78) big pl_C4) (livesOf 78 4) (pl_h4 a0 a1 a2 out_4 d_4 i_4) (pl_h4 a0 a1 a2 out_4 d_4 (i_4 + 1)) := by
  have C1_ : i_4 < a0.1.length := by omega
  obtain ⟨EL2, EG2⟩ := List.getElem?_eq_some_iff.1 E2
  have C3_ : (v3 == a1) = false := by simpa using C3
  have C3_n : (v3 != a1) = true := by simpa using C3
  have W7_ : IntKind.i64.wrap ((i_4 : Int) + 1) = (i_4 : Int) + 1 := wr64 W7.1 W7.2
  unfold Cont
  simp +decide [pl_h4, loopsOf, Tryz.f78, pl_C4, C1, C1_, EL2, EG2, E2, C3_, C3_n, C4, C5, K6, W7_]
theorem pl_r4_8 {n : Nat} {a0 : Form} {a1 : Int} {a2 : Rat} {i_4 : Nat} {v3 : Int} {q3 : Rat} {d_4 : Bool} {out_4 : List (Int × Rat)} {R16 : List (Int × Rat)} (C1 : (i_4 : Int) < (a0.1.length : Int)) (E2 : a0.1[i_4]? = some (v3, q3)) (C3 : ¬ v3 = a1) (C4 : d_4 = false) (C5 : ¬ a1 < v3) (K6 : runL n 90 [.own 0 out_4.length, .agg [.lit (.int .i64 v3), .lit (.bool (rawQ q3).s), natA (rawQ q3).l1, natA (rawQ q3).l2]] [.row 76 4 (out_4.map termC) 0] = some (.own 3 R16.length, [(3, .row 76 4 (R16.map termC) 0)])) (W7 : InI ((i_4 : Int) + 1)) :
    Cont 0 (exec Tryz.prog (tab (n + 1)) 0 61 (livesOf 78) big pl_C4) (livesOf 78 4) (pl_h4 a0 a1 a2 out_4 d_4 i_4) (pl_h4 a0 a1 a2 R16 d_4 (i_4 + 1)) := by
  have C1_ : i_4 < a0.1.length := by omega
  obtain ⟨EL2, EG2⟩ := List.getElem?_eq_some_iff.1 E2
  have C3_ : (v3 == a1) = false := by simpa using C3
  have C3_n : (v3 != a1) = true := by simpa using C3
  have W7_ : IntKind.i64.wrap ((i_4 : Int) + 1) = (i_4 : Int) + 1 := wr64 W7.1 W7.2
  unfold Cont
  simp +decide [pl_h4, loopsOf, Tryz.f78, pl_C4, C1, C1_, EL2, EG2, E2, C3_, C3_n, C4, C5, K6, W7_]
theorem pl_r4_9 {n : Nat} {a0 : Form} {a1 : Int} {a2 : Rat} {i_4 : Nat} {v3 : Int} {q3 : Rat} {d_4 : Bool} {out_4 : List (Int × Rat)} (C1 : (i_4 : Int) < (a0.1.length : Int)) (E2 : a0.1[i_4]? = some (v3, q3)) (C3 : ¬ v3 = a1) (C4 : d_4 = true) (K5 : runL n 90 [.own 0 out_4.length, .agg [.lit (.int .i64 v3), .lit (.bool (rawQ q3).s), natA (rawQ q3).l1, natA (rawQ q3).l2]] [.row 76 4 (out_4.map termC) 0] = some (.own 0 out_4.length, [(0, .row 76 4 (out_4.map termC) 0)])) (W6 : InI ((i_4 : Int) + 1)) :
    Cont 0 (exec Tryz.prog (tab (n + 1)) 0 61 (livesOf 78) big pl_C4) (livesOf 78 4) (pl_h4 a0 a1 a2 out_4 d_4 i_4) (pl_h4 a0 a1 a2 out_4 d_4 (i_4 + 1)) := by
  have C1_ : i_4 < a0.1.length := by omega
  obtain ⟨EL2, EG2⟩ := List.getElem?_eq_some_iff.1 E2
  have C3_ : (v3 == a1) = false := by simpa using C3
  have C3_n : (v3 != a1) = true := by simpa using C3
  have W6_ : IntKind.i64.wrap ((i_4 : Int) + 1) = (i_4 : Int) + 1 := wr64 W6.1 W6.2
  unfold Cont
  simp +decide [pl_h4, loopsOf, Tryz.f78, pl_C4, C1, C1_, EL2, EG2, E2, C3_, C3_n, C4, K5, W6_]
theorem pl_r4_10 {n : Nat} {a0 : Form} {a1 : Int} {a2 : Rat} {i_4 : Nat} {v3 : Int} {q3 : Rat} {d_4 : Bool} {out_4 : List (Int × Rat)} {R17 : List (Int × Rat)} (C1 : (i_4 : Int) < (a0.1.length : Int)) (E2 : a0.1[i_4]? = some (v3, q3)) (C3 : ¬ v3 = a1) (C4 : d_4 = true) (K5 : runL n 90 [.own 0 out_4.length, .agg [.lit (.int .i64 v3), .lit (.bool (rawQ q3).s), natA (rawQ q3).l1, natA (rawQ q3).l2]] [.row 76 4 (out_4.map termC) 0] = some (.own 3 R17.length, [(3, .row 76 4 (R17.map termC) 0)])) (W6 : InI ((i_4 : Int) + 1)) :
    Cont 0 (exec Tryz.prog (tab (n + 1)) 0 61 (livesOf 78) big pl_C4) (livesOf 78 4) (pl_h4 a0 a1 a2 out_4 d_4 i_4) (pl_h4 a0 a1 a2 R17 d_4 (i_4 + 1)) := by
  have C1_ : i_4 < a0.1.length := by omega
  obtain ⟨EL2, EG2⟩ := List.getElem?_eq_some_iff.1 E2
  have C3_ : (v3 == a1) = false := by simpa using C3
  have C3_n : (v3 != a1) = true := by simpa using C3
  have W6_ : IntKind.i64.wrap ((i_4 : Int) + 1) = (i_4 : Int) + 1 := wr64 W6.1 W6.2
  unfold Cont
  simp +decide [pl_h4, loopsOf, Tryz.f78, pl_C4, C1, C1_, EL2, EG2, E2, C3_, C3_n, C4, K5, W6_]
theorem pl_x4_1 {n : Nat} {a0 : Form} {a1 : Int} {a2 : Rat} {i_4 : Nat} {out_4 : List (Int × Rat)} {d_4 : Bool} (C1 : ¬ (i_4 : Int) < (a0.1.length : Int)) :
    Leave 0 (exec Tryz.prog (tab (n + 1)) 0 61 (livesOf 78) big pl_C4) (livesOf 78 (outOf 4)) (pl_h4 a0 a1 a2 out_4 d_4 i_4) (.exit 0) (pl_o4a a0 a1 a2 out_4 d_4) := by
  have C1_ : ¬ i_4 < a0.1.length := by omega
  unfold Leave
  simp +decide [pl_h4, loopsOf, Tryz.f78, pl_o4a, pl_C4, C1, C1_]
theorem pl_f1 {n : Nat} {a0 : Form} {a1 : Int} {a2 : Rat} {out_4 : List (Int × Rat)} {d_4 : Bool} (L1 : loopG Tryz.prog (tab (n + 1)) 0 61 (livesOf 78) 4 pl_C4 (pl_h4 a0 a1 a2 [] false 0) = some (.exit 0, pl_o4a a0 a1 a2 out_4 d_4)) (C2 : d_4 = false) (B3a : H a2 ≤ 17179869184) (K4 : runL n 90 [.own 0 out_4.length, .agg [.lit (.int .i64 a1), .lit (.bool (rawQ a2).s), natA (rawQ a2).l1, natA (rawQ a2).l2]] [.row 76 4 (out_4.map termC) 0] = some (.own 0 out_4.length, [(0, .row 76 4 (out_4.map termC) 0)])) :
    run (n + 1) 78 [formV a0, .lit (.int .i64 a1), ratV a2] = some (formV (out_4, a0.2)) := by
  have K3 := r_canon (p := a2) B3a
  unfold run fnP
  simp +decide [Tryz.f78, C2, K3, K4]
  rw [loopX_G (C' := pl_C4) (e := (pl_h4 a0 a1 a2 [] false 0)) ?_ ?_, L1]
  rotate_left
  · kernel_rfl
  · simp +decide [pl_h4, C2, K3, K4]
  simp +decide [pl_o4a, C2, K3, K4]
theorem pl_f2 {n : Nat} {a0 : Form} {a1 : Int} {a2 : Rat} {out_4 : List (Int × Rat)} {d_4 : Bool} {R18 : List (Int × Rat)} (L1 : loopG Tryz.prog (tab (n + 1)) 0 61 (livesOf 78) 4 pl_C4 (pl_h4 a0 a1 a2 [] false 0) = some (.exit 0, pl_o4a a0 a1 a2 out_4 d_4)) (C2 : d_4 = false) (B3a : H a2 ≤ 17179869184) (K4 : runL n 90 [.own 0 out_4.length, .agg [.lit (.int .i64 a1), .lit (.bool (rawQ a2).s), natA (rawQ a2).l1, natA (rawQ a2).l2]] [.row 76 4 (out_4.map termC) 0] = some (.own 3 R18.length, [(3, .row 76 4 (R18.map termC) 0)])) :
    run (n + 1) 78 [formV a0, .lit (.int .i64 a1), ratV a2] = some (formV (R18, a0.2)) := by
  have K3 := r_canon (p := a2) B3a
  unfold run fnP
  simp +decide [Tryz.f78, C2, K3, K4]
  rw [loopX_G (C' := pl_C4) (e := (pl_h4 a0 a1 a2 [] false 0)) ?_ ?_, L1]
  rotate_left
  · kernel_rfl
  · simp +decide [pl_h4, C2, K3, K4]
  simp +decide [pl_o4a, C2, K3, K4]
theorem pl_f3 {n : Nat} {a0 : Form} {a1 : Int} {a2 : Rat} {out_4 : List (Int × Rat)} {d_4 : Bool} (L1 : loopG Tryz.prog (tab (n + 1)) 0 61 (livesOf 78) 4 pl_C4 (pl_h4 a0 a1 a2 [] false 0) = some (.exit 0, pl_o4a a0 a1 a2 out_4 d_4)) (C2 : d_4 = true) :
    run (n + 1) 78 [formV a0, .lit (.int .i64 a1), ratV a2] = some (formV (out_4, a0.2)) := by
  unfold run fnP
  simp +decide [Tryz.f78, C2]
  rw [loopX_G (C' := pl_C4) (e := (pl_h4 a0 a1 a2 [] false 0)) ?_ ?_, L1]
  rotate_left
  · kernel_rfl
  · simp +decide [pl_h4, C2]
  simp +decide [pl_o4a, C2]
end Go.Proofs.YthkkmokbjmempaaGreatDoor
