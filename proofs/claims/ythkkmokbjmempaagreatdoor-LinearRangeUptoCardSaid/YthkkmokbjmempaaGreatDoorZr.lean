/- Walks: linear.Range, relucertref07.Range, relucertref03.Min, relucertref03.Max, relucertlaw07.boxed@0. -/
import Derived.Test.YthkkmokbjmempaaGreatDoorUe
import Derived.Test.YthkkmokbjmempaaGreatDoorUg
set_option linter.all false
set_option linter.all false
set_option maxRecDepth 100000
set_option maxHeartbeats 6400000
namespace Go.Proofs.YthkkmokbjmempaaGreatDoor
open Go.RowKit

/-! linear.Range, level 0 -/
noncomputable def lrg_C3 : Code := (loopsOf (bodyOf Tryz.f41)).getD 0 .skip
def lrg_h3 (a0 : Form) (a1 : List TInterval) (i_3 : Nat) (s_3 : Rat) (s2_3 : Rat) : St :=
  ⟨[(1, .sl 6 (a1.map intervalC)), (4, .ptr 0 0), (6, .ptr 1 0), (7, .ptr 2 0), (17, .sl 4 (a0.1.map termC)), (18, .lit (.int .i64 (a0.1.length : Int))), (19, .lit (.int .i64 (i_3 : Int)))],
   [(0, some (.box 58 [.lit (.bool false), .nl 1, .nl 1, .lit (.bool false), .nl 1, .nl 1] false)),
    (1, some (.box 27 [.lit (.bool (rawQ s_3).s), natA (rawQ s_3).l1, natA (rawQ s_3).l2] false)),
    (2, some (.box 27 [.lit (.bool (rawQ s2_3).s), natA (rawQ s2_3).l1, natA (rawQ s2_3).l2] false))], 3⟩
def lrg_o3a (s_3 : Rat) (s2_3 : Rat) : St :=
  ⟨[(4, .ptr 0 0), (5, .lit (.int .i64 2)), (6, .ptr 1 0), (7, .ptr 2 0)],
   [(0, some (.box 58 [.lit (.bool false), .nl 1, .nl 1, .lit (.bool false), .nl 1, .nl 1] false)),
    (1, some (.box 27 [.lit (.bool (rawQ s_3).s), natA (rawQ s_3).l1, natA (rawQ s_3).l2] false)),
    (2, some (.box 27 [.lit (.bool (rawQ s2_3).s), natA (rawQ s2_3).l1, natA (rawQ s2_3).l2] false))], 3⟩
def lrg_o3b (s_3 : Rat) (s2_3 : Rat) : St :=
  ⟨[(4, .ptr 0 0), (5, .any), (6, .ptr 1 0), (7, .ptr 2 0)],
   [(0, some (.box 58 [.lit (.bool false), .nl 1, .nl 1, .lit (.bool false), .nl 1, .nl 1] false)),
    (1, some (.box 27 [.lit (.bool (rawQ s_3).s), natA (rawQ s_3).l1, natA (rawQ s_3).l2] false)),
    (2, some (.box 27 [.lit (.bool (rawQ s2_3).s), natA (rawQ s2_3).l1, natA (rawQ s2_3).l2] false))], 3⟩
theorem lrg_r3_1 {n : Nat} {a0 : Form} {a1 : List TInterval} {i_3 : Nat} {v3 : Int} {q3 : Rat} {x3 : TInterval} {s_3 : Rat} {s2_3 : Rat} (C1 : (i_3 : Int) < (a0.1.length : Int)) (E2 : a0.1[i_3]? = some (v3, q3)) (C3 : ¬ v3 < 0) (C4 : ¬ (a1.length : Int) ≤ v3) (E5 : a1[v3.toNat]? = some x3) (Z5 : 0 ≤ v3) (C6 : (rawQ q3).s = true) (B7a : H q3 ≤ 17179869184) (B7b : H x3.Hi ≤ 17179869184) (B8a : H s_3 ≤ 17179869184) (B8b : H (q3 * x3.Hi) ≤ 17179869184) (B9b : H x3.Lo ≤ 17179869184) (B10a : H s2_3 ≤ 17179869184) (B10b : H (q3 * x3.Lo) ≤ 17179869184) (W11 : InI ((i_3 : Int) + 1)) :
    Cont 0 (exec Tryz.prog (tab n) 0 69 (livesOf 41) big lrg_C3) (livesOf 41 3) (lrg_h3 a0 a1 i_3 s_3 s2_3) (lrg_h3 a0 a1 (i_3 + 1) (s_3 + (q3 * x3.Hi)) (s2_3 + (q3 * x3.Lo))) := by
  have C1_ : i_3 < a0.1.length := by omega
  obtain ⟨EL2, EG2⟩ := List.getElem?_eq_some_iff.1 E2
  obtain ⟨EL5, EG5⟩ := List.getElem?_eq_some_iff.1 E5
  have K7 := r_mul (p := q3) (q := x3.Hi) B7a B7b
  have K8 := r_add (p := s_3) (q := q3 * x3.Hi) B8a B8b
  have K9 := r_mul (p := q3) (q := x3.Lo) B7a B9b
  have K10 := r_add (p := s2_3) (q := q3 * x3.Lo) B10a B10b
  have W11_ : IntKind.i64.wrap ((i_3 : Int) + 1) = (i_3 : Int) + 1 := wr64 W11.1 W11.2
  try simp only [C6] at K7
  try simp only [C6] at K8
  try simp only [C6] at K9
  try simp only [C6] at K10
  unfold Cont
  simp +decide [lrg_h3, loopsOf, Tryz.f41, lrg_C3, C1, C1_, EL2, EG2, E2, C3, C4, EL5, EG5, E5, Z5, C6, K7, K8, K9, K10, W11_]
theorem lrg_r3_2 {n : Nat} {a0 : Form} {a1 : List TInterval} {i_3 : Nat} {v3 : Int} {q3 : Rat} {x3 : TInterval} {s_3 : Rat} {s2_3 : Rat} (C1 : (i_3 : Int) < (a0.1.length : Int)) (E2 : a0.1[i_3]? = some (v3, q3)) (C3 : ¬ v3 < 0) (C4 : ¬ (a1.length : Int) ≤ v3) (E5 : a1[v3.toNat]? = some x3) (Z5 : 0 ≤ v3) (C6 : (rawQ q3).s = false) (B7a : H q3 ≤ 17179869184) (B7b : H x3.Lo ≤ 17179869184) (B8a : H s_3 ≤ 17179869184) (B8b : H (q3 * x3.Lo) ≤ 17179869184) (B9b : H x3.Hi ≤ 17179869184) (B10a : H s2_3 ≤ 17179869184) (B10b : H (q3 * x3.Hi) ≤ 17179869184) (W11 : InI ((i_3 : Int) + 1)) :
    Cont 0 (exec Tryz.prog (tab n) 0 69 (livesOf 41) big lrg_C3) (livesOf 41 3) (lrg_h3 a0 a1 i_3 s_3 s2_3) (lrg_h3 a0 a1 (i_3 + 1) (s_3 + (q3 * x3.Lo)) (s2_3 + (q3 * x3.Hi))) := by
  have C1_ : i_3 < a0.1.length := by omega
  obtain ⟨EL2, EG2⟩ := List.getElem?_eq_some_iff.1 E2
  obtain ⟨EL5, EG5⟩ := List.getElem?_eq_some_iff.1 E5
  have K7 := r_mul (p := q3) (q := x3.Lo) B7a B7b
  have K8 := r_add (p := s_3) (q := q3 * x3.Lo) B8a B8b
  have K9 := r_mul (p := q3) (q := x3.Hi) B7a B9b
  have K10 := r_add (p := s2_3) (q := q3 * x3.Hi) B10a B10b
  have W11_ : IntKind.i64.wrap ((i_3 : Int) + 1) = (i_3 : Int) + 1 := wr64 W11.1 W11.2
  try simp only [C6] at K7
  try simp only [C6] at K8
  try simp only [C6] at K9
  try simp only [C6] at K10
  unfold Cont
  simp +decide [lrg_h3, loopsOf, Tryz.f41, lrg_C3, C1, C1_, EL2, EG2, E2, C3, C4, EL5, EG5, E5, Z5, C6, K7, K8, K9, K10, W11_]
theorem lrg_x3_1 {n : Nat} {a0 : Form} {a1 : List TInterval} {i_3 : Nat} {v3 : Int} {q3 : Rat} {s_3 : Rat} {s2_3 : Rat} (C1 : (i_3 : Int) < (a0.1.length : Int)) (E2 : a0.1[i_3]? = some (v3, q3)) (C3 : v3 < 0) :
    Leave 0 (exec Tryz.prog (tab n) 0 69 (livesOf 41) big lrg_C3) (livesOf 41 (outOf 3)) (lrg_h3 a0 a1 i_3 s_3 s2_3) (.ret) (lrg_o3a s_3 s2_3) := by
  have C1_ : i_3 < a0.1.length := by omega
  obtain ⟨EL2, EG2⟩ := List.getElem?_eq_some_iff.1 E2
  unfold Leave
  simp +decide [lrg_h3, loopsOf, Tryz.f41, lrg_o3a, lrg_C3, C1, C1_, EL2, EG2, E2, C3]
theorem lrg_x3_2 {n : Nat} {a0 : Form} {a1 : List TInterval} {i_3 : Nat} {v3 : Int} {q3 : Rat} {s_3 : Rat} {s2_3 : Rat} (C1 : (i_3 : Int) < (a0.1.length : Int)) (E2 : a0.1[i_3]? = some (v3, q3)) (C3 : ¬ v3 < 0) (C4 : (a1.length : Int) ≤ v3) :
    Leave 0 (exec Tryz.prog (tab n) 0 69 (livesOf 41) big lrg_C3) (livesOf 41 (outOf 3)) (lrg_h3 a0 a1 i_3 s_3 s2_3) (.ret) (lrg_o3a s_3 s2_3) := by
  have C1_ : i_3 < a0.1.length := by omega
  obtain ⟨EL2, EG2⟩ := List.getElem?_eq_some_iff.1 E2
  unfold Leave
  simp +decide [lrg_h3, loopsOf, Tryz.f41, lrg_o3a, lrg_C3, C1, C1_, EL2, EG2, E2, C3, C4]
theorem lrg_x3_3 {n : Nat} {a0 : Form} {a1 : List TInterval} {i_3 : Nat} {s_3 : Rat} {s2_3 : Rat} (C1 : ¬ (i_3 : Int) < (a0.1.length : Int)) :
    Leave 0 (exec Tryz.prog (tab n) 0 69 (livesOf 41) big lrg_C3) (livesOf 41 (outOf 3)) (lrg_h3 a0 a1 i_3 s_3 s2_3) (.exit 0) (lrg_o3b s_3 s2_3) := by
  have C1_ : ¬ i_3 < a0.1.length := by omega
  unfold Leave
  simp +decide [lrg_h3, loopsOf, Tryz.f41, lrg_o3b, lrg_C3, C1, C1_]
theorem lrg_f1 {n : Nat} {a0 : Form} {a1 : List TInterval} {s_3 : Rat} {s2_3 : Rat} (L1 : loopG Tryz.prog (tab n) 0 69 (livesOf 41) 3 lrg_C3 (lrg_h3 a0 a1 0 a0.2 a0.2) = some (.ret, lrg_o3a s_3 s2_3)) :
    run n 41 [formV a0, .sl 6 (a1.map intervalC)] = some (.tup [.agg [.lit (.bool false), .sl 1 [], .sl 1 [], .lit (.bool false), .sl 1 [], .sl 1 []], .lit (.int .i64 2)]) := by
  unfold run fnP
  simp +decide [Tryz.f41]
  rw [loopX_G (C' := lrg_C3) (e := (lrg_h3 a0 a1 0 a0.2 a0.2)) ?_ ?_, L1]
  rotate_left
  · kernel_rfl
  · simp +decide [lrg_h3]
  simp +decide [lrg_o3a]
theorem lrg_f2 {n : Nat} {a0 : Form} {a1 : List TInterval} {s_3 : Rat} {s2_3 : Rat} (L1 : loopG Tryz.prog (tab n) 0 69 (livesOf 41) 3 lrg_C3 (lrg_h3 a0 a1 0 a0.2 a0.2) = some (.exit 0, lrg_o3b s_3 s2_3)) (B2a : H s_3 ≤ 17179869184) (B3a : H s2_3 ≤ 17179869184) :
    run n 41 [formV a0, .sl 6 (a1.map intervalC)] = some (.tup [.agg [.lit (.bool (rawQ s_3).s), natA (rawQ s_3).l1, natA (rawQ s_3).l2, .lit (.bool (rawQ s2_3).s), natA (rawQ s2_3).l1, natA (rawQ s2_3).l2], .lit (.int .i64 0)]) := by
  have K2 := r_canon (p := s_3) B2a
  have K3 := r_canon (p := s2_3) B3a
  unfold run fnP
  simp +decide [Tryz.f41, K2, K3]
  rw [loopX_G (C' := lrg_C3) (e := (lrg_h3 a0 a1 0 a0.2 a0.2)) ?_ ?_, L1]
  rotate_left
  · kernel_rfl
  · simp +decide [lrg_h3, K2, K3]
  simp +decide [lrg_o3b, K2, K3]
/-! relucertref07.Range, level 1 -/
noncomputable def frg_C3 : Code := (loopsOf (bodyOf Tryz.f42)).getD 0 .skip
def frg_h3 (a0 : Form) (a1 : List TInterval) (i_3 : Nat) (s_3 : Rat) (s2_3 : Rat) : St :=
  ⟨[(1, .sl 6 (a1.map intervalC)), (2, .ptr 0 0), (4, .ptr 1 0), (6, .ptr 2 0), (7, .lit (.int .i64 (i_3 : Int)))],
   [(0, some (.box 29 [.sl 4 (a0.1.map termC), .lit (.bool (rawQ a0.2).s), natA (rawQ a0.2).l1, natA (rawQ a0.2).l2] false)),
    (1, some (.box 58 [.lit (.bool false), .nl 1, .nl 1, .lit (.bool false), .nl 1, .nl 1] false)),
    (2, some (.box 58 [.lit (.bool (rawQ s_3).s), natA (rawQ s_3).l1, natA (rawQ s_3).l2, .lit (.bool (rawQ s2_3).s), natA (rawQ s2_3).l1, natA (rawQ s2_3).l2] false))], 3⟩
def frg_o3a (s_3 : Rat) (s2_3 : Rat) : St :=
  ⟨[(4, .ptr 0 0), (5, .lit (.int .i64 2)), (6, .ptr 1 0)],
   [(0, some (.box 58 [.lit (.bool false), .nl 1, .nl 1, .lit (.bool false), .nl 1, .nl 1] false)),
    (1, some (.box 58 [.lit (.bool (rawQ s_3).s), natA (rawQ s_3).l1, natA (rawQ s_3).l2, .lit (.bool (rawQ s2_3).s), natA (rawQ s2_3).l1, natA (rawQ s2_3).l2] false))], 2⟩
def frg_o3b (s_3 : Rat) (s2_3 : Rat) : St :=
  ⟨[(4, .ptr 0 0), (5, .any), (6, .ptr 1 0)],
   [(0, some (.box 58 [.lit (.bool false), .nl 1, .nl 1, .lit (.bool false), .nl 1, .nl 1] false)),
    (1, some (.box 58 [.lit (.bool (rawQ s_3).s), natA (rawQ s_3).l1, natA (rawQ s_3).l2, .lit (.bool (rawQ s2_3).s), natA (rawQ s2_3).l1, natA (rawQ s2_3).l2] false))], 2⟩
theorem frg_r3_1 {n : Nat} {a0 : Form} {a1 : List TInterval} {i_3 : Nat} {v3 : Int} {q3 : Rat} {x3 : TInterval} {r5 : Rat} {s_3 : Rat} {r6 : Rat} {s2_3 : Rat} (C1 : (i_3 : Int) < (a0.1.length : Int)) (E2 : a0.1[i_3]? = some (v3, q3)) (C3 : ¬ v3 < 0) (C4 : ¬ (a1.length : Int) ≤ v3) (E5 : a1[v3.toNat]? = some x3) (Z5 : 0 ≤ v3) (B6a : H q3 ≤ 17179869184) (B6b : H x3.Lo ≤ 17179869184) (B7b : H x3.Hi ≤ 17179869184) (K8 : run n 91 [ratV (q3 * x3.Lo), ratV (q3 * x3.Hi)] = some (ratV r5)) (B9a : H s_3 ≤ 17179869184) (B9b : H r5 ≤ 17179869184) (K10 : run n 92 [ratV (q3 * x3.Lo), ratV (q3 * x3.Hi)] = some (ratV r6)) (B11a : H s2_3 ≤ 17179869184) (B11b : H r6 ≤ 17179869184) (W12 : InI ((i_3 : Int) + 1)) :
    Cont 0 (exec Tryz.prog (tab (n + 1)) 0 72 (livesOf 42) big frg_C3) (livesOf 42 3) (frg_h3 a0 a1 i_3 s_3 s2_3) (frg_h3 a0 a1 (i_3 + 1) (s_3 + r5) (s2_3 + r6)) := by
  have C1_ : i_3 < a0.1.length := by omega
  obtain ⟨EL2, EG2⟩ := List.getElem?_eq_some_iff.1 E2
  obtain ⟨EL5, EG5⟩ := List.getElem?_eq_some_iff.1 E5
  have K6 := r_mul (p := q3) (q := x3.Lo) B6a B6b
  have K7 := r_mul (p := q3) (q := x3.Hi) B6a B7b
  simp only [ratV] at K8
  have K9 := r_add (p := s_3) (q := r5) B9a B9b
  simp only [ratV] at K10
  have K11 := r_add (p := s2_3) (q := r6) B11a B11b
  have W12_ : IntKind.i64.wrap ((i_3 : Int) + 1) = (i_3 : Int) + 1 := wr64 W12.1 W12.2
  unfold Cont
  simp +decide [frg_h3, loopsOf, Tryz.f42, frg_C3, C1, C1_, EL2, EG2, E2, C3, C4, EL5, EG5, E5, Z5, K6, K7, K8, K9, K10, K11, W12_]
theorem frg_x3_1 {n : Nat} {a0 : Form} {a1 : List TInterval} {i_3 : Nat} {v3 : Int} {q3 : Rat} {s_3 : Rat} {s2_3 : Rat} (C1 : (i_3 : Int) < (a0.1.length : Int)) (E2 : a0.1[i_3]? = some (v3, q3)) (C3 : v3 < 0) :
    Leave 0 (exec Tryz.prog (tab (n + 1)) 0 72 (livesOf 42) big frg_C3) (livesOf 42 (outOf 3)) (frg_h3 a0 a1 i_3 s_3 s2_3) (.ret) (frg_o3a s_3 s2_3) := by
  have C1_ : i_3 < a0.1.length := by omega
  obtain ⟨EL2, EG2⟩ := List.getElem?_eq_some_iff.1 E2
  unfold Leave
  simp +decide [frg_h3, loopsOf, Tryz.f42, frg_o3a, frg_C3, C1, C1_, EL2, EG2, E2, C3]
theorem frg_x3_2 {n : Nat} {a0 : Form} {a1 : List TInterval} {i_3 : Nat} {v3 : Int} {q3 : Rat} {s_3 : Rat} {s2_3 : Rat} (C1 : (i_3 : Int) < (a0.1.length : Int)) (E2 : a0.1[i_3]? = some (v3, q3)) (C3 : ¬ v3 < 0) (C4 : (a1.length : Int) ≤ v3) :
    Leave 0 (exec Tryz.prog (tab (n + 1)) 0 72 (livesOf 42) big frg_C3) (livesOf 42 (outOf 3)) (frg_h3 a0 a1 i_3 s_3 s2_3) (.ret) (frg_o3a s_3 s2_3) := by
  have C1_ : i_3 < a0.1.length := by omega
  obtain ⟨EL2, EG2⟩ := List.getElem?_eq_some_iff.1 E2
  unfold Leave
  simp +decide [frg_h3, loopsOf, Tryz.f42, frg_o3a, frg_C3, C1, C1_, EL2, EG2, E2, C3, C4]
theorem frg_x3_3 {n : Nat} {a0 : Form} {a1 : List TInterval} {i_3 : Nat} {s_3 : Rat} {s2_3 : Rat} (C1 : ¬ (i_3 : Int) < (a0.1.length : Int)) :
    Leave 0 (exec Tryz.prog (tab (n + 1)) 0 72 (livesOf 42) big frg_C3) (livesOf 42 (outOf 3)) (frg_h3 a0 a1 i_3 s_3 s2_3) (.exit 0) (frg_o3b s_3 s2_3) := by
  have C1_ : ¬ i_3 < a0.1.length := by omega
  unfold Leave
  simp +decide [frg_h3, loopsOf, Tryz.f42, frg_o3b, frg_C3, C1, C1_]
theorem frg_f1 {n : Nat} {a0 : Form} {a1 : List TInterval} {s_3 : Rat} {s2_3 : Rat} (L1 : loopG Tryz.prog (tab (n + 1)) 0 72 (livesOf 42) 3 frg_C3 (frg_h3 a0 a1 0 a0.2 a0.2) = some (.ret, frg_o3a s_3 s2_3)) :
    run (n + 1) 42 [formV a0, .sl 6 (a1.map intervalC)] = some (.tup [.agg [.lit (.bool false), .sl 1 [], .sl 1 [], .lit (.bool false), .sl 1 [], .sl 1 []], .lit (.int .i64 2)]) := by
  unfold run fnP
  simp +decide [Tryz.f42]
  rw [loopX_G (C' := frg_C3) (e := (frg_h3 a0 a1 0 a0.2 a0.2)) ?_ ?_, L1]
  rotate_left
  · kernel_rfl
  · simp +decide [frg_h3]
  simp +decide [frg_o3a]
theorem frg_f2 {n : Nat} {a0 : Form} {a1 : List TInterval} {s_3 : Rat} {s2_3 : Rat} (L1 : loopG Tryz.prog (tab (n + 1)) 0 72 (livesOf 42) 3 frg_C3 (frg_h3 a0 a1 0 a0.2 a0.2) = some (.exit 0, frg_o3b s_3 s2_3)) :
    run (n + 1) 42 [formV a0, .sl 6 (a1.map intervalC)] = some (.tup [.agg [.lit (.bool (rawQ s_3).s), natA (rawQ s_3).l1, natA (rawQ s_3).l2, .lit (.bool (rawQ s2_3).s), natA (rawQ s2_3).l1, natA (rawQ s2_3).l2], .lit (.int .i64 0)]) := by
  unfold run fnP
  simp +decide [Tryz.f42]
  rw [loopX_G (C' := frg_C3) (e := (frg_h3 a0 a1 0 a0.2 a0.2)) ?_ ?_, L1]
  rotate_left
  · kernel_rfl
  · simp +decide [frg_h3]
  simp +decide [frg_o3b]
/-! relucertref03.Min, level 0 -/
theorem mnf_f1 {n : Nat} {a0 : Rat} {a1 : Rat} (B1a : H a0 ≤ 17179869184) (B1b : H a1 ≤ 17179869184) (C2 : sgR (a0 - a1) ≤ 0) :
    run n 91 [ratV a0, ratV a1] = some (ratV a0) := by
  have K1 := r_cmp (p := a0) (q := a1) B1a B1b
  have K3 := r_canon (p := a0) B1a
  unfold run fnP
  simp +decide [Tryz.f91, K1, C2, K3]
theorem mnf_f2 {n : Nat} {a0 : Rat} {a1 : Rat} (B1a : H a0 ≤ 17179869184) (B1b : H a1 ≤ 17179869184) (C2 : ¬ sgR (a0 - a1) ≤ 0) :
    run n 91 [ratV a0, ratV a1] = some (ratV a1) := by
  have K1 := r_cmp (p := a0) (q := a1) B1a B1b
  have K3 := r_canon (p := a1) B1b
  unfold run fnP
  simp +decide [Tryz.f91, K1, C2, K3]
/-! relucertref03.Max, level 0 -/
theorem mxf_f1 {n : Nat} {a0 : Rat} {a1 : Rat} (B1a : H a0 ≤ 17179869184) (B1b : H a1 ≤ 17179869184) (C2 : 0 ≤ sgR (a0 - a1)) :
    run n 92 [ratV a0, ratV a1] = some (ratV a0) := by
  have K1 := r_cmp (p := a0) (q := a1) B1a B1b
  have K3 := r_canon (p := a0) B1a
  unfold run fnP
  simp +decide [Tryz.f92, K1, C2, K3]
theorem mxf_f2 {n : Nat} {a0 : Rat} {a1 : Rat} (B1a : H a0 ≤ 17179869184) (B1b : H a1 ≤ 17179869184) (C2 : ¬ 0 ≤ sgR (a0 - a1)) :
    run n 92 [ratV a0, ratV a1] = some (ratV a1) := by
  have K1 := r_cmp (p := a0) (q := a1) B1a B1b
  have K3 := r_canon (p := a1) B1b
  unfold run fnP
  simp +decide [Tryz.f92, K1, C2, K3]
/-! relucertlaw07.boxed, level 1 -/
noncomputable def bxR_C2 : Code := (loopsOf (bodyOf Tryz.f40)).getD 0 .skip
def bxR_h2 (a0 : List TIntervalR) (i_2 : Nat) : St :=
  ⟨[(0, .sl 6 (a0.map intervalRC)), (3, .lit (.int .i64 (i_2 : Int)))],
   [], 0⟩
def bxR_o2a (a0 : List TIntervalR) : St :=
  ⟨[(0, .sl 6 (a0.map intervalRC)), (2, .lit (.bool false))],
   [], 0⟩
def bxR_o2b (a0 : List TIntervalR) : St :=
  ⟨[(0, .sl 6 (a0.map intervalRC)), (2, .any)],
   [], 0⟩
theorem bxR_r2_1 {n : Nat} {a0 : List TIntervalR} {i_2 : Nat} {x3 : TIntervalR} {r3 : Bool} (C1 : (i_2 : Int) < (a0.length : Int)) (E2 : a0[i_2]? = some x3) (K3 : run n 24 [.sl 3 [[.lit (.bool x3.Lo.s), natA x3.Lo.l1, natA x3.Lo.l2], [.lit (.bool x3.Hi.s), natA x3.Hi.l1, natA x3.Hi.l2]]] = some (.lit (.bool r3))) (C4 : r3 = true) (B5a : RawB x3.Lo) (B5b : RawB x3.Hi) (C6 : ¬ 0 < sgR (x3.Lo.q - x3.Hi.q)) (W7 : InI ((i_2 : Int) + 1)) :
    Cont 0 (exec Tryz.prog (tab (n + 1)) 0 40 (livesOf 40) big bxR_C2) (livesOf 40 2) (bxR_h2 a0 i_2) (bxR_h2 a0 (i_2 + 1)) := by
  have C1_ : i_2 < a0.length := by omega
  obtain ⟨EL2, EG2⟩ := List.getElem?_eq_some_iff.1 E2
  have K5 := rr_cmp B5a B5b
  have W7_ : IntKind.i64.wrap ((i_2 : Int) + 1) = (i_2 : Int) + 1 := wr64 W7.1 W7.2
  unfold Cont
  simp +decide [bxR_h2, loopsOf, Tryz.f40, bxR_C2, C1, C1_, EL2, EG2, E2, K3, C4, K5, C6, W7_]
theorem bxR_x2_1 {n : Nat} {a0 : List TIntervalR} {i_2 : Nat} {x3 : TIntervalR} {r3 : Bool} (C1 : (i_2 : Int) < (a0.length : Int)) (E2 : a0[i_2]? = some x3) (K3 : run n 24 [.sl 3 [[.lit (.bool x3.Lo.s), natA x3.Lo.l1, natA x3.Lo.l2], [.lit (.bool x3.Hi.s), natA x3.Hi.l1, natA x3.Hi.l2]]] = some (.lit (.bool r3))) (C4 : r3 = false) :
    Leave 0 (exec Tryz.prog (tab (n + 1)) 0 40 (livesOf 40) big bxR_C2) (livesOf 40 (outOf 2)) (bxR_h2 a0 i_2) (.ret) (bxR_o2a a0) := by
  have C1_ : i_2 < a0.length := by omega
  obtain ⟨EL2, EG2⟩ := List.getElem?_eq_some_iff.1 E2
  unfold Leave
  simp +decide [bxR_h2, loopsOf, Tryz.f40, bxR_o2a, bxR_C2, C1, C1_, EL2, EG2, E2, K3, C4]
theorem bxR_x2_2 {n : Nat} {a0 : List TIntervalR} {i_2 : Nat} {x3 : TIntervalR} {r3 : Bool} (C1 : (i_2 : Int) < (a0.length : Int)) (E2 : a0[i_2]? = some x3) (K3 : run n 24 [.sl 3 [[.lit (.bool x3.Lo.s), natA x3.Lo.l1, natA x3.Lo.l2], [.lit (.bool x3.Hi.s), natA x3.Hi.l1, natA x3.Hi.l2]]] = some (.lit (.bool r3))) (C4 : r3 = true) (B5a : RawB x3.Lo) (B5b : RawB x3.Hi) (C6 : 0 < sgR (x3.Lo.q - x3.Hi.q)) :
    Leave 0 (exec Tryz.prog (tab (n + 1)) 0 40 (livesOf 40) big bxR_C2) (livesOf 40 (outOf 2)) (bxR_h2 a0 i_2) (.ret) (bxR_o2a a0) := by
  have C1_ : i_2 < a0.length := by omega
  obtain ⟨EL2, EG2⟩ := List.getElem?_eq_some_iff.1 E2
  have K5 := rr_cmp B5a B5b
  unfold Leave
  simp +decide [bxR_h2, loopsOf, Tryz.f40, bxR_o2a, bxR_C2, C1, C1_, EL2, EG2, E2, K3, C4, K5, C6]
theorem bxR_x2_3 {n : Nat} {a0 : List TIntervalR} {i_2 : Nat} (C1 : ¬ (i_2 : Int) < (a0.length : Int)) :
    Leave 0 (exec Tryz.prog (tab (n + 1)) 0 40 (livesOf 40) big bxR_C2) (livesOf 40 (outOf 2)) (bxR_h2 a0 i_2) (.exit 0) (bxR_o2b a0) := by
  have C1_ : ¬ i_2 < a0.length := by omega
  unfold Leave
  simp +decide [bxR_h2, loopsOf, Tryz.f40, bxR_o2b, bxR_C2, C1, C1_]
theorem bxR_f1 {n : Nat} {a0 : List TIntervalR} (L1 : loopG Tryz.prog (tab (n + 1)) 0 40 (livesOf 40) 2 bxR_C2 (bxR_h2 a0 0) = some (.ret, bxR_o2a a0)) :
    run (n + 1) 40 [.sl 6 (a0.map intervalRC)] = some (.lit (.bool false)) := by
  unfold run fnP
  simp +decide [Tryz.f40]
  rw [loopX_G (C' := bxR_C2) (e := (bxR_h2 a0 0)) ?_ ?_, L1]
  rotate_left
  · kernel_rfl
  · simp +decide [bxR_h2]
  simp +decide [bxR_o2a]
theorem bxR_f2 {n : Nat} {a0 : List TIntervalR} (L1 : loopG Tryz.prog (tab (n + 1)) 0 40 (livesOf 40) 2 bxR_C2 (bxR_h2 a0 0) = some (.exit 0, bxR_o2b a0)) :
    run (n + 1) 40 [.sl 6 (a0.map intervalRC)] = some (.lit (.bool (decide ((a0.length : Int) ≤ 8)))) := by
  unfold run fnP
  simp +decide [Tryz.f40]
  rw [loopX_G (C' := bxR_C2) (e := (bxR_h2 a0 0)) ?_ ?_, L1]
  rotate_left
  · kernel_rfl
  · simp +decide [bxR_h2]
  simp +decide [bxR_o2b]
end Go.Proofs.YthkkmokbjmempaaGreatDoor
