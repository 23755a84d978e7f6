/- Walks: linear.Coef, linear.copied, linear.Eval, relucertref07.Coef, relucertref07.Sub. -/
import Derived.Test.YthkkmokbjmempaaGreatDoorUe
set_option linter.all false
set_option linter.all false
set_option maxRecDepth 100000
set_option maxHeartbeats 6400000
namespace Go.Proofs.YthkkmokbjmempaaGreatDoor
open Go.RowKit

/-! linear.Coef, level 3 -/
noncomputable def lco_C2 : Code := (loopsOf (bodyOf Tryz.f44)).getD 0 .skip
def lco_h2 (a0 : Form) (a1 : Int) (i_2 : Nat) : St :=
  ⟨[(1, .lit (.int .i64 a1)), (4, .ptr 0 0), (8, .sl 4 (a0.1.map termC)), (9, .lit (.int .i64 (a0.1.length : Int))), (10, .lit (.int .i64 (i_2 : Int)))],
   [(0, some (.box 27 [.lit (.bool false), .nl 1, .nl 1] false))], 1⟩
def lco_o2a (r3 : Rat) : St :=
  ⟨[(4, .ptr 0 0)],
   [(0, some (.box 27 [.lit (.bool (rawQ r3).s), natA (rawQ r3).l1, natA (rawQ r3).l2] false))], 1⟩
def lco_o2b  : St :=
  ⟨[(4, .ptr 0 0)],
   [(0, some (.box 27 [.lit (.bool false), .nl 1, .nl 1] false))], 1⟩
theorem lco_r2_1 {n : Nat} {a0 : Form} {a1 : Int} {i_2 : Nat} {v3 : Int} {q3 : Rat} (C1 : (i_2 : Int) < (a0.1.length : Int)) (E2 : a0.1[i_2]? = some (v3, q3)) (C3 : ¬ v3 = a1) (W4 : InI ((i_2 : Int) + 1)) :
    Cont 0 (exec Tryz.prog (tab (n + 3)) 0 23 (livesOf 44) big lco_C2) (livesOf 44 2) (lco_h2 a0 a1 i_2) (lco_h2 a0 a1 (i_2 + 1)) := by
  have C1_ : i_2 < a0.1.length := by omega
  obtain ⟨EL2, EG2⟩ := List.getElem?_eq_some_iff.1 E2
  have C3_ : (v3 == a1) = false := by simpa using C3
  have C3_n : (v3 != a1) = true := by simpa using C3
  have W4_ : IntKind.i64.wrap ((i_2 : Int) + 1) = (i_2 : Int) + 1 := wr64 W4.1 W4.2
  unfold Cont
  simp +decide [lco_h2, loopsOf, Tryz.f44, lco_C2, C1, C1_, EL2, EG2, E2, C3_, C3_n, W4_]
theorem lco_x2_1 {n : Nat} {a0 : Form} {a1 : Int} {i_2 : Nat} {v3 : Int} {q3 : Rat} {r3 : Rat} (C1 : (i_2 : Int) < (a0.1.length : Int)) (E2 : a0.1[i_2]? = some (v3, q3)) (C3 : v3 = a1) (K4 : run (n + 2) 94 [ratV q3] = some (ratV r3)) :
    Leave 0 (exec Tryz.prog (tab (n + 3)) 0 23 (livesOf 44) big lco_C2) (livesOf 44 (outOf 2)) (lco_h2 a0 a1 i_2) (.ret) (lco_o2a r3) := by
  have C1_ : i_2 < a0.1.length := by omega
  obtain ⟨EL2, EG2⟩ := List.getElem?_eq_some_iff.1 E2
  have C3_ : (v3 == a1) = true := by rw [C3]; simp
  have C3_n : (v3 != a1) = false := by rw [C3]; simp
  simp only [ratV] at K4
  unfold Leave
  simp +decide [lco_h2, loopsOf, Tryz.f44, lco_o2a, lco_C2, C1, C1_, EL2, EG2, E2, C3_, C3_n, K4]
theorem lco_x2_2 {n : Nat} {a0 : Form} {a1 : Int} {i_2 : Nat} (C1 : ¬ (i_2 : Int) < (a0.1.length : Int)) :
    Leave 0 (exec Tryz.prog (tab (n + 3)) 0 23 (livesOf 44) big lco_C2) (livesOf 44 (outOf 2)) (lco_h2 a0 a1 i_2) (.exit 0) (lco_o2b ) := by
  have C1_ : ¬ i_2 < a0.1.length := by omega
  unfold Leave
  simp +decide [lco_h2, loopsOf, Tryz.f44, lco_o2b, lco_C2, C1, C1_]
theorem lco_f1 {n : Nat} {a0 : Form} {a1 : Int} {r3 : Rat} (L1 : loopG Tryz.prog (tab (n + 3)) 0 23 (livesOf 44) 2 lco_C2 (lco_h2 a0 a1 0) = some (.ret, lco_o2a r3)) :
    run (n + 3) 44 [formV a0, .lit (.int .i64 a1)] = some (ratV r3) := by
  unfold run fnP
  simp +decide [Tryz.f44]
  rw [loopX_G (C' := lco_C2) (e := (lco_h2 a0 a1 0)) ?_ ?_, L1]
  rotate_left
  · kernel_rfl
  · simp +decide [lco_h2]
  simp +decide [lco_o2a]
theorem lco_f2 {n : Nat} {a0 : Form} {a1 : Int} (L1 : loopG Tryz.prog (tab (n + 3)) 0 23 (livesOf 44) 2 lco_C2 (lco_h2 a0 a1 0) = some (.exit 0, lco_o2b )) :
    run (n + 3) 44 [formV a0, .lit (.int .i64 a1)] = some (.agg [.lit (.bool false), .sl 1 [], .sl 1 []]) := by
  unfold run fnP
  simp +decide [Tryz.f44]
  rw [loopX_G (C' := lco_C2) (e := (lco_h2 a0 a1 0)) ?_ ?_, L1]
  rotate_left
  · kernel_rfl
  · simp +decide [lco_h2]
  simp +decide [lco_o2b]
/-! linear.copied, level 2 -/
theorem lcp_f1 {n : Nat} {a0 : Rat} {r : List Nat} {r2 : List Nat} (K1 : (oN1 (fun _ => true) fun x => natA (lmb (val x))) [natA (rawQ a0).l1] = some (natA r)) (K2 : (oN1 (fun _ => true) fun x => natA (lmb (val x))) [natA (rawQ a0).l2] = some (natA r2)) :
    run (n + 2) 94 [ratV a0] = some (.agg [.lit (.bool (rawQ a0).s), natA r, natA r2]) := by
  unfold run fnP
  simp +decide [Tryz.f94, K1, K2]
/-! linear.Eval, level 0 -/
noncomputable def lev_C3 : Code := (loopsOf (bodyOf Tryz.f29)).getD 0 .skip
def lev_h3 (a0 : Form) (a1 : List Rat) (i_3 : Nat) (s_3 : Rat) : St :=
  ⟨[(1, .sl 3 (a1.map ratC)), (4, .ptr 0 0), (6, .ptr 1 0), (12, .sl 4 (a0.1.map termC)), (13, .lit (.int .i64 (a0.1.length : Int))), (14, .lit (.int .i64 (i_3 : Int)))],
   [(0, some (.box 27 [.lit (.bool false), .nl 1, .nl 1] false)),
    (1, some (.box 27 [.lit (.bool (rawQ s_3).s), natA (rawQ s_3).l1, natA (rawQ s_3).l2] false))], 2⟩
def lev_o3a (s_3 : Rat) : St :=
  ⟨[(4, .ptr 0 0), (5, .lit (.int .i64 2)), (6, .ptr 1 0)],
   [(0, some (.box 27 [.lit (.bool false), .nl 1, .nl 1] false)),
    (1, some (.box 27 [.lit (.bool (rawQ s_3).s), natA (rawQ s_3).l1, natA (rawQ s_3).l2] false))], 2⟩
def lev_o3b (s_3 : Rat) : St :=
  ⟨[(4, .ptr 0 0), (5, .any), (6, .ptr 1 0)],
   [(0, some (.box 27 [.lit (.bool false), .nl 1, .nl 1] false)),
    (1, some (.box 27 [.lit (.bool (rawQ s_3).s), natA (rawQ s_3).l1, natA (rawQ s_3).l2] false))], 2⟩
theorem lev_r3_1 {n : Nat} {a0 : Form} {a1 : List Rat} {i_3 : Nat} {v3 : Int} {q3 : Rat} {x3 : Rat} {s_3 : Rat} (C1 : (i_3 : Int) < (a0.1.length : Int)) (E2 : a0.1[i_3]? = some (v3, q3)) (C3 : ¬ v3 < 0) (C4 : ¬ (a1.length : Int) ≤ v3) (E5 : a1[v3.toNat]? = some x3) (Z5 : 0 ≤ v3) (B6a : H q3 ≤ 17179869184) (B6b : H x3 ≤ 17179869184) (B7a : H s_3 ≤ 17179869184) (B7b : H (q3 * x3) ≤ 17179869184) (W8 : InI ((i_3 : Int) + 1)) :
    Cont 0 (exec Tryz.prog (tab n) 0 42 (livesOf 29) big lev_C3) (livesOf 29 3) (lev_h3 a0 a1 i_3 s_3) (lev_h3 a0 a1 (i_3 + 1) (s_3 + (q3 * x3))) := by
  have C1_ : i_3 < a0.1.length := by omega
  obtain ⟨EL2, EG2⟩ := List.getElem?_eq_some_iff.1 E2
  obtain ⟨EL5, EG5⟩ := List.getElem?_eq_some_iff.1 E5
  have K6 := r_mul (p := q3) (q := x3) B6a B6b
  have K7 := r_add (p := s_3) (q := q3 * x3) B7a B7b
  have W8_ : IntKind.i64.wrap ((i_3 : Int) + 1) = (i_3 : Int) + 1 := wr64 W8.1 W8.2
  unfold Cont
  simp +decide [lev_h3, loopsOf, Tryz.f29, lev_C3, C1, C1_, EL2, EG2, E2, C3, C4, EL5, EG5, E5, Z5, K6, K7, W8_]
theorem lev_x3_1 {n : Nat} {a0 : Form} {a1 : List Rat} {i_3 : Nat} {v3 : Int} {q3 : Rat} {s_3 : Rat} (C1 : (i_3 : Int) < (a0.1.length : Int)) (E2 : a0.1[i_3]? = some (v3, q3)) (C3 : v3 < 0) :
    Leave 0 (exec Tryz.prog (tab n) 0 42 (livesOf 29) big lev_C3) (livesOf 29 (outOf 3)) (lev_h3 a0 a1 i_3 s_3) (.ret) (lev_o3a s_3) := by
  have C1_ : i_3 < a0.1.length := by omega
  obtain ⟨EL2, EG2⟩ := List.getElem?_eq_some_iff.1 E2
  unfold Leave
  simp +decide [lev_h3, loopsOf, Tryz.f29, lev_o3a, lev_C3, C1, C1_, EL2, EG2, E2, C3]
theorem lev_x3_2 {n : Nat} {a0 : Form} {a1 : List Rat} {i_3 : Nat} {v3 : Int} {q3 : Rat} {s_3 : Rat} (C1 : (i_3 : Int) < (a0.1.length : Int)) (E2 : a0.1[i_3]? = some (v3, q3)) (C3 : ¬ v3 < 0) (C4 : (a1.length : Int) ≤ v3) :
    Leave 0 (exec Tryz.prog (tab n) 0 42 (livesOf 29) big lev_C3) (livesOf 29 (outOf 3)) (lev_h3 a0 a1 i_3 s_3) (.ret) (lev_o3a s_3) := by
  have C1_ : i_3 < a0.1.length := by omega
  obtain ⟨EL2, EG2⟩ := List.getElem?_eq_some_iff.1 E2
  unfold Leave
  simp +decide [lev_h3, loopsOf, Tryz.f29, lev_o3a, lev_C3, C1, C1_, EL2, EG2, E2, C3, C4]
theorem lev_x3_3 {n : Nat} {a0 : Form} {a1 : List Rat} {i_3 : Nat} {s_3 : Rat} (C1 : ¬ (i_3 : Int) < (a0.1.length : Int)) :
    Leave 0 (exec Tryz.prog (tab n) 0 42 (livesOf 29) big lev_C3) (livesOf 29 (outOf 3)) (lev_h3 a0 a1 i_3 s_3) (.exit 0) (lev_o3b s_3) := by
  have C1_ : ¬ i_3 < a0.1.length := by omega
  unfold Leave
  simp +decide [lev_h3, loopsOf, Tryz.f29, lev_o3b, lev_C3, C1, C1_]
theorem lev_f1 {n : Nat} {a0 : Form} {a1 : List Rat} {s_3 : Rat} (L1 : loopG Tryz.prog (tab n) 0 42 (livesOf 29) 3 lev_C3 (lev_h3 a0 a1 0 a0.2) = some (.ret, lev_o3a s_3)) :
    run n 29 [formV a0, .sl 3 (a1.map ratC)] = some (.tup [.agg [.lit (.bool false), .sl 1 [], .sl 1 []], .lit (.int .i64 2)]) := by
  unfold run fnP
  simp +decide [Tryz.f29]
  rw [loopX_G (C' := lev_C3) (e := (lev_h3 a0 a1 0 a0.2)) ?_ ?_, L1]
  rotate_left
  · kernel_rfl
  · simp +decide [lev_h3]
  simp +decide [lev_o3a]
theorem lev_f2 {n : Nat} {a0 : Form} {a1 : List Rat} {s_3 : Rat} (L1 : loopG Tryz.prog (tab n) 0 42 (livesOf 29) 3 lev_C3 (lev_h3 a0 a1 0 a0.2) = some (.exit 0, lev_o3b s_3)) (B2a : H s_3 ≤ 17179869184) :
    run n 29 [formV a0, .sl 3 (a1.map ratC)] = some (.tup [ratV s_3, .lit (.int .i64 0)]) := by
  have K2 := r_canon (p := s_3) B2a
  unfold run fnP
  simp +decide [Tryz.f29, K2]
  rw [loopX_G (C' := lev_C3) (e := (lev_h3 a0 a1 0 a0.2)) ?_ ?_, L1]
  rotate_left
  · kernel_rfl
  · simp +decide [lev_h3, K2]
  simp +decide [lev_o3b, K2]
/-! relucertref07.Coef, level 0 -/
noncomputable def fco_C2 : Code := (loopsOf (bodyOf Tryz.f45)).getD 0 .skip
def fco_h2 (a0 : Form) (a1 : Int) (i_2 : Nat) : St :=
  ⟨[(1, .lit (.int .i64 a1)), (2, .ptr 0 0), (4, .ptr 1 0), (5, .lit (.int .i64 (i_2 : Int)))],
   [(0, some (.box 29 [.sl 4 (a0.1.map termC), .lit (.bool (rawQ a0.2).s), natA (rawQ a0.2).l1, natA (rawQ a0.2).l2] false)),
    (1, some (.box 27 [.lit (.bool false), .nl 1, .nl 1] false))], 2⟩
def fco_o2a (q3 : Rat) : St :=
  ⟨[(4, .ptr 0 0)],
   [(0, some (.box 27 [.lit (.bool (rawQ q3).s), natA (rawQ q3).l1, natA (rawQ q3).l2] false))], 1⟩
def fco_o2b  : St :=
  ⟨[(4, .ptr 0 0)],
   [(0, some (.box 27 [.lit (.bool false), .nl 1, .nl 1] false))], 1⟩
theorem fco_r2_1 {n : Nat} {a0 : Form} {a1 : Int} {i_2 : Nat} {v3 : Int} {q3 : Rat} (C1 : (i_2 : Int) < (a0.1.length : Int)) (E2 : a0.1[i_2]? = some (v3, q3)) (C3 : ¬ v3 = a1) (W4 : InI ((i_2 : Int) + 1)) :
    Cont 0 (exec Tryz.prog (tab n) 0 28 (livesOf 45) big fco_C2) (livesOf 45 2) (fco_h2 a0 a1 i_2) (fco_h2 a0 a1 (i_2 + 1)) := by
  have C1_ : i_2 < a0.1.length := by omega
  obtain ⟨EL2, EG2⟩ := List.getElem?_eq_some_iff.1 E2
  have C3_ : (v3 == a1) = false := by simpa using C3
  have C3_n : (v3 != a1) = true := by simpa using C3
  have W4_ : IntKind.i64.wrap ((i_2 : Int) + 1) = (i_2 : Int) + 1 := wr64 W4.1 W4.2
  unfold Cont
  simp +decide [fco_h2, loopsOf, Tryz.f45, fco_C2, C1, C1_, EL2, EG2, E2, C3_, C3_n, W4_]
theorem fco_x2_1 {n : Nat} {a0 : Form} {a1 : Int} {i_2 : Nat} {v3 : Int} {q3 : Rat} (C1 : (i_2 : Int) < (a0.1.length : Int)) (E2 : a0.1[i_2]? = some (v3, q3)) (C3 : v3 = a1) :
    Leave 0 (exec Tryz.prog (tab n) 0 28 (livesOf 45) big fco_C2) (livesOf 45 (outOf 2)) (fco_h2 a0 a1 i_2) (.ret) (fco_o2a q3) := by
  have C1_ : i_2 < a0.1.length := by omega
  obtain ⟨EL2, EG2⟩ := List.getElem?_eq_some_iff.1 E2
  have C3_ : (v3 == a1) = true := by rw [C3]; simp
  have C3_n : (v3 != a1) = false := by rw [C3]; simp
  unfold Leave
  simp +decide [fco_h2, loopsOf, Tryz.f45, fco_o2a, fco_C2, C1, C1_, EL2, EG2, E2, C3_, C3_n]
theorem fco_x2_2 {n : Nat} {a0 : Form} {a1 : Int} {i_2 : Nat} (C1 : ¬ (i_2 : Int) < (a0.1.length : Int)) :
    Leave 0 (exec Tryz.prog (tab n) 0 28 (livesOf 45) big fco_C2) (livesOf 45 (outOf 2)) (fco_h2 a0 a1 i_2) (.exit 0) (fco_o2b ) := by
  have C1_ : ¬ i_2 < a0.1.length := by omega
  unfold Leave
  simp +decide [fco_h2, loopsOf, Tryz.f45, fco_o2b, fco_C2, C1, C1_]
theorem fco_f1 {n : Nat} {a0 : Form} {a1 : Int} {q3 : Rat} (L1 : loopG Tryz.prog (tab n) 0 28 (livesOf 45) 2 fco_C2 (fco_h2 a0 a1 0) = some (.ret, fco_o2a q3)) :
    run n 45 [formV a0, .lit (.int .i64 a1)] = some (ratV q3) := by
  unfold run fnP
  simp +decide [Tryz.f45]
  rw [loopX_G (C' := fco_C2) (e := (fco_h2 a0 a1 0)) ?_ ?_, L1]
  rotate_left
  · kernel_rfl
  · simp +decide [fco_h2]
  simp +decide [fco_o2a]
theorem fco_f2 {n : Nat} {a0 : Form} {a1 : Int} (L1 : loopG Tryz.prog (tab n) 0 28 (livesOf 45) 2 fco_C2 (fco_h2 a0 a1 0) = some (.exit 0, fco_o2b )) :
    run n 45 [formV a0, .lit (.int .i64 a1)] = some (.agg [.lit (.bool false), .sl 1 [], .sl 1 []]) := by
  unfold run fnP
  simp +decide [Tryz.f45]
  rw [loopX_G (C' := fco_C2) (e := (fco_h2 a0 a1 0)) ?_ ?_, L1]
  rotate_left
  · kernel_rfl
  · simp +decide [fco_h2]
  simp +decide [fco_o2b]
/-! relucertref07.Sub, level 3 -/
theorem fsu_f1 {n : Nat} {a0 : Form} {a1 : Form} {r : Form} {r2 : Form} (K2 : run (n + 2) 38 [formV a1, ratV (ofQ (-1))] = some (formV r)) (K3 : run (n + 2) 33 [formV a0, formV r] = some (formV r2)) :
    run (n + 3) 34 [formV a0, formV a1] = some (formV r2) := by
  have K1 := r_ofq (z := (-1)) (by omega) (by omega)
  simp only [ratV, formV] at K2
  simp only [formV] at K3
  unfold run fnP
  simp +decide [Tryz.f34, K1, K2, K3]
end Go.Proofs.YthkkmokbjmempaaGreatDoor
