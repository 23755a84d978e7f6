/- Walks: linear.Coef, linear.copied, linear.Eval, relucertref07.Coef, relucertref07.Sub. The examples of the document of layer 15, run. relucertlaw15.awake as a row of the table. -/
import Derived.Test.YtlpmemelhlnfbaaGreatDoorGA5
set_option linter.all false
set_option linter.all false
set_option maxRecDepth 100000
set_option maxHeartbeats 6400000
namespace Go.Proofs.YtlpmemelhlnfbaaGreatDoor
open Go.RowKit

/-! linear.Coef, level 3 -/
/-! linear.copied, level 2 -/
/-! linear.Eval, level 0 -/
noncomputable def lev_C3 : Code := (loopsOf (bodyOf Tryz.f97)).getD 0 .skip
def lev_h3 (a0 : Form) (a1 : List Rat) (i_3 : Nat) (s_3 : Rat) : St :=
  ⟨[(1, .sl 3 (a1.map ratC)), (4, .ptr 0 0), (6, .ptr 1 0), (12, .sl 4 (a0.1.map termC)), (13, .lit (.int .i64 (a0.1.length : Int))), (14, .lit (.int .i64 (i_3 : Int)))],
   [(0, some (.box 27 [.lit (.bool false), .nl 1, .nl 1] false)),
    (1, some (.box 27 [.lit (.bool (rawQ s_3).s), natA (rawQ s_3).l1, natA (rawQ s_3).l2] false))], 2⟩
def lev_o3a (s_3 : Rat) : St :=
  ⟨[(4, .ptr 0 0), (5, .lit (.int .i64 2)), (6, .ptr 1 0)],
   [(0, some (.box 27 [.lit (.bool false), .nl 1, .nl 1] false)),
    (1, some (.box 27 [.lit (.bool (rawQ s_3).s), natA (rawQ s_3).l1, natA (rawQ s_3).l2] false))], 2⟩
def lev_o3b (s_3 : Rat) : St :=
  ⟨[(4, .ptr 0 0), (5, .any), (6, .ptr 1 0)],
   [(0, some (.box 27 [.lit (.bool false), .nl 1, .nl 1] false)),
    (1, some (.box 27 [.lit (.bool (rawQ s_3).s), natA (rawQ s_3).l1, natA (rawQ s_3).l2] false))], 2⟩
theorem lev_r3_1 {n : Nat} {a0 : Form} {a1 : List Rat} {i_3 : Nat} {v3 : Int} {q3 : Rat} {x3 : Rat} {s_3 : Rat} (C1 : (i_3 : Int) < (a0.1.length : Int)) (E2 : a0.1[i_3]? = some (v3, q3)) (C3 : ¬ v3 < 0) (C4 : ¬ (a1.length : Int) ≤ v3) (E5 : a1[v3.toNat]? = some x3) (Z5 : 0 ≤ v3) (B6a : H q3 ≤ 17179869184) (B6b : H x3 ≤ 17179869184) (B7a : H s_3 ≤ 17179869184) (B7b : H (q3 * x3) ≤ 17179869184) (W8 : InI ((i_3 : Int) + 1)) :
    Cont 0 (exec Tryz.prog (tab n) 0 42 (livesOf 97) big lev_C3) (livesOf 97 3) (lev_h3 a0 a1 i_3 s_3) (lev_h3 a0 a1 (i_3 + 1) (s_3 + (q3 * x3))) := by
  have C1_ : i_3 < a0.1.length := by omega
  obtain ⟨EL2, EG2⟩ := List.getElem?_eq_some_iff.1 E2
  obtain ⟨EL5, EG5⟩ := List.getElem?_eq_some_iff.1 E5
  have K6 := r_mul (p := q3) (q := x3) B6a B6b
  have K7 := r_add (p := s_3) (q := q3 * x3) B7a B7b
  have W8_ : IntKind.i64.wrap ((i_3 : Int) + 1) = (i_3 : Int) + 1 := wr64 W8.1 W8.2
  unfold Cont
  simp +decide [lev_h3, loopsOf, Tryz.f97, lev_C3, C1, C1_, EL2, EG2, E2, C3, C4, EL5, EG5, E5, Z5, K6, K7, W8_]
theorem lev_x3_1 {n : Nat} {a0 : Form} {a1 : List Rat} {i_3 : Nat} {v3 : Int} {q3 : Rat} {s_3 : Rat} (C1 : (i_3 : Int) < (a0.1.length : Int)) (E2 : a0.1[i_3]? = some (v3, q3)) (C3 : v3 < 0) :
    Leave 0 (exec Tryz.prog (tab n) 0 42 (livesOf 97) big lev_C3) (livesOf 97 (outOf 3)) (lev_h3 a0 a1 i_3 s_3) (.ret) (lev_o3a s_3) := by
  have C1_ : i_3 < a0.1.length := by omega
  obtain ⟨EL2, EG2⟩ := List.getElem?_eq_some_iff.1 E2
  unfold Leave
  simp +decide [lev_h3, loopsOf, Tryz.f97, lev_o3a, lev_C3, C1, C1_, EL2, EG2, E2, C3]
theorem lev_x3_2 {n : Nat} {a0 : Form} {a1 : List Rat} {i_3 : Nat} {v3 : Int} {q3 : Rat} {s_3 : Rat} (C1 : (i_3 : Int) < (a0.1.length : Int)) (E2 : a0.1[i_3]? = some (v3, q3)) (C3 : ¬ v3 < 0) (C4 : (a1.length : Int) ≤ v3) :
    Leave 0 (exec Tryz.prog (tab n) 0 42 (livesOf 97) big lev_C3) (livesOf 97 (outOf 3)) (lev_h3 a0 a1 i_3 s_3) (.ret) (lev_o3a s_3) := by
  have C1_ : i_3 < a0.1.length := by omega
  obtain ⟨EL2, EG2⟩ := List.getElem?_eq_some_iff.1 E2
  unfold Leave
  simp +decide [lev_h3, loopsOf, Tryz.f97, lev_o3a, lev_C3, C1, C1_, EL2, EG2, E2, C3, C4]
theorem lev_x3_3 {n : Nat} {a0 : Form} {a1 : List Rat} {i_3 : Nat} {s_3 : Rat} (C1 : ¬ (i_3 : Int) < (a0.1.length : Int)) :
    Leave 0 (exec Tryz.prog (tab n) 0 42 (livesOf 97) big lev_C3) (livesOf 97 (outOf 3)) (lev_h3 a0 a1 i_3 s_3) (.exit 0) (lev_o3b s_3) := by
  have C1_ : ¬ i_3 < a0.1.length := by omega
  unfold Leave
  simp +decide [lev_h3, loopsOf, Tryz.f97, lev_o3b, lev_C3, C1, C1_]
theorem lev_f1 {n : Nat} {a0 : Form} {a1 : List Rat} {s_3 : Rat} (L1 : loopG Tryz.prog (tab n) 0 42 (livesOf 97) 3 lev_C3 (lev_h3 a0 a1 0 a0.2) = some (.ret, lev_o3a s_3)) :
    run n 97 [formV a0, .sl 3 (a1.map ratC)] = some (.tup [.agg [.lit (.bool false), .sl 1 [], .sl 1 []], .lit (.int .i64 2)]) := by
  unfold run fnP
  simp +decide [Tryz.f97]
  rw [loopX_G (C' := lev_C3) (e := (lev_h3 a0 a1 0 a0.2)) ?_ ?_, L1]
  rotate_left
  · kernel_rfl
  · simp +decide [lev_h3]
  simp +decide [lev_o3a]
theorem lev_f2 {n : Nat} {a0 : Form} {a1 : List Rat} {s_3 : Rat} (L1 : loopG Tryz.prog (tab n) 0 42 (livesOf 97) 3 lev_C3 (lev_h3 a0 a1 0 a0.2) = some (.exit 0, lev_o3b s_3)) (B2a : H s_3 ≤ 17179869184) :
    run n 97 [formV a0, .sl 3 (a1.map ratC)] = some (.tup [ratV s_3, .lit (.int .i64 0)]) := by
  have K2 := r_canon (p := s_3) B2a
  unfold run fnP
  simp +decide [Tryz.f97, K2]
  rw [loopX_G (C' := lev_C3) (e := (lev_h3 a0 a1 0 a0.2)) ?_ ?_, L1]
  rotate_left
  · kernel_rfl
  · simp +decide [lev_h3, K2]
  simp +decide [lev_o3b, K2]
/-! relucertref07.Coef, level 0 -/
/-! relucertref07.Sub, level 3 -/
end Go.Proofs.YtlpmemelhlnfbaaGreatDoor
set_option linter.all false
set_option maxRecDepth 100000
namespace Go.Proofs.YtlpmemelhlnfbaaGreatDoor
open Go.RowKit
theorem awake15_c {n : Nat} : run 16 18 [] = some (.lit (.bool true)) := by kernel_rfl
end Go.Proofs.YtlpmemelhlnfbaaGreatDoor
set_option linter.all false
namespace Go.Proofs.YtlpmemelhlnfbaaGreatDoor
open Go.RowKit

def awG (args : List AV) : Option AV := match args with | [] => some (.lit (.bool true)) | _ => none
theorem con_awake : ∀ args r, awG args = some r → Con Tryz.prog 18 args r := fun args r hr => by
  unfold awG at hr
  split at hr
  · cases hr
    exact ((tab_ok 17).pure _ _ (tb_18 16)).2 _ _ (awake15_c (n := 0))
  · cases hr
end Go.Proofs.YtlpmemelhlnfbaaGreatDoor
