/- Walks: linear.Substitute, relucertref07.Substitute. -/
import Derived.Test.YtlpmemelhlnfbaaGreatDoorGA5
set_option linter.all false
set_option linter.all false
set_option maxRecDepth 100000
set_option maxHeartbeats 6400000
namespace Go.Proofs.YtlpmemelhlnfbaaGreatDoor
open Go.RowKit

/-! linear.Substitute, level 2 -/
noncomputable def lsb_C4 : Code := (loopsOf (bodyOf Tryz.f81)).getD 0 .skip
def lsb_h4 (a0 : Form) (a1 : Int) (a2 : Form) (i_4 : Nat) (out_4 : List (Int × Rat)) (s_4 : Rat) : St :=
  ⟨[(1, .lit (.int .i64 a1)), (5, .ptr 0 0), (6, .ptr 1 0), (7, .ptr 2 0), (8, .ptr 4 0), (16, .sl 4 (a0.1.map termC)), (17, .lit (.int .i64 (a0.1.length : Int))), (18, .lit (.int .i64 (i_4 : Int)))],
   [(0, some (.box 29 [.sl 4 (a2.1.map termC), .lit (.bool (rawQ a2.2).s), natA (rawQ a2.2).l1, natA (rawQ a2.2).l2] false)),
    (1, some (.box 29 [.nl 4, .lit (.bool false), .nl 1, .nl 1] false)),
    (2, some (.box 29 [.own 3 out_4.length, .lit (.bool (rawQ a0.2).s), natA (rawQ a0.2).l1, natA (rawQ a0.2).l2] false)),
    (3, some (.row 84 4 (out_4.map termC) 0)),
    (4, some (.box 27 [.lit (.bool (rawQ s_4).s), natA (rawQ s_4).l1, natA (rawQ s_4).l2] false))], 5⟩
def lsb_o4a (a0 : Form) (a2 : Form) (out_4 : List (Int × Rat)) (s_4 : Rat) : St :=
  ⟨[(5, .ptr 0 0), (6, .ptr 1 0), (7, .ptr 2 0), (8, .ptr 4 0)],
   [(0, some (.box 29 [.sl 4 (a2.1.map termC), .lit (.bool (rawQ a2.2).s), natA (rawQ a2.2).l1, natA (rawQ a2.2).l2] false)),
    (1, some (.box 29 [.nl 4, .lit (.bool false), .nl 1, .nl 1] false)),
    (2, some (.box 29 [.own 3 out_4.length, .lit (.bool (rawQ a0.2).s), natA (rawQ a0.2).l1, natA (rawQ a0.2).l2] false)),
    (3, some (.row 84 4 (out_4.map termC) 0)),
    (4, some (.box 27 [.lit (.bool (rawQ s_4).s), natA (rawQ s_4).l1, natA (rawQ s_4).l2] false))], 5⟩
theorem lsb_r4_1 {n : Nat} {a0 : Form} {a1 : Int} {a2 : Form} {i_4 : Nat} {v3 : Int} {q3 : Rat} {out_4 : List (Int × Rat)} {s_4 : Rat} (C1 : (i_4 : Int) < (a0.1.length : Int)) (E2 : a0.1[i_4]? = some (v3, q3)) (C3 : v3 = a1) (W4 : InI ((i_4 : Int) + 1)) :
    Cont 0 (exec Tryz.prog (tab (n + 2)) 0 39 (livesOf 81) big lsb_C4) (livesOf 81 4) (lsb_h4 a0 a1 a2 i_4 out_4 s_4) (lsb_h4 a0 a1 a2 (i_4 + 1) out_4 q3) := by
  have C1_ : i_4 < a0.1.length := by omega
  obtain ⟨EL2, EG2⟩ := List.getElem?_eq_some_iff.1 E2
  have C3_ : (v3 == a1) = true := by rw [C3]; simp
  have C3_n : (v3 != a1) = false := by rw [C3]; simp
  have W4_ : IntKind.i64.wrap ((i_4 : Int) + 1) = (i_4 : Int) + 1 := wr64 W4.1 W4.2
  unfold Cont
  simp +decide [lsb_h4, loopsOf, Tryz.f81, lsb_C4, natA, C1, C1_, EL2, EG2, E2, C3_, C3_n, W4_]
theorem lsb_r4_2 {n : Nat} {a0 : Form} {a1 : Int} {a2 : Form} {i_4 : Nat} {v3 : Int} {q3 : Rat} {out_4 : List (Int × Rat)} {s_4 : Rat} (C1 : (i_4 : Int) < (a0.1.length : Int)) (E2 : a0.1[i_4]? = some (v3, q3)) (C3 : ¬ v3 = a1) (M4 : out_4.length + 1 ≤ 100000000) (W5 : InI ((i_4 : Int) + 1)) :
    Cont 0 (exec Tryz.prog (tab (n + 2)) 0 39 (livesOf 81) big lsb_C4) (livesOf 81 4) (lsb_h4 a0 a1 a2 i_4 out_4 s_4) (lsb_h4 a0 a1 a2 (i_4 + 1) (out_4 ++ [(v3, q3)]) s_4) := by
  have C1_ : i_4 < a0.1.length := by omega
  obtain ⟨EL2, EG2⟩ := List.getElem?_eq_some_iff.1 E2
  have C3_ : (v3 == a1) = false := by simpa using C3
  have C3_n : (v3 != a1) = true := by simpa using C3
  have M4_ : ∀ b, b ≤ 10000 → roomy (out_4.length + 1) b = true := fun b hb => roomy_s M4 hb
  have W5_ : IntKind.i64.wrap ((i_4 : Int) + 1) = (i_4 : Int) + 1 := wr64 W5.1 W5.2
  unfold Cont
  simp +decide [lsb_h4, loopsOf, Tryz.f81, lsb_C4, natA, C1, C1_, EL2, EG2, E2, C3_, C3_n, M4_, W5_]
theorem lsb_x4_1 {n : Nat} {a0 : Form} {a1 : Int} {a2 : Form} {i_4 : Nat} {out_4 : List (Int × Rat)} {s_4 : Rat} (C1 : ¬ (i_4 : Int) < (a0.1.length : Int)) :
    Leave 0 (exec Tryz.prog (tab (n + 2)) 0 39 (livesOf 81) big lsb_C4) (livesOf 81 (outOf 4)) (lsb_h4 a0 a1 a2 i_4 out_4 s_4) (.exit 0) (lsb_o4a a0 a2 out_4 s_4) := by
  have C1_ : ¬ i_4 < a0.1.length := by omega
  unfold Leave
  simp +decide [lsb_h4, loopsOf, Tryz.f81, lsb_o4a, lsb_C4, C1, C1_]
theorem lsb_f1 {n : Nat} {a0 : Form} {a1 : Int} {a2 : Form} {out_4 : List (Int × Rat)} {s_4 : Rat} {r : Form} (L1 : loopG Tryz.prog (tab (n + 2)) 0 39 (livesOf 81) 4 lsb_C4 (lsb_h4 a0 a1 a2 0 [] 0) = some (.exit 0, lsb_o4a a0 a2 out_4 s_4)) (K2 : run (n + 1) 158 [formV (out_4, a0.2), formV a2, ratV s_4] = some (formV r)) :
    run (n + 2) 81 [formV a0, .lit (.int .i64 a1), formV a2] = some (formV r) := by
  simp only [ratV, formV] at K2
  unfold run fnP
  simp +decide [Tryz.f81, K2]
  rw [loopX_G (C' := lsb_C4) (e := (lsb_h4 a0 a1 a2 0 [] 0)) ?_ ?_, L1]
  rotate_left
  · kernel_rfl
  · simp +decide [lsb_h4, K2]
  simp +decide [lsb_o4a, K2]
/-! relucertref07.Substitute, level 3 -/
theorem fsb_f1 {n : Nat} {a0 : Form} {a1 : Int} {a2 : Form} {r : Rat} {r2 : Form} {r3 : Form} {r4 : Form} (K1 : run (n + 2) 175 [formV a0, .lit (.int .i64 a1)] = some (ratV r)) (B2a : H r ≤ 17179869184) (K3 : run (n + 2) 138 [formV a0, .lit (.int .i64 a1), ratV (-r)] = some (formV r2)) (K4 : run (n + 2) 87 [formV a2, ratV r] = some (formV r3)) (K5 : run (n + 2) 115 [formV r2, formV r3] = some (formV r4)) :
    run (n + 3) 117 [formV a0, .lit (.int .i64 a1), formV a2] = some (formV r4) := by
  simp only [ratV, formV] at K1
  have K2 := r_neg (p := r) B2a
  simp only [ratV, formV] at K3
  simp only [ratV, formV] at K4
  simp only [formV] at K5
  unfold run fnP
  simp +decide [Tryz.f117, K1, K2, K3, K4, K5]
end Go.Proofs.YtlpmemelhlnfbaaGreatDoor
