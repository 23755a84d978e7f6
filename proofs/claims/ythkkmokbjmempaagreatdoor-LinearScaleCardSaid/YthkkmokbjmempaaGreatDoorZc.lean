/- Walks: relucertlaw07.copied, linear.same, linear.Equal. -/
import Derived.Test.YthkkmokbjmempaaGreatDoorUe
set_option linter.all false
set_option linter.all false
set_option maxRecDepth 100000
set_option maxHeartbeats 6400000
namespace Go.Proofs.YthkkmokbjmempaaGreatDoor
open Go.RowKit

/-! relucertlaw07.copied, level 0 -/
theorem lc7_f1 {n : Nat} {a0 : Form} (M1 : a0.1.length ≤ 100000000) :
    run n 26 [formV a0] = some (formV a0) := by
  have M1_ : ∀ b, b ≤ 10000 → roomy (a0.1.length) b = true := fun b hb => roomy_s M1 hb
  unfold run fnP
  simp +decide [Tryz.f26, M1_]
/-! linear.same, level 1 -/
theorem sam_f1 {n : Nat} {a0 : Rat} {a1 : Rat} {r : Bool} {r2 : Bool} (C1 : ((rawQ a0).s) = ((rawQ a1).s)) (K2 : run n 128 [natA (rawQ a0).l1, natA (rawQ a1).l1] = some (.lit (.bool r))) (C3 : r = true) (K4 : run n 128 [natA (rawQ a0).l2, natA (rawQ a1).l2] = some (.lit (.bool r2))) :
    run (n + 1) 85 [ratV a0, ratV a1] = some (.lit (.bool r2)) := by
  have C1_ : (((rawQ a0).s) == ((rawQ a1).s)) = true := by rw [C1]; simp
  have C1_n : (((rawQ a0).s) != ((rawQ a1).s)) = false := by rw [C1]; simp
  unfold run fnP
  simp +decide [Tryz.f85, C1_, C1_n, C1, K2, C3, K4]
theorem sam_f2 {n : Nat} {a0 : Rat} {a1 : Rat} {r : Bool} (C1 : ((rawQ a0).s) = ((rawQ a1).s)) (K2 : run n 128 [natA (rawQ a0).l1, natA (rawQ a1).l1] = some (.lit (.bool r))) (C3 : r = false) :
    run (n + 1) 85 [ratV a0, ratV a1] = some (.lit (.bool false)) := by
  have C1_ : (((rawQ a0).s) == ((rawQ a1).s)) = true := by rw [C1]; simp
  have C1_n : (((rawQ a0).s) != ((rawQ a1).s)) = false := by rw [C1]; simp
  unfold run fnP
  simp +decide [Tryz.f85, C1_, C1_n, C1, K2, C3]
theorem sam_f3 {n : Nat} {a0 : Rat} {a1 : Rat} (C1 : ¬ ((rawQ a0).s) = ((rawQ a1).s)) :
    run (n + 1) 85 [ratV a0, ratV a1] = some (.lit (.bool false)) := by
  have C1_ : (((rawQ a0).s) == ((rawQ a1).s)) = false := by simpa using C1
  have C1_n : (((rawQ a0).s) != ((rawQ a1).s)) = true := by simpa using C1
  unfold run fnP
  simp +decide [Tryz.f85, C1_, C1_n]
/-! linear.Equal, level 2 -/
noncomputable def leq_C4 : Code := (loopsOf (bodyOf Tryz.f35)).getD 0 .skip
def leq_h4 (a0 : Form) (a1 : Form) (i_4 : Nat) : St :=
  ⟨[(3, .ptr 0 0), (23, .sl 4 (a0.1.map termC)), (24, .lit (.int .i64 (a0.1.length : Int))), (25, .lit (.int .i64 (i_4 : Int)))],
   [(0, some (.box 29 [.sl 4 (a1.1.map termC), .lit (.bool (rawQ a1.2).s), natA (rawQ a1.2).l1, natA (rawQ a1.2).l2] false))], 1⟩
def leq_o4a  : St :=
  ⟨[(4, .lit (.bool false))],
   [], 0⟩
def leq_o4b  : St :=
  ⟨[(4, .any)],
   [], 0⟩
theorem leq_r4_1 {n : Nat} {a0 : Form} {a1 : Form} {i_4 : Nat} {v5 : Int} {q5 : Rat} {v6 : Int} {q6 : Rat} {r4 : Bool} (C1 : (i_4 : Int) < (a0.1.length : Int)) (E2 : a0.1[i_4]? = some (v5, q5)) (E3 : a1.1[i_4]? = some (v6, q6)) (C4 : v5 = v6) (K5 : run (n + 1) 85 [ratV q5, ratV q6] = some (.lit (.bool r4))) (C6 : r4 = true) (W7 : InI ((i_4 : Int) + 1)) :
    Cont 0 (exec Tryz.prog (tab (n + 2)) 0 52 (livesOf 35) big leq_C4) (livesOf 35 4) (leq_h4 a0 a1 i_4) (leq_h4 a0 a1 (i_4 + 1)) := by
  have C1_ : i_4 < a0.1.length := by omega
  obtain ⟨EL2, EG2⟩ := List.getElem?_eq_some_iff.1 E2
  obtain ⟨EL3, EG3⟩ := List.getElem?_eq_some_iff.1 E3
  have C4_ : (v5 == v6) = true := by rw [C4]; simp
  have C4_n : (v5 != v6) = false := by rw [C4]; simp
  simp only [ratV] at K5
  have W7_ : IntKind.i64.wrap ((i_4 : Int) + 1) = (i_4 : Int) + 1 := wr64 W7.1 W7.2
  unfold Cont
  simp +decide [leq_h4, loopsOf, Tryz.f35, leq_C4, C1, C1_, EL2, EG2, E2, EL3, EG3, E3, C4_, C4_n, K5, C6, W7_]
theorem leq_x4_1 {n : Nat} {a0 : Form} {a1 : Form} {i_4 : Nat} {v5 : Int} {q5 : Rat} {v6 : Int} {q6 : Rat} (C1 : (i_4 : Int) < (a0.1.length : Int)) (E2 : a0.1[i_4]? = some (v5, q5)) (E3 : a1.1[i_4]? = some (v6, q6)) (C4 : ¬ v5 = v6) :
    Leave 0 (exec Tryz.prog (tab (n + 2)) 0 52 (livesOf 35) big leq_C4) (livesOf 35 (outOf 4)) (leq_h4 a0 a1 i_4) (.ret) (leq_o4a ) := by
  have C1_ : i_4 < a0.1.length := by omega
  obtain ⟨EL2, EG2⟩ := List.getElem?_eq_some_iff.1 E2
  obtain ⟨EL3, EG3⟩ := List.getElem?_eq_some_iff.1 E3
  have C4_ : (v5 == v6) = false := by simpa using C4
  have C4_n : (v5 != v6) = true := by simpa using C4
  unfold Leave
  simp +decide [leq_h4, loopsOf, Tryz.f35, leq_o4a, leq_C4, C1, C1_, EL2, EG2, E2, EL3, EG3, E3, C4_, C4_n]
theorem leq_x4_2 {n : Nat} {a0 : Form} {a1 : Form} {i_4 : Nat} {v5 : Int} {q5 : Rat} {v6 : Int} {q6 : Rat} {r4 : Bool} (C1 : (i_4 : Int) < (a0.1.length : Int)) (E2 : a0.1[i_4]? = some (v5, q5)) (E3 : a1.1[i_4]? = some (v6, q6)) (C4 : v5 = v6) (K5 : run (n + 1) 85 [ratV q5, ratV q6] = some (.lit (.bool r4))) (C6 : r4 = false) :
    Leave 0 (exec Tryz.prog (tab (n + 2)) 0 52 (livesOf 35) big leq_C4) (livesOf 35 (outOf 4)) (leq_h4 a0 a1 i_4) (.ret) (leq_o4a ) := by
  have C1_ : i_4 < a0.1.length := by omega
  obtain ⟨EL2, EG2⟩ := List.getElem?_eq_some_iff.1 E2
  obtain ⟨EL3, EG3⟩ := List.getElem?_eq_some_iff.1 E3
  have C4_ : (v5 == v6) = true := by rw [C4]; simp
  have C4_n : (v5 != v6) = false := by rw [C4]; simp
  simp only [ratV] at K5
  unfold Leave
  simp +decide [leq_h4, loopsOf, Tryz.f35, leq_o4a, leq_C4, C1, C1_, EL2, EG2, E2, EL3, EG3, E3, C4_, C4_n, K5, C6]
theorem leq_x4_3 {n : Nat} {a0 : Form} {a1 : Form} {i_4 : Nat} (C1 : ¬ (i_4 : Int) < (a0.1.length : Int)) :
    Leave 0 (exec Tryz.prog (tab (n + 2)) 0 52 (livesOf 35) big leq_C4) (livesOf 35 (outOf 4)) (leq_h4 a0 a1 i_4) (.exit 0) (leq_o4b ) := by
  have C1_ : ¬ i_4 < a0.1.length := by omega
  unfold Leave
  simp +decide [leq_h4, loopsOf, Tryz.f35, leq_o4b, leq_C4, C1, C1_]
theorem leq_f1 {n : Nat} {a0 : Form} {a1 : Form} (C1 : ¬ (a0.1.length : Int) = (a1.1.length : Int)) :
    run (n + 2) 35 [formV a0, formV a1] = some (.lit (.bool false)) := by
  have C1_ : ((a0.1.length : Int) == (a1.1.length : Int)) = false := by simpa using C1
  have C1_n : ((a0.1.length : Int) != (a1.1.length : Int)) = true := by simpa using C1
  unfold run fnP
  simp +decide [Tryz.f35, C1_, C1_n]
theorem leq_f2 {n : Nat} {a0 : Form} {a1 : Form} {r : Bool} (C1 : (a0.1.length : Int) = (a1.1.length : Int)) (K2 : run (n + 1) 85 [ratV a0.2, ratV a1.2] = some (.lit (.bool r))) (C3 : r = false) :
    run (n + 2) 35 [formV a0, formV a1] = some (.lit (.bool false)) := by
  have C1_ : ((a0.1.length : Int) == (a1.1.length : Int)) = true := by rw [C1]; simp
  have C1_n : ((a0.1.length : Int) != (a1.1.length : Int)) = false := by rw [C1]; simp
  simp only [ratV] at K2
  unfold run fnP
  simp +decide [Tryz.f35, C1_, C1_n, K2, C3]
theorem leq_f3 {n : Nat} {a0 : Form} {a1 : Form} {r : Bool} (C1 : (a0.1.length : Int) = (a1.1.length : Int)) (K2 : run (n + 1) 85 [ratV a0.2, ratV a1.2] = some (.lit (.bool r))) (C3 : r = true) (L4 : loopG Tryz.prog (tab (n + 2)) 0 52 (livesOf 35) 4 leq_C4 (leq_h4 a0 a1 0) = some (.ret, leq_o4a )) :
    run (n + 2) 35 [formV a0, formV a1] = some (.lit (.bool false)) := by
  have C1_ : ((a0.1.length : Int) == (a1.1.length : Int)) = true := by rw [C1]; simp
  have C1_n : ((a0.1.length : Int) != (a1.1.length : Int)) = false := by rw [C1]; simp
  simp only [ratV] at K2
  unfold run fnP
  simp +decide [Tryz.f35, C1_, C1_n, K2, C3]
  rw [loopX_G (C' := leq_C4) (e := (leq_h4 a0 a1 0)) ?_ ?_, L4]
  rotate_left
  · kernel_rfl
  · simp +decide [leq_h4, C1_, C1_n, K2, C3]
  simp +decide [leq_o4a, C1_, C1_n, K2, C3]
theorem leq_f4 {n : Nat} {a0 : Form} {a1 : Form} {r : Bool} (C1 : (a0.1.length : Int) = (a1.1.length : Int)) (K2 : run (n + 1) 85 [ratV a0.2, ratV a1.2] = some (.lit (.bool r))) (C3 : r = true) (L4 : loopG Tryz.prog (tab (n + 2)) 0 52 (livesOf 35) 4 leq_C4 (leq_h4 a0 a1 0) = some (.exit 0, leq_o4b )) :
    run (n + 2) 35 [formV a0, formV a1] = some (.lit (.bool true)) := by
  have C1_ : ((a0.1.length : Int) == (a1.1.length : Int)) = true := by rw [C1]; simp
  have C1_n : ((a0.1.length : Int) != (a1.1.length : Int)) = false := by rw [C1]; simp
  simp only [ratV] at K2
  unfold run fnP
  simp +decide [Tryz.f35, C1_, C1_n, K2, C3]
  rw [loopX_G (C' := leq_C4) (e := (leq_h4 a0 a1 0)) ?_ ?_, L4]
  rotate_left
  · kernel_rfl
  · simp +decide [leq_h4, C1_, C1_n, K2, C3]
  simp +decide [leq_o4b, C1_, C1_n, K2, C3]
end Go.Proofs.YthkkmokbjmempaaGreatDoor
