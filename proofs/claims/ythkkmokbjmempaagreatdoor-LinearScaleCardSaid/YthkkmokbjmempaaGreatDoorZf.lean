/- Walks: relucertlaw07.LinearScale@012^, relucertlaw07.LinearScale^. -/
import Derived.Test.YthkkmokbjmempaaGreatDoorUe
import Derived.Test.YthkkmokbjmempaaGreatDoorAX
set_option linter.all false
set_option linter.all false
set_option maxRecDepth 100000
set_option maxHeartbeats 6400000
namespace Go.Proofs.YthkkmokbjmempaaGreatDoor
open Go.RowKit

/-! relucertlaw07.LinearScale, level 13 -/
noncomputable def lSRT (n : Nat) : FuncId → Option Orc := ext (tab (n + 13)) 16 (.pure awG)
theorem lSRT_ok (n : Nat) : OrcOk Tryz.prog (lSRT n) := (tab_ok (n + 13)).extP (by kernel_rfl) con_awake
noncomputable def lSR (n : Nat) (args : List AV) : Option AV := fnP Tryz.prog (lSRT n) (livesOf 8) big (fnOf 8) args
theorem lSR_con {n : Nat} {args : List AV} {r : AV} (h : lSR n args = some r) : Con Tryz.prog 8 args r :=
  con_of (lSRT_ok n) mixed (plain_fn (by kernel_rfl)) (body_some (by kernel_rfl) (plain_fn (by kernel_rfl))) h
theorem lSR_aw (n : Nat) : lSRT n 16 = some (.pure awG) := by unfold lSRT ext; rw [if_pos rfl]
theorem lSR_l17 (n : Nat) : lSRT n 17 = some (.pure (run (n + 12) 17)) := by unfold lSRT ext; rw [if_neg (by decide)]; exact tb_17 _
theorem lSR_l22 (n : Nat) : lSRT n 22 = some (.pure (run (n + 12) 22)) := by unfold lSRT ext; rw [if_neg (by decide)]; exact tb_22 _
theorem lSR_l24 (n : Nat) : lSRT n 24 = some (.pure (run (n + 12) 24)) := by unfold lSRT ext; rw [if_neg (by decide)]; exact tb_24 _
theorem lSR_l26 (n : Nat) : lSRT n 26 = some (.pure (run (n + 12) 26)) := by unfold lSRT ext; rw [if_neg (by decide)]; exact tb_26 _
theorem lSR_l28 (n : Nat) : lSRT n 28 = some (.pure (run (n + 12) 28)) := by unfold lSRT ext; rw [if_neg (by decide)]; exact tb_28 _
theorem lSR_l29 (n : Nat) : lSRT n 29 = some (.pure (run (n + 12) 29)) := by unfold lSRT ext; rw [if_neg (by decide)]; exact tb_29 _
theorem lSR_l30 (n : Nat) : lSRT n 30 = some (.pure fSame) := by unfold lSRT ext; rw [if_neg (by decide)]; exact tab_num rfl _
theorem lSR_l37 (n : Nat) : lSRT n 37 = some (.pure (run (n + 12) 37)) := by unfold lSRT ext; rw [if_neg (by decide)]; exact tb_37 _
theorem lSR_l38 (n : Nat) : lSRT n 38 = some (.pure (run (n + 12) 38)) := by unfold lSRT ext; rw [if_neg (by decide)]; exact tb_38 _
theorem lSR_l39 (n : Nat) : lSRT n 39 = some (.pure fMul) := by unfold lSRT ext; rw [if_neg (by decide)]; exact tab_num rfl _
theorem lSR_f1 {n : Nat} {a0 : FormR} {a1 : Raw} {a2 : List Raw} {r : Bool} (K1 : run (n + 12) 17 [.agg [.sl 4 (a0.1.map termRC), .lit (.bool a0.2.s), natA a0.2.l1, natA a0.2.l2]] = some (.lit (.bool r))) (C2 : r = false) :
    lSR n [.agg [.sl 4 (a0.1.map termRC), .lit (.bool a0.2.s), natA a0.2.l1, natA a0.2.l2], .agg [.lit (.bool a1.s), natA a1.l1, natA a1.l2], .sl 3 (a2.map rawC)] = some (.lit (.bool true)) := by
  unfold lSR fnP
  simp +decide [Tryz.f8, K1, C2, lSR_aw, awG, lSR_l17, lSR_l22, lSR_l24, lSR_l26, lSR_l28, lSR_l29, lSR_l30, lSR_l37, lSR_l38, lSR_l39]
theorem lSR_f2 {n : Nat} {a0 : FormR} {a1 : Raw} {a2 : List Raw} {r : Bool} {r2 : Bool} (K1 : run (n + 12) 17 [.agg [.sl 4 (a0.1.map termRC), .lit (.bool a0.2.s), natA a0.2.l1, natA a0.2.l2]] = some (.lit (.bool r))) (C2 : r = true) (K3 : run (n + 12) 24 [.sl 3 (a2.map rawC)] = some (.lit (.bool r2))) (C4 : r2 = false) :
    lSR n [.agg [.sl 4 (a0.1.map termRC), .lit (.bool a0.2.s), natA a0.2.l1, natA a0.2.l2], .agg [.lit (.bool a1.s), natA a1.l1, natA a1.l2], .sl 3 (a2.map rawC)] = some (.lit (.bool true)) := by
  unfold lSR fnP
  simp +decide [Tryz.f8, K1, C2, K3, C4, lSR_aw, awG, lSR_l17, lSR_l22, lSR_l24, lSR_l26, lSR_l28, lSR_l29, lSR_l30, lSR_l37, lSR_l38, lSR_l39]
theorem lSR_f3 {n : Nat} {a0 : FormR} {a1 : Raw} {a2 : List Raw} {r : Bool} {r2 : Bool} {r3 : Bool} (K1 : run (n + 12) 17 [.agg [.sl 4 (a0.1.map termRC), .lit (.bool a0.2.s), natA a0.2.l1, natA a0.2.l2]] = some (.lit (.bool r))) (C2 : r = true) (K3 : run (n + 12) 24 [.sl 3 (a2.map rawC)] = some (.lit (.bool r2))) (C4 : r2 = true) (K5 : run (n + 12) 24 [.sl 3 [[.lit (.bool a1.s), natA a1.l1, natA a1.l2]]] = some (.lit (.bool r3))) (C6 : r3 = false) :
    lSR n [.agg [.sl 4 (a0.1.map termRC), .lit (.bool a0.2.s), natA a0.2.l1, natA a0.2.l2], .agg [.lit (.bool a1.s), natA a1.l1, natA a1.l2], .sl 3 (a2.map rawC)] = some (.lit (.bool true)) := by
  unfold lSR fnP
  simp +decide [Tryz.f8, K1, C2, K3, C4, K5, C6, lSR_aw, awG, lSR_l17, lSR_l22, lSR_l24, lSR_l26, lSR_l28, lSR_l29, lSR_l30, lSR_l37, lSR_l38, lSR_l39]
/-! relucertlaw07.LinearScale, level 13 -/
noncomputable def lSCT (n : Nat) : FuncId → Option Orc := ext (tab (n + 13)) 16 (.pure awG)
theorem lSCT_ok (n : Nat) : OrcOk Tryz.prog (lSCT n) := (tab_ok (n + 13)).extP (by kernel_rfl) con_awake
noncomputable def lSC (n : Nat) (args : List AV) : Option AV := fnP Tryz.prog (lSCT n) (livesOf 8) big (fnOf 8) args
theorem lSC_con {n : Nat} {args : List AV} {r : AV} (h : lSC n args = some r) : Con Tryz.prog 8 args r :=
  con_of (lSCT_ok n) mixed (plain_fn (by kernel_rfl)) (body_some (by kernel_rfl) (plain_fn (by kernel_rfl))) h
theorem lSC_aw (n : Nat) : lSCT n 16 = some (.pure awG) := by unfold lSCT ext; rw [if_pos rfl]
theorem lSC_l17 (n : Nat) : lSCT n 17 = some (.pure (run (n + 12) 17)) := by unfold lSCT ext; rw [if_neg (by decide)]; exact tb_17 _
theorem lSC_l22 (n : Nat) : lSCT n 22 = some (.pure (run (n + 12) 22)) := by unfold lSCT ext; rw [if_neg (by decide)]; exact tb_22 _
theorem lSC_l24 (n : Nat) : lSCT n 24 = some (.pure (run (n + 12) 24)) := by unfold lSCT ext; rw [if_neg (by decide)]; exact tb_24 _
theorem lSC_l26 (n : Nat) : lSCT n 26 = some (.pure (run (n + 12) 26)) := by unfold lSCT ext; rw [if_neg (by decide)]; exact tb_26 _
theorem lSC_l28 (n : Nat) : lSCT n 28 = some (.pure (run (n + 12) 28)) := by unfold lSCT ext; rw [if_neg (by decide)]; exact tb_28 _
theorem lSC_l29 (n : Nat) : lSCT n 29 = some (.pure (run (n + 12) 29)) := by unfold lSCT ext; rw [if_neg (by decide)]; exact tb_29 _
theorem lSC_l30 (n : Nat) : lSCT n 30 = some (.pure fSame) := by unfold lSCT ext; rw [if_neg (by decide)]; exact tab_num rfl _
theorem lSC_l37 (n : Nat) : lSCT n 37 = some (.pure (run (n + 12) 37)) := by unfold lSCT ext; rw [if_neg (by decide)]; exact tb_37 _
theorem lSC_l38 (n : Nat) : lSCT n 38 = some (.pure (run (n + 12) 38)) := by unfold lSCT ext; rw [if_neg (by decide)]; exact tb_38 _
theorem lSC_l39 (n : Nat) : lSCT n 39 = some (.pure fMul) := by unfold lSCT ext; rw [if_neg (by decide)]; exact tab_num rfl _
theorem lSC_f1 {n : Nat} {a0 : Form} {a1 : Rat} {a2 : List Rat} {r : Bool} (K1 : run (n + 12) 17 [formV a0] = some (.lit (.bool r))) (C2 : r = false) :
    lSC n [formV a0, ratV a1, .sl 3 (a2.map ratC)] = some (.lit (.bool true)) := by
  simp only [formV] at K1
  unfold lSC fnP
  simp +decide [Tryz.f8, K1, C2, lSC_aw, awG, lSC_l17, lSC_l22, lSC_l24, lSC_l26, lSC_l28, lSC_l29, lSC_l30, lSC_l37, lSC_l38, lSC_l39]
theorem lSC_f2 {n : Nat} {a0 : Form} {a1 : Rat} {a2 : List Rat} {r : Bool} {r2 : Bool} (K1 : run (n + 12) 17 [formV a0] = some (.lit (.bool r))) (C2 : r = true) (K3 : run (n + 12) 24 [.sl 3 (a2.map ratC)] = some (.lit (.bool r2))) (C4 : r2 = false) :
    lSC n [formV a0, ratV a1, .sl 3 (a2.map ratC)] = some (.lit (.bool true)) := by
  simp only [formV] at K1
  unfold lSC fnP
  simp +decide [Tryz.f8, K1, C2, K3, C4, lSC_aw, awG, lSC_l17, lSC_l22, lSC_l24, lSC_l26, lSC_l28, lSC_l29, lSC_l30, lSC_l37, lSC_l38, lSC_l39]
theorem lSC_f3 {n : Nat} {a0 : Form} {a1 : Rat} {a2 : List Rat} {r : Bool} {r2 : Bool} {r3 : Bool} (K1 : run (n + 12) 17 [formV a0] = some (.lit (.bool r))) (C2 : r = true) (K3 : run (n + 12) 24 [.sl 3 (a2.map ratC)] = some (.lit (.bool r2))) (C4 : r2 = true) (K5 : run (n + 12) 24 [.sl 3 [[.lit (.bool (rawQ a1).s), natA (rawQ a1).l1, natA (rawQ a1).l2]]] = some (.lit (.bool r3))) (C6 : r3 = false) :
    lSC n [formV a0, ratV a1, .sl 3 (a2.map ratC)] = some (.lit (.bool true)) := by
  simp only [formV] at K1
  unfold lSC fnP
  simp +decide [Tryz.f8, K1, C2, K3, C4, K5, C6, lSC_aw, awG, lSC_l17, lSC_l22, lSC_l24, lSC_l26, lSC_l28, lSC_l29, lSC_l30, lSC_l37, lSC_l38, lSC_l39]
theorem lSC_f5 {n : Nat} {a0 : Form} {a1 : Rat} {a2 : List Rat} {r : Bool} {r2 : Bool} {r3 : Bool} {r4 : Form} {r5 : Form} {r6 : Rat} {r7 : Int} {r8 : Form} {r9 : Bool} (K1 : run (n + 12) 17 [formV a0] = some (.lit (.bool r))) (C2 : r = true) (K3 : run (n + 12) 24 [.sl 3 (a2.map ratC)] = some (.lit (.bool r2))) (C4 : r2 = true) (K5 : run (n + 12) 24 [.sl 3 [[.lit (.bool (rawQ a1).s), natA (rawQ a1).l1, natA (rawQ a1).l2]]] = some (.lit (.bool r3))) (C6 : r3 = true) (K7 : run (n + 12) 26 [formV a0] = some (formV r4)) (K8 : run (n + 12) 37 [formV r4, ratV a1] = some (formV r5)) (K9 : run (n + 12) 28 [formV a0, .sl 3 (a2.map ratC)] = some (.tup [ratV r6, .lit (.int .i64 r7)])) (K10 : run (n + 12) 38 [formV a0, ratV a1] = some (formV r8)) (K11 : run (n + 12) 22 [formV r5, formV r8] = some (.lit (.bool r9))) (C12 : r9 = true) (C13 : ¬ r7 = 0) :
    lSC n [formV a0, ratV a1, .sl 3 (a2.map ratC)] = some (.lit (.bool true)) := by
  simp only [formV] at K1
  simp only [formV] at K7
  simp only [ratV, formV] at K8
  simp only [ratV, formV] at K9
  simp only [ratV, formV] at K10
  simp only [formV] at K11
  have C13_ : (r7 == 0) = false := by simpa using C13
  have C13_n : (r7 != 0) = true := by simpa using C13
  unfold lSC fnP
  simp +decide [Tryz.f8, K1, C2, K3, C4, K5, C6, K7, K8, K9, K10, K11, C12, C13_, C13_n, lSC_aw, awG, lSC_l17, lSC_l22, lSC_l24, lSC_l26, lSC_l28, lSC_l29, lSC_l30, lSC_l37, lSC_l38, lSC_l39]
theorem lSC_f6 {n : Nat} {a0 : Form} {a1 : Rat} {a2 : List Rat} {r : Bool} {r2 : Bool} {r3 : Bool} {r4 : Form} {r5 : Form} {r6 : Rat} {r7 : Int} {r8 : Form} {r9 : Bool} {r10 : Rat} {r11 : Int} (K1 : run (n + 12) 17 [formV a0] = some (.lit (.bool r))) (C2 : r = true) (K3 : run (n + 12) 24 [.sl 3 (a2.map ratC)] = some (.lit (.bool r2))) (C4 : r2 = true) (K5 : run (n + 12) 24 [.sl 3 [[.lit (.bool (rawQ a1).s), natA (rawQ a1).l1, natA (rawQ a1).l2]]] = some (.lit (.bool r3))) (C6 : r3 = true) (K7 : run (n + 12) 26 [formV a0] = some (formV r4)) (K8 : run (n + 12) 37 [formV r4, ratV a1] = some (formV r5)) (K9 : run (n + 12) 28 [formV a0, .sl 3 (a2.map ratC)] = some (.tup [ratV r6, .lit (.int .i64 r7)])) (K10 : run (n + 12) 38 [formV a0, ratV a1] = some (formV r8)) (K11 : run (n + 12) 22 [formV r5, formV r8] = some (.lit (.bool r9))) (C12 : r9 = true) (C13 : r7 = 0) (K14 : run (n + 12) 29 [formV r5, .sl 3 (a2.map ratC)] = some (.tup [ratV r10, .lit (.int .i64 r11)])) (C15 : r11 = 0) (B16a : H r6 ≤ 17179869184) (B16b : H a1 ≤ 17179869184) (B17a : H r10 ≤ 17179869184) (B17b : H (r6 * a1) ≤ 17179869184) :
    lSC n [formV a0, ratV a1, .sl 3 (a2.map ratC)] = some (.lit (.bool (decide (r10 = (r6 * a1))))) := by
  simp only [formV] at K1
  simp only [formV] at K7
  simp only [ratV, formV] at K8
  simp only [ratV, formV] at K9
  simp only [ratV, formV] at K10
  simp only [formV] at K11
  have C13_ : (r7 == 0) = true := by rw [C13]; simp
  have C13_n : (r7 != 0) = false := by rw [C13]; simp
  simp only [ratV, formV] at K14
  have C15_ : (r11 == 0) = true := by rw [C15]; simp
  have C15_n : (r11 != 0) = false := by rw [C15]; simp
  have K16 := r_mul (p := r6) (q := a1) B16a B16b
  have K17 := r_same (p := r10) (q := r6 * a1) B17a B17b
  unfold lSC fnP
  simp +decide [Tryz.f8, K1, C2, K3, C4, K5, C6, K7, K8, K9, K10, K11, C12, C13_, C13_n, K14, C15_, C15_n, K16, K17, lSC_aw, awG, lSC_l17, lSC_l22, lSC_l24, lSC_l26, lSC_l28, lSC_l29, lSC_l30, lSC_l37, lSC_l38, lSC_l39]
end Go.Proofs.YthkkmokbjmempaaGreatDoor
