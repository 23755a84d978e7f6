/- Walks: relucertlaw07.LinearAdd@012^, relucertlaw07.LinearAdd^. -/
import Derived.Test.YthkkmokbjmempaaGreatDoorUe
import Derived.Test.YthkkmokbjmempaaGreatDoorAX
set_option linter.all false
set_option linter.all false
set_option maxRecDepth 100000
set_option maxHeartbeats 6400000
namespace Go.Proofs.YthkkmokbjmempaaGreatDoor
open Go.RowKit

/-! relucertlaw07.LinearAdd, level 13 -/
noncomputable def lART (n : Nat) : FuncId → Option Orc := ext (tab (n + 13)) 16 (.pure awG)
theorem lART_ok (n : Nat) : OrcOk Tryz.prog (lART n) := (tab_ok (n + 13)).extP (by kernel_rfl) con_awake
noncomputable def lAR (n : Nat) (args : List AV) : Option AV := fnP Tryz.prog (lART n) (livesOf 7) big (fnOf 7) args
theorem lAR_con {n : Nat} {args : List AV} {r : AV} (h : lAR n args = some r) : Con Tryz.prog 7 args r :=
  con_of (lART_ok n) mixed (plain_fn (by kernel_rfl)) (body_some (by kernel_rfl) (plain_fn (by kernel_rfl))) h
theorem lAR_aw (n : Nat) : lART n 16 = some (.pure awG) := by unfold lART ext; rw [if_pos rfl]
theorem lAR_l17 (n : Nat) : lART n 17 = some (.pure (run (n + 12) 17)) := by unfold lART ext; rw [if_neg (by decide)]; exact tb_17 _
theorem lAR_l22 (n : Nat) : lART n 22 = some (.pure (run (n + 12) 22)) := by unfold lART ext; rw [if_neg (by decide)]; exact tb_22 _
theorem lAR_l24 (n : Nat) : lART n 24 = some (.pure (run (n + 12) 24)) := by unfold lART ext; rw [if_neg (by decide)]; exact tb_24 _
theorem lAR_l26 (n : Nat) : lART n 26 = some (.pure (run (n + 12) 26)) := by unfold lART ext; rw [if_neg (by decide)]; exact tb_26 _
theorem lAR_l28 (n : Nat) : lART n 28 = some (.pure (run (n + 12) 28)) := by unfold lART ext; rw [if_neg (by decide)]; exact tb_28 _
theorem lAR_l29 (n : Nat) : lART n 29 = some (.pure (run (n + 12) 29)) := by unfold lART ext; rw [if_neg (by decide)]; exact tb_29 _
theorem lAR_l30 (n : Nat) : lART n 30 = some (.pure fSame) := by unfold lART ext; rw [if_neg (by decide)]; exact tab_num rfl _
theorem lAR_l31 (n : Nat) : lART n 31 = some (.pure (run (n + 12) 31)) := by unfold lART ext; rw [if_neg (by decide)]; exact tb_31 _
theorem lAR_l32 (n : Nat) : lART n 32 = some (.pure (run (n + 12) 32)) := by unfold lART ext; rw [if_neg (by decide)]; exact tb_32 _
theorem lAR_l33 (n : Nat) : lART n 33 = some (.pure (run (n + 12) 33)) := by unfold lART ext; rw [if_neg (by decide)]; exact tb_33 _
theorem lAR_l34 (n : Nat) : lART n 34 = some (.pure (run (n + 12) 34)) := by unfold lART ext; rw [if_neg (by decide)]; exact tb_34 _
theorem lAR_l35 (n : Nat) : lART n 35 = some (.pure (run (n + 12) 35)) := by unfold lART ext; rw [if_neg (by decide)]; exact tb_35 _
theorem lAR_l36 (n : Nat) : lART n 36 = some (.pure fAdd) := by unfold lART ext; rw [if_neg (by decide)]; exact tab_num rfl _
theorem lAR_f1 {n : Nat} {a0 : FormR} {a1 : FormR} {a2 : List Raw} {r : Bool} (K1 : run (n + 12) 17 [.agg [.sl 4 (a0.1.map termRC), .lit (.bool a0.2.s), natA a0.2.l1, natA a0.2.l2]] = some (.lit (.bool r))) (C2 : r = false) :
    lAR n [.agg [.sl 4 (a0.1.map termRC), .lit (.bool a0.2.s), natA a0.2.l1, natA a0.2.l2], .agg [.sl 4 (a1.1.map termRC), .lit (.bool a1.2.s), natA a1.2.l1, natA a1.2.l2], .sl 3 (a2.map rawC)] = some (.lit (.bool true)) := by
  unfold lAR fnP
  simp +decide [Tryz.f7, K1, C2, lAR_aw, awG, lAR_l17, lAR_l22, lAR_l24, lAR_l26, lAR_l28, lAR_l29, lAR_l30, lAR_l31, lAR_l32, lAR_l33, lAR_l34, lAR_l35, lAR_l36]
theorem lAR_f2 {n : Nat} {a0 : FormR} {a1 : FormR} {a2 : List Raw} {r : Bool} {r2 : Bool} (K1 : run (n + 12) 17 [.agg [.sl 4 (a0.1.map termRC), .lit (.bool a0.2.s), natA a0.2.l1, natA a0.2.l2]] = some (.lit (.bool r))) (C2 : r = true) (K3 : run (n + 12) 17 [.agg [.sl 4 (a1.1.map termRC), .lit (.bool a1.2.s), natA a1.2.l1, natA a1.2.l2]] = some (.lit (.bool r2))) (C4 : r2 = false) :
    lAR n [.agg [.sl 4 (a0.1.map termRC), .lit (.bool a0.2.s), natA a0.2.l1, natA a0.2.l2], .agg [.sl 4 (a1.1.map termRC), .lit (.bool a1.2.s), natA a1.2.l1, natA a1.2.l2], .sl 3 (a2.map rawC)] = some (.lit (.bool true)) := by
  unfold lAR fnP
  simp +decide [Tryz.f7, K1, C2, K3, C4, lAR_aw, awG, lAR_l17, lAR_l22, lAR_l24, lAR_l26, lAR_l28, lAR_l29, lAR_l30, lAR_l31, lAR_l32, lAR_l33, lAR_l34, lAR_l35, lAR_l36]
theorem lAR_f3 {n : Nat} {a0 : FormR} {a1 : FormR} {a2 : List Raw} {r : Bool} {r2 : Bool} {r3 : Bool} (K1 : run (n + 12) 17 [.agg [.sl 4 (a0.1.map termRC), .lit (.bool a0.2.s), natA a0.2.l1, natA a0.2.l2]] = some (.lit (.bool r))) (C2 : r = true) (K3 : run (n + 12) 17 [.agg [.sl 4 (a1.1.map termRC), .lit (.bool a1.2.s), natA a1.2.l1, natA a1.2.l2]] = some (.lit (.bool r2))) (C4 : r2 = true) (K5 : run (n + 12) 24 [.sl 3 (a2.map rawC)] = some (.lit (.bool r3))) (C6 : r3 = false) :
    lAR n [.agg [.sl 4 (a0.1.map termRC), .lit (.bool a0.2.s), natA a0.2.l1, natA a0.2.l2], .agg [.sl 4 (a1.1.map termRC), .lit (.bool a1.2.s), natA a1.2.l1, natA a1.2.l2], .sl 3 (a2.map rawC)] = some (.lit (.bool true)) := by
  unfold lAR fnP
  simp +decide [Tryz.f7, K1, C2, K3, C4, K5, C6, lAR_aw, awG, lAR_l17, lAR_l22, lAR_l24, lAR_l26, lAR_l28, lAR_l29, lAR_l30, lAR_l31, lAR_l32, lAR_l33, lAR_l34, lAR_l35, lAR_l36]
/-! relucertlaw07.LinearAdd, level 13 -/
noncomputable def lACT (n : Nat) : FuncId → Option Orc := ext (tab (n + 13)) 16 (.pure awG)
theorem lACT_ok (n : Nat) : OrcOk Tryz.prog (lACT n) := (tab_ok (n + 13)).extP (by kernel_rfl) con_awake
noncomputable def lAC (n : Nat) (args : List AV) : Option AV := fnP Tryz.prog (lACT n) (livesOf 7) big (fnOf 7) args
theorem lAC_con {n : Nat} {args : List AV} {r : AV} (h : lAC n args = some r) : Con Tryz.prog 7 args r :=
  con_of (lACT_ok n) mixed (plain_fn (by kernel_rfl)) (body_some (by kernel_rfl) (plain_fn (by kernel_rfl))) h
theorem lAC_aw (n : Nat) : lACT n 16 = some (.pure awG) := by unfold lACT ext; rw [if_pos rfl]
theorem lAC_l17 (n : Nat) : lACT n 17 = some (.pure (run (n + 12) 17)) := by unfold lACT ext; rw [if_neg (by decide)]; exact tb_17 _
theorem lAC_l22 (n : Nat) : lACT n 22 = some (.pure (run (n + 12) 22)) := by unfold lACT ext; rw [if_neg (by decide)]; exact tb_22 _
theorem lAC_l24 (n : Nat) : lACT n 24 = some (.pure (run (n + 12) 24)) := by unfold lACT ext; rw [if_neg (by decide)]; exact tb_24 _
theorem lAC_l26 (n : Nat) : lACT n 26 = some (.pure (run (n + 12) 26)) := by unfold lACT ext; rw [if_neg (by decide)]; exact tb_26 _
theorem lAC_l28 (n : Nat) : lACT n 28 = some (.pure (run (n + 12) 28)) := by unfold lACT ext; rw [if_neg (by decide)]; exact tb_28 _
theorem lAC_l29 (n : Nat) : lACT n 29 = some (.pure (run (n + 12) 29)) := by unfold lACT ext; rw [if_neg (by decide)]; exact tb_29 _
theorem lAC_l30 (n : Nat) : lACT n 30 = some (.pure fSame) := by unfold lACT ext; rw [if_neg (by decide)]; exact tab_num rfl _
theorem lAC_l31 (n : Nat) : lACT n 31 = some (.pure (run (n + 12) 31)) := by unfold lACT ext; rw [if_neg (by decide)]; exact tb_31 _
theorem lAC_l32 (n : Nat) : lACT n 32 = some (.pure (run (n + 12) 32)) := by unfold lACT ext; rw [if_neg (by decide)]; exact tb_32 _
theorem lAC_l33 (n : Nat) : lACT n 33 = some (.pure (run (n + 12) 33)) := by unfold lACT ext; rw [if_neg (by decide)]; exact tb_33 _
theorem lAC_l34 (n : Nat) : lACT n 34 = some (.pure (run (n + 12) 34)) := by unfold lACT ext; rw [if_neg (by decide)]; exact tb_34 _
theorem lAC_l35 (n : Nat) : lACT n 35 = some (.pure (run (n + 12) 35)) := by unfold lACT ext; rw [if_neg (by decide)]; exact tb_35 _
theorem lAC_l36 (n : Nat) : lACT n 36 = some (.pure fAdd) := by unfold lACT ext; rw [if_neg (by decide)]; exact tab_num rfl _
theorem lAC_f1 {n : Nat} {a0 : Form} {a1 : Form} {a2 : List Rat} {r : Bool} (K1 : run (n + 12) 17 [formV a0] = some (.lit (.bool r))) (C2 : r = false) :
    lAC n [formV a0, formV a1, .sl 3 (a2.map ratC)] = some (.lit (.bool true)) := by
  simp only [formV] at K1
  unfold lAC fnP
  simp +decide [Tryz.f7, K1, C2, lAC_aw, awG, lAC_l17, lAC_l22, lAC_l24, lAC_l26, lAC_l28, lAC_l29, lAC_l30, lAC_l31, lAC_l32, lAC_l33, lAC_l34, lAC_l35, lAC_l36]
theorem lAC_f2 {n : Nat} {a0 : Form} {a1 : Form} {a2 : List Rat} {r : Bool} {r2 : Bool} (K1 : run (n + 12) 17 [formV a0] = some (.lit (.bool r))) (C2 : r = true) (K3 : run (n + 12) 17 [formV a1] = some (.lit (.bool r2))) (C4 : r2 = false) :
    lAC n [formV a0, formV a1, .sl 3 (a2.map ratC)] = some (.lit (.bool true)) := by
  simp only [formV] at K1
  simp only [formV] at K3
  unfold lAC fnP
  simp +decide [Tryz.f7, K1, C2, K3, C4, lAC_aw, awG, lAC_l17, lAC_l22, lAC_l24, lAC_l26, lAC_l28, lAC_l29, lAC_l30, lAC_l31, lAC_l32, lAC_l33, lAC_l34, lAC_l35, lAC_l36]
theorem lAC_f3 {n : Nat} {a0 : Form} {a1 : Form} {a2 : List Rat} {r : Bool} {r2 : Bool} {r3 : Bool} (K1 : run (n + 12) 17 [formV a0] = some (.lit (.bool r))) (C2 : r = true) (K3 : run (n + 12) 17 [formV a1] = some (.lit (.bool r2))) (C4 : r2 = true) (K5 : run (n + 12) 24 [.sl 3 (a2.map ratC)] = some (.lit (.bool r3))) (C6 : r3 = false) :
    lAC n [formV a0, formV a1, .sl 3 (a2.map ratC)] = some (.lit (.bool true)) := by
  simp only [formV] at K1
  simp only [formV] at K3
  unfold lAC fnP
  simp +decide [Tryz.f7, K1, C2, K3, C4, K5, C6, lAC_aw, awG, lAC_l17, lAC_l22, lAC_l24, lAC_l26, lAC_l28, lAC_l29, lAC_l30, lAC_l31, lAC_l32, lAC_l33, lAC_l34, lAC_l35, lAC_l36]
theorem lAC_f8 {n : Nat} {a0 : Form} {a1 : Form} {a2 : List Rat} {r : Bool} {r2 : Bool} {r3 : Bool} {r4 : Form} {r5 : Form} {r6 : Form} {r7 : Form} {r8 : Form} {r9 : Bool} {r10 : Form} {r11 : Bool} {r12 : Bool} {r13 : Bool} {r14 : Bool} {r15 : Rat} {r16 : Int} {r17 : Rat} {r18 : Int} (K1 : run (n + 12) 17 [formV a0] = some (.lit (.bool r))) (C2 : r = true) (K3 : run (n + 12) 17 [formV a1] = some (.lit (.bool r2))) (C4 : r2 = true) (K5 : run (n + 12) 24 [.sl 3 (a2.map ratC)] = some (.lit (.bool r3))) (C6 : r3 = true) (K7 : run (n + 12) 26 [formV a0] = some (formV r4)) (K8 : run (n + 12) 26 [formV a1] = some (formV r5)) (K9 : run (n + 12) 31 [formV r4, formV r5] = some (formV r6)) (K10 : run (n + 12) 32 [formV a0, formV a1] = some (formV r7)) (K11 : run (n + 12) 33 [formV a0, formV a1] = some (formV r8)) (K12 : run (n + 12) 22 [formV r6, formV r8] = some (.lit (.bool r9))) (C13 : r9 = true) (K14 : run (n + 12) 34 [formV a0, formV a1] = some (formV r10)) (K15 : run (n + 12) 22 [formV r7, formV r10] = some (.lit (.bool r11))) (C16 : r11 = true) (K17 : run (n + 12) 35 [formV a0, formV a1] = some (.lit (.bool r12))) (K18 : run (n + 12) 22 [formV a0, formV a1] = some (.lit (.bool r13))) (C19 : r12 = r13) (K20 : run (n + 12) 35 [formV a0, formV r4] = some (.lit (.bool r14))) (C21 : r14 = true) (K22 : run (n + 12) 28 [formV a0, .sl 3 (a2.map ratC)] = some (.tup [ratV r15, .lit (.int .i64 r16)])) (K23 : run (n + 12) 28 [formV a1, .sl 3 (a2.map ratC)] = some (.tup [ratV r17, .lit (.int .i64 r18)])) (C24 : ¬ r16 = 0) :
    lAC n [formV a0, formV a1, .sl 3 (a2.map ratC)] = some (.lit (.bool true)) := by
  simp only [formV] at K1
  simp only [formV] at K3
  simp only [formV] at K7
  simp only [formV] at K8
  simp only [formV] at K9
  simp only [formV] at K10
  simp only [formV] at K11
  simp only [formV] at K12
  simp only [formV] at K14
  simp only [formV] at K15
  simp only [formV] at K17
  simp only [formV] at K18
  have C19_ : (r12 == r13) = true := by rw [C19]; simp
  have C19_n : (r12 != r13) = false := by rw [C19]; simp
  simp only [formV] at K20
  simp only [ratV, formV] at K22
  simp only [ratV, formV] at K23
  have C24_ : (r16 == 0) = false := by simpa using C24
  have C24_n : (r16 != 0) = true := by simpa using C24
  unfold lAC fnP
  simp +decide [Tryz.f7, K1, C2, K3, C4, K5, C6, K7, K8, K9, K10, K11, K12, C13, K14, K15, C16, K17, K18, C19_, C19_n, C19, K20, C21, K22, K23, C24_, C24_n, lAC_aw, awG, lAC_l17, lAC_l22, lAC_l24, lAC_l26, lAC_l28, lAC_l29, lAC_l30, lAC_l31, lAC_l32, lAC_l33, lAC_l34, lAC_l35, lAC_l36]
theorem lAC_f9 {n : Nat} {a0 : Form} {a1 : Form} {a2 : List Rat} {r : Bool} {r2 : Bool} {r3 : Bool} {r4 : Form} {r5 : Form} {r6 : Form} {r7 : Form} {r8 : Form} {r9 : Bool} {r10 : Form} {r11 : Bool} {r12 : Bool} {r13 : Bool} {r14 : Bool} {r15 : Rat} {r16 : Int} {r17 : Rat} {r18 : Int} (K1 : run (n + 12) 17 [formV a0] = some (.lit (.bool r))) (C2 : r = true) (K3 : run (n + 12) 17 [formV a1] = some (.lit (.bool r2))) (C4 : r2 = true) (K5 : run (n + 12) 24 [.sl 3 (a2.map ratC)] = some (.lit (.bool r3))) (C6 : r3 = true) (K7 : run (n + 12) 26 [formV a0] = some (formV r4)) (K8 : run (n + 12) 26 [formV a1] = some (formV r5)) (K9 : run (n + 12) 31 [formV r4, formV r5] = some (formV r6)) (K10 : run (n + 12) 32 [formV a0, formV a1] = some (formV r7)) (K11 : run (n + 12) 33 [formV a0, formV a1] = some (formV r8)) (K12 : run (n + 12) 22 [formV r6, formV r8] = some (.lit (.bool r9))) (C13 : r9 = true) (K14 : run (n + 12) 34 [formV a0, formV a1] = some (formV r10)) (K15 : run (n + 12) 22 [formV r7, formV r10] = some (.lit (.bool r11))) (C16 : r11 = true) (K17 : run (n + 12) 35 [formV a0, formV a1] = some (.lit (.bool r12))) (K18 : run (n + 12) 22 [formV a0, formV a1] = some (.lit (.bool r13))) (C19 : r12 = r13) (K20 : run (n + 12) 35 [formV a0, formV r4] = some (.lit (.bool r14))) (C21 : r14 = true) (K22 : run (n + 12) 28 [formV a0, .sl 3 (a2.map ratC)] = some (.tup [ratV r15, .lit (.int .i64 r16)])) (K23 : run (n + 12) 28 [formV a1, .sl 3 (a2.map ratC)] = some (.tup [ratV r17, .lit (.int .i64 r18)])) (C24 : r16 = 0) (C25 : ¬ r18 = 0) :
    lAC n [formV a0, formV a1, .sl 3 (a2.map ratC)] = some (.lit (.bool true)) := by
  simp only [formV] at K1
  simp only [formV] at K3
  simp only [formV] at K7
  simp only [formV] at K8
  simp only [formV] at K9
  simp only [formV] at K10
  simp only [formV] at K11
  simp only [formV] at K12
  simp only [formV] at K14
  simp only [formV] at K15
  simp only [formV] at K17
  simp only [formV] at K18
  have C19_ : (r12 == r13) = true := by rw [C19]; simp
  have C19_n : (r12 != r13) = false := by rw [C19]; simp
  simp only [formV] at K20
  simp only [ratV, formV] at K22
  simp only [ratV, formV] at K23
  have C24_ : (r16 == 0) = true := by rw [C24]; simp
  have C24_n : (r16 != 0) = false := by rw [C24]; simp
  have C25_ : (r18 == 0) = false := by simpa using C25
  have C25_n : (r18 != 0) = true := by simpa using C25
  unfold lAC fnP
  simp +decide [Tryz.f7, K1, C2, K3, C4, K5, C6, K7, K8, K9, K10, K11, K12, C13, K14, K15, C16, K17, K18, C19_, C19_n, C19, K20, C21, K22, K23, C24_, C24_n, C25_, C25_n, lAC_aw, awG, lAC_l17, lAC_l22, lAC_l24, lAC_l26, lAC_l28, lAC_l29, lAC_l30, lAC_l31, lAC_l32, lAC_l33, lAC_l34, lAC_l35, lAC_l36]
theorem lAC_f10 {n : Nat} {a0 : Form} {a1 : Form} {a2 : List Rat} {r : Bool} {r2 : Bool} {r3 : Bool} {r4 : Form} {r5 : Form} {r6 : Form} {r7 : Form} {r8 : Form} {r9 : Bool} {r10 : Form} {r11 : Bool} {r12 : Bool} {r13 : Bool} {r14 : Bool} {r15 : Rat} {r16 : Int} {r17 : Rat} {r18 : Int} {r19 : Rat} {r20 : Int} (K1 : run (n + 12) 17 [formV a0] = some (.lit (.bool r))) (C2 : r = true) (K3 : run (n + 12) 17 [formV a1] = some (.lit (.bool r2))) (C4 : r2 = true) (K5 : run (n + 12) 24 [.sl 3 (a2.map ratC)] = some (.lit (.bool r3))) (C6 : r3 = true) (K7 : run (n + 12) 26 [formV a0] = some (formV r4)) (K8 : run (n + 12) 26 [formV a1] = some (formV r5)) (K9 : run (n + 12) 31 [formV r4, formV r5] = some (formV r6)) (K10 : run (n + 12) 32 [formV a0, formV a1] = some (formV r7)) (K11 : run (n + 12) 33 [formV a0, formV a1] = some (formV r8)) (K12 : run (n + 12) 22 [formV r6, formV r8] = some (.lit (.bool r9))) (C13 : r9 = true) (K14 : run (n + 12) 34 [formV a0, formV a1] = some (formV r10)) (K15 : run (n + 12) 22 [formV r7, formV r10] = some (.lit (.bool r11))) (C16 : r11 = true) (K17 : run (n + 12) 35 [formV a0, formV a1] = some (.lit (.bool r12))) (K18 : run (n + 12) 22 [formV a0, formV a1] = some (.lit (.bool r13))) (C19 : r12 = r13) (K20 : run (n + 12) 35 [formV a0, formV r4] = some (.lit (.bool r14))) (C21 : r14 = true) (K22 : run (n + 12) 28 [formV a0, .sl 3 (a2.map ratC)] = some (.tup [ratV r15, .lit (.int .i64 r16)])) (K23 : run (n + 12) 28 [formV a1, .sl 3 (a2.map ratC)] = some (.tup [ratV r17, .lit (.int .i64 r18)])) (C24 : r16 = 0) (C25 : r18 = 0) (K26 : run (n + 12) 29 [formV r6, .sl 3 (a2.map ratC)] = some (.tup [ratV r19, .lit (.int .i64 r20)])) (C27 : r20 = 0) (B28a : H r15 ≤ 17179869184) (B28b : H r17 ≤ 17179869184) (B29a : H r19 ≤ 17179869184) (B29b : H (r15 + r17) ≤ 17179869184) :
    lAC n [formV a0, formV a1, .sl 3 (a2.map ratC)] = some (.lit (.bool (decide (r19 = (r15 + r17))))) := by
  simp only [formV] at K1
  simp only [formV] at K3
  simp only [formV] at K7
  simp only [formV] at K8
  simp only [formV] at K9
  simp only [formV] at K10
  simp only [formV] at K11
  simp only [formV] at K12
  simp only [formV] at K14
  simp only [formV] at K15
  simp only [formV] at K17
  simp only [formV] at K18
  have C19_ : (r12 == r13) = true := by rw [C19]; simp
  have C19_n : (r12 != r13) = false := by rw [C19]; simp
  simp only [formV] at K20
  simp only [ratV, formV] at K22
  simp only [ratV, formV] at K23
  have C24_ : (r16 == 0) = true := by rw [C24]; simp
  have C24_n : (r16 != 0) = false := by rw [C24]; simp
  have C25_ : (r18 == 0) = true := by rw [C25]; simp
  have C25_n : (r18 != 0) = false := by rw [C25]; simp
  simp only [ratV, formV] at K26
  have C27_ : (r20 == 0) = true := by rw [C27]; simp
  have C27_n : (r20 != 0) = false := by rw [C27]; simp
  have K28 := r_add (p := r15) (q := r17) B28a B28b
  have K29 := r_same (p := r19) (q := r15 + r17) B29a B29b
  unfold lAC fnP
  simp +decide [Tryz.f7, K1, C2, K3, C4, K5, C6, K7, K8, K9, K10, K11, K12, C13, K14, K15, C16, K17, K18, C19_, C19_n, C19, K20, C21, K22, K23, C24_, C24_n, C25_, C25_n, K26, C27_, C27_n, K28, K29, lAC_aw, awG, lAC_l17, lAC_l22, lAC_l24, lAC_l26, lAC_l28, lAC_l29, lAC_l30, lAC_l31, lAC_l32, lAC_l33, lAC_l34, lAC_l35, lAC_l36]
end Go.Proofs.YthkkmokbjmempaaGreatDoor
