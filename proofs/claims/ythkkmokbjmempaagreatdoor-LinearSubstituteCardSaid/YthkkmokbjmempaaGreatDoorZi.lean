/- Walks: relucertlaw07.LinearSubstitute@012^, relucertlaw07.LinearSubstitute^. -/
import Derived.Test.YthkkmokbjmempaaGreatDoorUe
import Derived.Test.YthkkmokbjmempaaGreatDoorAX
set_option linter.all false
set_option linter.all false
set_option maxRecDepth 100000
set_option maxHeartbeats 6400000
namespace Go.Proofs.YthkkmokbjmempaaGreatDoor
open Go.RowKit

/-! relucertlaw07.LinearSubstitute, level 13 -/
noncomputable def lBRT (n : Nat) : FuncId → Option Orc := ext (tab (n + 13)) 16 (.pure awG)
theorem lBRT_ok (n : Nat) : OrcOk Tryz.prog (lBRT n) := (tab_ok (n + 13)).extP (by kernel_rfl) con_awake
noncomputable def lBR (n : Nat) (args : List AV) : Option AV := fnP Tryz.prog (lBRT n) (livesOf 6) big (fnOf 6) args
theorem lBR_con {n : Nat} {args : List AV} {r : AV} (h : lBR n args = some r) : Con Tryz.prog 6 args r :=
  con_of (lBRT_ok n) mixed (plain_fn (by kernel_rfl)) (body_some (by kernel_rfl) (plain_fn (by kernel_rfl))) h
theorem lBR_aw (n : Nat) : lBRT n 16 = some (.pure awG) := by unfold lBRT ext; rw [if_pos rfl]
theorem lBR_l17 (n : Nat) : lBRT n 17 = some (.pure (run (n + 12) 17)) := by unfold lBRT ext; rw [if_neg (by decide)]; exact tb_17 _
theorem lBR_l22 (n : Nat) : lBRT n 22 = some (.pure (run (n + 12) 22)) := by unfold lBRT ext; rw [if_neg (by decide)]; exact tb_22 _
theorem lBR_l24 (n : Nat) : lBRT n 24 = some (.pure (run (n + 12) 24)) := by unfold lBRT ext; rw [if_neg (by decide)]; exact tb_24 _
theorem lBR_l25 (n : Nat) : lBRT n 25 = some (.pure (run (n + 12) 25)) := by unfold lBRT ext; rw [if_neg (by decide)]; exact tb_25 _
theorem lBR_l26 (n : Nat) : lBRT n 26 = some (.pure (run (n + 12) 26)) := by unfold lBRT ext; rw [if_neg (by decide)]; exact tb_26 _
theorem lBR_l27 (n : Nat) : lBRT n 27 = some (.pure (run (n + 12) 27)) := by unfold lBRT ext; rw [if_neg (by decide)]; exact tb_27 _
theorem lBR_l28 (n : Nat) : lBRT n 28 = some (.pure (run (n + 12) 28)) := by unfold lBRT ext; rw [if_neg (by decide)]; exact tb_28 _
theorem lBR_l29 (n : Nat) : lBRT n 29 = some (.pure (run (n + 12) 29)) := by unfold lBRT ext; rw [if_neg (by decide)]; exact tb_29 _
theorem lBR_l30 (n : Nat) : lBRT n 30 = some (.pure fSame) := by unfold lBRT ext; rw [if_neg (by decide)]; exact tab_num rfl _
theorem lBR_f1 {n : Nat} {a0 : FormR} {a1 : FormR} {a2 : List Raw} {r : Bool} (K1 : run (n + 12) 17 [.agg [.sl 4 (a0.1.map termRC), .lit (.bool a0.2.s), natA a0.2.l1, natA a0.2.l2]] = some (.lit (.bool r))) (C2 : r = false) :
    lBR n [.agg [.sl 4 (a0.1.map termRC), .lit (.bool a0.2.s), natA a0.2.l1, natA a0.2.l2], .agg [.sl 4 (a1.1.map termRC), .lit (.bool a1.2.s), natA a1.2.l1, natA a1.2.l2], .sl 3 (a2.map rawC)] = some (.lit (.bool true)) := by
  unfold lBR fnP
  simp +decide [Tryz.f6, K1, C2, lBR_aw, awG, lBR_l17, lBR_l22, lBR_l24, lBR_l25, lBR_l26, lBR_l27, lBR_l28, lBR_l29, lBR_l30]
theorem lBR_f2 {n : Nat} {a0 : FormR} {a1 : FormR} {a2 : List Raw} {r : Bool} {r2 : Bool} (K1 : run (n + 12) 17 [.agg [.sl 4 (a0.1.map termRC), .lit (.bool a0.2.s), natA a0.2.l1, natA a0.2.l2]] = some (.lit (.bool r))) (C2 : r = true) (K3 : run (n + 12) 17 [.agg [.sl 4 (a1.1.map termRC), .lit (.bool a1.2.s), natA a1.2.l1, natA a1.2.l2]] = some (.lit (.bool r2))) (C4 : r2 = false) :
    lBR n [.agg [.sl 4 (a0.1.map termRC), .lit (.bool a0.2.s), natA a0.2.l1, natA a0.2.l2], .agg [.sl 4 (a1.1.map termRC), .lit (.bool a1.2.s), natA a1.2.l1, natA a1.2.l2], .sl 3 (a2.map rawC)] = some (.lit (.bool true)) := by
  unfold lBR fnP
  simp +decide [Tryz.f6, K1, C2, K3, C4, lBR_aw, awG, lBR_l17, lBR_l22, lBR_l24, lBR_l25, lBR_l26, lBR_l27, lBR_l28, lBR_l29, lBR_l30]
theorem lBR_f3 {n : Nat} {a0 : FormR} {a1 : FormR} {a2 : List Raw} {r : Bool} {r2 : Bool} {r3 : Bool} (K1 : run (n + 12) 17 [.agg [.sl 4 (a0.1.map termRC), .lit (.bool a0.2.s), natA a0.2.l1, natA a0.2.l2]] = some (.lit (.bool r))) (C2 : r = true) (K3 : run (n + 12) 17 [.agg [.sl 4 (a1.1.map termRC), .lit (.bool a1.2.s), natA a1.2.l1, natA a1.2.l2]] = some (.lit (.bool r2))) (C4 : r2 = true) (K5 : run (n + 12) 24 [.sl 3 (a2.map rawC)] = some (.lit (.bool r3))) (C6 : r3 = false) :
    lBR n [.agg [.sl 4 (a0.1.map termRC), .lit (.bool a0.2.s), natA a0.2.l1, natA a0.2.l2], .agg [.sl 4 (a1.1.map termRC), .lit (.bool a1.2.s), natA a1.2.l1, natA a1.2.l2], .sl 3 (a2.map rawC)] = some (.lit (.bool true)) := by
  unfold lBR fnP
  simp +decide [Tryz.f6, K1, C2, K3, C4, K5, C6, lBR_aw, awG, lBR_l17, lBR_l22, lBR_l24, lBR_l25, lBR_l26, lBR_l27, lBR_l28, lBR_l29, lBR_l30]
/-! relucertlaw07.LinearSubstitute, level 13 -/
noncomputable def lBCT (n : Nat) : FuncId → Option Orc := ext (tab (n + 13)) 16 (.pure awG)
theorem lBCT_ok (n : Nat) : OrcOk Tryz.prog (lBCT n) := (tab_ok (n + 13)).extP (by kernel_rfl) con_awake
noncomputable def lBC (n : Nat) (args : List AV) : Option AV := fnP Tryz.prog (lBCT n) (livesOf 6) big (fnOf 6) args
theorem lBC_con {n : Nat} {args : List AV} {r : AV} (h : lBC n args = some r) : Con Tryz.prog 6 args r :=
  con_of (lBCT_ok n) mixed (plain_fn (by kernel_rfl)) (body_some (by kernel_rfl) (plain_fn (by kernel_rfl))) h
theorem lBC_aw (n : Nat) : lBCT n 16 = some (.pure awG) := by unfold lBCT ext; rw [if_pos rfl]
theorem lBC_l17 (n : Nat) : lBCT n 17 = some (.pure (run (n + 12) 17)) := by unfold lBCT ext; rw [if_neg (by decide)]; exact tb_17 _
theorem lBC_l22 (n : Nat) : lBCT n 22 = some (.pure (run (n + 12) 22)) := by unfold lBCT ext; rw [if_neg (by decide)]; exact tb_22 _
theorem lBC_l24 (n : Nat) : lBCT n 24 = some (.pure (run (n + 12) 24)) := by unfold lBCT ext; rw [if_neg (by decide)]; exact tb_24 _
theorem lBC_l25 (n : Nat) : lBCT n 25 = some (.pure (run (n + 12) 25)) := by unfold lBCT ext; rw [if_neg (by decide)]; exact tb_25 _
theorem lBC_l26 (n : Nat) : lBCT n 26 = some (.pure (run (n + 12) 26)) := by unfold lBCT ext; rw [if_neg (by decide)]; exact tb_26 _
theorem lBC_l27 (n : Nat) : lBCT n 27 = some (.pure (run (n + 12) 27)) := by unfold lBCT ext; rw [if_neg (by decide)]; exact tb_27 _
theorem lBC_l28 (n : Nat) : lBCT n 28 = some (.pure (run (n + 12) 28)) := by unfold lBCT ext; rw [if_neg (by decide)]; exact tb_28 _
theorem lBC_l29 (n : Nat) : lBCT n 29 = some (.pure (run (n + 12) 29)) := by unfold lBCT ext; rw [if_neg (by decide)]; exact tb_29 _
theorem lBC_l30 (n : Nat) : lBCT n 30 = some (.pure fSame) := by unfold lBCT ext; rw [if_neg (by decide)]; exact tab_num rfl _
noncomputable def lBC_C6 : Code := (loopsOf (bodyOf Tryz.f6)).getD 0 .skip
def lBC_h6 (a0 : Form) (a1 : Form) (a2 : List Rat) (i_6 : Nat) : St :=
  ⟨[(2, .sl 3 (a2.map ratC)), (3, .ptr 0 0), (4, .ptr 1 0), (7, .lit (.int .i64 (i_6 : Int)))],
   [(0, some (.box 29 [.sl 4 (a0.1.map termC), .lit (.bool (rawQ a0.2).s), natA (rawQ a0.2).l1, natA (rawQ a0.2).l2] false)),
    (1, some (.box 29 [.sl 4 (a1.1.map termC), .lit (.bool (rawQ a1.2).s), natA (rawQ a1.2).l1, natA (rawQ a1.2).l2] false))], 2⟩
def lBC_o6a  : St :=
  ⟨[(6, .lit (.bool false))],
   [], 0⟩
def lBC_o6b  : St :=
  ⟨[(6, .any)],
   [], 0⟩
theorem lBC_r6_1 {n : Nat} {a0 : Form} {a1 : Form} {a2 : List Rat} {i_6 : Nat} {r26 : Form} {r27 : Form} {r28 : Form} {r29 : Form} {r30 : Bool} {r31 : Rat} {r32 : Int} (C1 : (i_6 : Int) < 8) (K2 : run (n + 12) 26 [formV a0] = some (formV r26)) (K3 : run (n + 12) 26 [formV a1] = some (formV r27)) (K4 : run (n + 12) 25 [formV r26, .lit (.int .i64 (i_6 : Int)), formV r27] = some (formV r28)) (K5 : run (n + 12) 27 [formV a0, .lit (.int .i64 (i_6 : Int)), formV a1] = some (formV r29)) (K6 : run (n + 12) 22 [formV r28, formV r29] = some (.lit (.bool r30))) (C7 : r30 = true) (K8 : run (n + 12) 28 [formV a1, .sl 3 (a2.map ratC)] = some (.tup [ratV r31, .lit (.int .i64 r32)])) (C9 : ¬ r32 = 0) (W10 : InI ((i_6 : Int) + 1)) :
    Cont 0 (exec Tryz.prog (lBCT n) 0 93 (livesOf 6) big lBC_C6) (livesOf 6 6) (lBC_h6 a0 a1 a2 i_6) (lBC_h6 a0 a1 a2 (i_6 + 1)) := by
  have C1_ : i_6 < 8 := by omega
  simp only [formV] at K2
  simp only [formV] at K3
  simp only [formV] at K4
  simp only [formV] at K5
  simp only [formV] at K6
  simp only [ratV, formV] at K8
  have C9_ : (r32 == 0) = false := by simpa using C9
  have C9_n : (r32 != 0) = true := by simpa using C9
  have W10_ : IntKind.i64.wrap ((i_6 : Int) + 1) = (i_6 : Int) + 1 := wr64 W10.1 W10.2
  unfold Cont
  simp +decide [lBC_h6, loopsOf, Tryz.f6, lBC_C6, C1, C1_, K2, K3, K4, K5, K6, C7, K8, C9_, C9_n, W10_, lBC_aw, awG, lBC_l17, lBC_l22, lBC_l24, lBC_l25, lBC_l26, lBC_l27, lBC_l28, lBC_l29, lBC_l30]
theorem lBC_r6_2 {n : Nat} {a0 : Form} {a1 : Form} {a2 : List Rat} {i_6 : Nat} {r26 : Form} {r27 : Form} {r28 : Form} {r29 : Form} {r30 : Bool} {r31 : Rat} {r32 : Int} (C1 : (i_6 : Int) < 8) (K2 : run (n + 12) 26 [formV a0] = some (formV r26)) (K3 : run (n + 12) 26 [formV a1] = some (formV r27)) (K4 : run (n + 12) 25 [formV r26, .lit (.int .i64 (i_6 : Int)), formV r27] = some (formV r28)) (K5 : run (n + 12) 27 [formV a0, .lit (.int .i64 (i_6 : Int)), formV a1] = some (formV r29)) (K6 : run (n + 12) 22 [formV r28, formV r29] = some (.lit (.bool r30))) (C7 : r30 = true) (K8 : run (n + 12) 28 [formV a1, .sl 3 (a2.map ratC)] = some (.tup [ratV r31, .lit (.int .i64 r32)])) (C9 : r32 = 0) (C10 : (a2.length : Int) ≤ (i_6 : Int)) (W11 : InI ((i_6 : Int) + 1)) :
    Cont 0 (exec Tryz.prog (lBCT n) 0 93 (livesOf 6) big lBC_C6) (livesOf 6 6) (lBC_h6 a0 a1 a2 i_6) (lBC_h6 a0 a1 a2 (i_6 + 1)) := by
  have C1_ : i_6 < 8 := by omega
  simp only [formV] at K2
  simp only [formV] at K3
  simp only [formV] at K4
  simp only [formV] at K5
  simp only [formV] at K6
  simp only [ratV, formV] at K8
  have C9_ : (r32 == 0) = true := by rw [C9]; simp
  have C9_n : (r32 != 0) = false := by rw [C9]; simp
  have C10_ : a2.length ≤ i_6 := by omega
  have W11_ : IntKind.i64.wrap ((i_6 : Int) + 1) = (i_6 : Int) + 1 := wr64 W11.1 W11.2
  unfold Cont
  simp +decide [lBC_h6, loopsOf, Tryz.f6, lBC_C6, C1, C1_, K2, K3, K4, K5, K6, C7, K8, C9_, C9_n, C10, C10_, W11_, lBC_aw, awG, lBC_l17, lBC_l22, lBC_l24, lBC_l25, lBC_l26, lBC_l27, lBC_l28, lBC_l29, lBC_l30]
theorem lBC_r6_3 {n : Nat} {a0 : Form} {a1 : Form} {a2 : List Rat} {i_6 : Nat} {r26 : Form} {r27 : Form} {r28 : Form} {r29 : Form} {r30 : Bool} {r31 : Rat} {r32 : Int} {r33 : Rat} {r34 : Int} {r35 : Rat} {r36 : Int} (C1 : (i_6 : Int) < 8) (K2 : run (n + 12) 26 [formV a0] = some (formV r26)) (K3 : run (n + 12) 26 [formV a1] = some (formV r27)) (K4 : run (n + 12) 25 [formV r26, .lit (.int .i64 (i_6 : Int)), formV r27] = some (formV r28)) (K5 : run (n + 12) 27 [formV a0, .lit (.int .i64 (i_6 : Int)), formV a1] = some (formV r29)) (K6 : run (n + 12) 22 [formV r28, formV r29] = some (.lit (.bool r30))) (C7 : r30 = true) (K8 : run (n + 12) 28 [formV a1, .sl 3 (a2.map ratC)] = some (.tup [ratV r31, .lit (.int .i64 r32)])) (C9 : r32 = 0) (C10 : ¬ (a2.length : Int) ≤ (i_6 : Int)) (M11 : a2.length ≤ 100000000) (G12 : i_6 < a2.length) (K14 : run (n + 12) 28 [formV a0, .sl 3 ((a2.set i_6 r31).map ratC)] = some (.tup [ratV r33, .lit (.int .i64 r34)])) (K15 : run (n + 12) 29 [formV r28, .sl 3 (a2.map ratC)] = some (.tup [ratV r35, .lit (.int .i64 r36)])) (C16 : r34 = 0) (C17 : r36 = 0) (B18a : H r33 ≤ 17179869184) (B18b : H r35 ≤ 17179869184) (C19 : r33 = r35) (W20 : InI ((i_6 : Int) + 1)) :
    Cont 0 (exec Tryz.prog (lBCT n) 0 93 (livesOf 6) big lBC_C6) (livesOf 6 6) (lBC_h6 a0 a1 a2 i_6) (lBC_h6 a0 a1 a2 (i_6 + 1)) := by
  have C1_ : i_6 < 8 := by omega
  simp only [formV] at K2
  simp only [formV] at K3
  simp only [formV] at K4
  simp only [formV] at K5
  simp only [formV] at K6
  simp only [ratV, formV] at K8
  have C9_ : (r32 == 0) = true := by rw [C9]; simp
  have C9_n : (r32 != 0) = false := by rw [C9]; simp
  have C10_ : ¬ a2.length ≤ i_6 := by omega
  have M11_ : ∀ b, b ≤ 10000 → roomy (a2.length) b = true := fun b hb => roomy_s M11 hb
  simp only [ratV, formV, List.map_set, ratC] at K14
  simp only [ratV, formV] at K15
  have C16_ : (r34 == 0) = true := by rw [C16]; simp
  have C16_n : (r34 != 0) = false := by rw [C16]; simp
  have C17_ : (r36 == 0) = true := by rw [C17]; simp
  have C17_n : (r36 != 0) = false := by rw [C17]; simp
  have K18 := r_same (p := r33) (q := r35) B18a B18b
  have C19_ : decide (r33 = r35) = true := decide_eq_true C19
  have W20_ : IntKind.i64.wrap ((i_6 : Int) + 1) = (i_6 : Int) + 1 := wr64 W20.1 W20.2
  unfold Cont
  simp +decide [lBC_h6, loopsOf, Tryz.f6, lBC_C6, C1, C1_, K2, K3, K4, K5, K6, C7, K8, C9_, C9_n, C10, C10_, M11_, G12, K14, K15, C16_, C16_n, C17_, C17_n, K18, C19_, W20_, lBC_aw, awG, lBC_l17, lBC_l22, lBC_l24, lBC_l25, lBC_l26, lBC_l27, lBC_l28, lBC_l29, lBC_l30]
theorem lBC_r6_4 {n : Nat} {a0 : Form} {a1 : Form} {a2 : List Rat} {i_6 : Nat} {r26 : Form} {r27 : Form} {r28 : Form} {r29 : Form} {r30 : Bool} {r31 : Rat} {r32 : Int} {r33 : Rat} {r34 : Int} {r35 : Rat} {r36 : Int} (C1 : (i_6 : Int) < 8) (K2 : run (n + 12) 26 [formV a0] = some (formV r26)) (K3 : run (n + 12) 26 [formV a1] = some (formV r27)) (K4 : run (n + 12) 25 [formV r26, .lit (.int .i64 (i_6 : Int)), formV r27] = some (formV r28)) (K5 : run (n + 12) 27 [formV a0, .lit (.int .i64 (i_6 : Int)), formV a1] = some (formV r29)) (K6 : run (n + 12) 22 [formV r28, formV r29] = some (.lit (.bool r30))) (C7 : r30 = true) (K8 : run (n + 12) 28 [formV a1, .sl 3 (a2.map ratC)] = some (.tup [ratV r31, .lit (.int .i64 r32)])) (C9 : r32 = 0) (C10 : ¬ (a2.length : Int) ≤ (i_6 : Int)) (M11 : a2.length ≤ 100000000) (G12 : i_6 < a2.length) (K14 : run (n + 12) 28 [formV a0, .sl 3 ((a2.set i_6 r31).map ratC)] = some (.tup [ratV r33, .lit (.int .i64 r34)])) (K15 : run (n + 12) 29 [formV r28, .sl 3 (a2.map ratC)] = some (.tup [ratV r35, .lit (.int .i64 r36)])) (C16 : ¬ r34 = 0) (W17 : InI ((i_6 : Int) + 1)) :
    Cont 0 (exec Tryz.prog (lBCT n) 0 93 (livesOf 6) big lBC_C6) (livesOf 6 6) (lBC_h6 a0 a1 a2 i_6) (lBC_h6 a0 a1 a2 (i_6 + 1)) := by
  have C1_ : i_6 < 8 := by omega
  simp only [formV] at K2
  simp only [formV] at K3
  simp only [formV] at K4
  simp only [formV] at K5
  simp only [formV] at K6
  simp only [ratV, formV] at K8
  have C9_ : (r32 == 0) = true := by rw [C9]; simp
  have C9_n : (r32 != 0) = false := by rw [C9]; simp
  have C10_ : ¬ a2.length ≤ i_6 := by omega
  have M11_ : ∀ b, b ≤ 10000 → roomy (a2.length) b = true := fun b hb => roomy_s M11 hb
  simp only [ratV, formV, List.map_set, ratC] at K14
  simp only [ratV, formV] at K15
  have C16_ : (r34 == 0) = false := by simpa using C16
  have C16_n : (r34 != 0) = true := by simpa using C16
  have W17_ : IntKind.i64.wrap ((i_6 : Int) + 1) = (i_6 : Int) + 1 := wr64 W17.1 W17.2
  unfold Cont
  simp +decide [lBC_h6, loopsOf, Tryz.f6, lBC_C6, C1, C1_, K2, K3, K4, K5, K6, C7, K8, C9_, C9_n, C10, C10_, M11_, G12, K14, K15, C16_, C16_n, W17_, lBC_aw, awG, lBC_l17, lBC_l22, lBC_l24, lBC_l25, lBC_l26, lBC_l27, lBC_l28, lBC_l29, lBC_l30]
theorem lBC_x6_4 {n : Nat} {a0 : Form} {a1 : Form} {a2 : List Rat} {i_6 : Nat} (C1 : ¬ (i_6 : Int) < 8) :
    Leave 0 (exec Tryz.prog (lBCT n) 0 93 (livesOf 6) big lBC_C6) (livesOf 6 (outOf 6)) (lBC_h6 a0 a1 a2 i_6) (.exit 0) (lBC_o6b ) := by
  have C1_ : ¬ i_6 < 8 := by omega
  unfold Leave
  simp +decide [lBC_h6, loopsOf, Tryz.f6, lBC_o6b, lBC_C6, C1, C1_, lBC_aw, awG, lBC_l17, lBC_l22, lBC_l24, lBC_l25, lBC_l26, lBC_l27, lBC_l28, lBC_l29, lBC_l30]
theorem lBC_f5 {n : Nat} {a0 : Form} {a1 : Form} {a2 : List Rat} {r : Bool} {r2 : Bool} {r3 : Bool} (K1 : run (n + 12) 17 [formV a0] = some (.lit (.bool r))) (C2 : r = true) (K3 : run (n + 12) 17 [formV a1] = some (.lit (.bool r2))) (C4 : r2 = true) (K5 : run (n + 12) 24 [.sl 3 (a2.map ratC)] = some (.lit (.bool r3))) (C6 : r3 = true) (L7 : loopG Tryz.prog (lBCT n) 0 93 (livesOf 6) 6 lBC_C6 (lBC_h6 a0 a1 a2 0) = some (.exit 0, lBC_o6b )) :
    lBC n [formV a0, formV a1, .sl 3 (a2.map ratC)] = some (.lit (.bool true)) := by
  simp only [formV] at K1
  simp only [formV] at K3
  unfold lBC fnP
  simp +decide [Tryz.f6, K1, C2, K3, C4, K5, C6, lBC_aw, awG, lBC_l17, lBC_l22, lBC_l24, lBC_l25, lBC_l26, lBC_l27, lBC_l28, lBC_l29, lBC_l30]
  rw [loopX_G (C' := lBC_C6) (e := (lBC_h6 a0 a1 a2 0)) ?_ ?_, L7]
  rotate_left
  · kernel_rfl
  · simp +decide [lBC_h6, K1, C2, K3, C4, K5, C6, lBC_aw, awG, lBC_l17, lBC_l22, lBC_l24, lBC_l25, lBC_l26, lBC_l27, lBC_l28, lBC_l29, lBC_l30]
  simp +decide [lBC_o6b, K1, C2, K3, C4, K5, C6, lBC_aw, awG, lBC_l17, lBC_l22, lBC_l24, lBC_l25, lBC_l26, lBC_l27, lBC_l28, lBC_l29, lBC_l30]
end Go.Proofs.YthkkmokbjmempaaGreatDoor
