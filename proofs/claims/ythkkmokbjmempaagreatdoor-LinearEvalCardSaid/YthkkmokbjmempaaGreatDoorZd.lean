/- Walks: relucertlaw07.LinearEval@01^, relucertlaw07.LinearEval^. -/
import Derived.Test.YthkkmokbjmempaaGreatDoorUe
import Derived.Test.YthkkmokbjmempaaGreatDoorAx
set_option linter.all false
set_option linter.all false
set_option maxRecDepth 100000
set_option maxHeartbeats 6400000
namespace Go.Proofs.YthkkmokbjmempaaGreatDoor
open Go.RowKit

/-! relucertlaw07.LinearEval, level 13 -/
noncomputable def lERT (n : Nat) : FuncId → Option Orc := ext (tab (n + 13)) 16 (.pure awG)
theorem lERT_ok (n : Nat) : OrcOk Tryz.prog (lERT n) := (tab_ok (n + 13)).extP (by kernel_rfl) con_awake
noncomputable def lER (n : Nat) (args : List AV) : Option AV := fnP Tryz.prog (lERT n) (livesOf 10) big (fnOf 10) args
theorem lER_con {n : Nat} {args : List AV} {r : AV} (h : lER n args = some r) : Con Tryz.prog 10 args r :=
  con_of (lERT_ok n) mixed (plain_fn (by kernel_rfl)) (body_some (by kernel_rfl) (plain_fn (by kernel_rfl))) h
theorem lER_aw (n : Nat) : lERT n 16 = some (.pure awG) := by unfold lERT ext; rw [if_pos rfl]
theorem lER_l17 (n : Nat) : lERT n 17 = some (.pure (run (n + 12) 17)) := by unfold lERT ext; rw [if_neg (by decide)]; exact tb_17 _
theorem lER_l24 (n : Nat) : lERT n 24 = some (.pure (run (n + 12) 24)) := by unfold lERT ext; rw [if_neg (by decide)]; exact tb_24 _
theorem lER_l28 (n : Nat) : lERT n 28 = some (.pure (run (n + 12) 28)) := by unfold lERT ext; rw [if_neg (by decide)]; exact tb_28 _
theorem lER_l29 (n : Nat) : lERT n 29 = some (.pure (run (n + 12) 29)) := by unfold lERT ext; rw [if_neg (by decide)]; exact tb_29 _
theorem lER_l30 (n : Nat) : lERT n 30 = some (.pure fSame) := by unfold lERT ext; rw [if_neg (by decide)]; exact tab_num rfl _
theorem lER_l44 (n : Nat) : lERT n 44 = some (.pure (run (n + 12) 44)) := by unfold lERT ext; rw [if_neg (by decide)]; exact tb_44 _
theorem lER_l45 (n : Nat) : lERT n 45 = some (.pure (run (n + 12) 45)) := by unfold lERT ext; rw [if_neg (by decide)]; exact tb_45 _
theorem lER_f1 {n : Nat} {a0 : FormR} {a1 : List Raw} {a2 : Int} {r : Bool} (K1 : run (n + 12) 17 [.agg [.sl 4 (a0.1.map termRC), .lit (.bool a0.2.s), natA a0.2.l1, natA a0.2.l2]] = some (.lit (.bool r))) (C2 : r = false) :
    lER n [.agg [.sl 4 (a0.1.map termRC), .lit (.bool a0.2.s), natA a0.2.l1, natA a0.2.l2], .sl 3 (a1.map rawC), .lit (.int .i64 a2)] = some (.lit (.bool true)) := by
  unfold lER fnP
  simp +decide [Tryz.f10, K1, C2, lER_aw, awG, lER_l17, lER_l24, lER_l28, lER_l29, lER_l30, lER_l44, lER_l45]
theorem lER_f2 {n : Nat} {a0 : FormR} {a1 : List Raw} {a2 : Int} {r : Bool} {r2 : Bool} (K1 : run (n + 12) 17 [.agg [.sl 4 (a0.1.map termRC), .lit (.bool a0.2.s), natA a0.2.l1, natA a0.2.l2]] = some (.lit (.bool r))) (C2 : r = true) (K3 : run (n + 12) 24 [.sl 3 (a1.map rawC)] = some (.lit (.bool r2))) (C4 : r2 = false) :
    lER n [.agg [.sl 4 (a0.1.map termRC), .lit (.bool a0.2.s), natA a0.2.l1, natA a0.2.l2], .sl 3 (a1.map rawC), .lit (.int .i64 a2)] = some (.lit (.bool true)) := by
  unfold lER fnP
  simp +decide [Tryz.f10, K1, C2, K3, C4, lER_aw, awG, lER_l17, lER_l24, lER_l28, lER_l29, lER_l30, lER_l44, lER_l45]
/-! relucertlaw07.LinearEval, level 13 -/
noncomputable def lECT (n : Nat) : FuncId → Option Orc := ext (tab (n + 13)) 16 (.pure awG)
theorem lECT_ok (n : Nat) : OrcOk Tryz.prog (lECT n) := (tab_ok (n + 13)).extP (by kernel_rfl) con_awake
noncomputable def lEC (n : Nat) (args : List AV) : Option AV := fnP Tryz.prog (lECT n) (livesOf 10) big (fnOf 10) args
theorem lEC_con {n : Nat} {args : List AV} {r : AV} (h : lEC n args = some r) : Con Tryz.prog 10 args r :=
  con_of (lECT_ok n) mixed (plain_fn (by kernel_rfl)) (body_some (by kernel_rfl) (plain_fn (by kernel_rfl))) h
theorem lEC_aw (n : Nat) : lECT n 16 = some (.pure awG) := by unfold lECT ext; rw [if_pos rfl]
theorem lEC_l17 (n : Nat) : lECT n 17 = some (.pure (run (n + 12) 17)) := by unfold lECT ext; rw [if_neg (by decide)]; exact tb_17 _
theorem lEC_l24 (n : Nat) : lECT n 24 = some (.pure (run (n + 12) 24)) := by unfold lECT ext; rw [if_neg (by decide)]; exact tb_24 _
theorem lEC_l28 (n : Nat) : lECT n 28 = some (.pure (run (n + 12) 28)) := by unfold lECT ext; rw [if_neg (by decide)]; exact tb_28 _
theorem lEC_l29 (n : Nat) : lECT n 29 = some (.pure (run (n + 12) 29)) := by unfold lECT ext; rw [if_neg (by decide)]; exact tb_29 _
theorem lEC_l30 (n : Nat) : lECT n 30 = some (.pure fSame) := by unfold lECT ext; rw [if_neg (by decide)]; exact tab_num rfl _
theorem lEC_l44 (n : Nat) : lECT n 44 = some (.pure (run (n + 12) 44)) := by unfold lECT ext; rw [if_neg (by decide)]; exact tb_44 _
theorem lEC_l45 (n : Nat) : lECT n 45 = some (.pure (run (n + 12) 45)) := by unfold lECT ext; rw [if_neg (by decide)]; exact tb_45 _
theorem lEC_f1 {n : Nat} {a0 : Form} {a1 : List Rat} {a2 : Int} {r : Bool} (K1 : run (n + 12) 17 [formV a0] = some (.lit (.bool r))) (C2 : r = false) :
    lEC n [formV a0, .sl 3 (a1.map ratC), .lit (.int .i64 a2)] = some (.lit (.bool true)) := by
  simp only [formV] at K1
  unfold lEC fnP
  simp +decide [Tryz.f10, K1, C2, lEC_aw, awG, lEC_l17, lEC_l24, lEC_l28, lEC_l29, lEC_l30, lEC_l44, lEC_l45]
theorem lEC_f2 {n : Nat} {a0 : Form} {a1 : List Rat} {a2 : Int} {r : Bool} {r2 : Bool} (K1 : run (n + 12) 17 [formV a0] = some (.lit (.bool r))) (C2 : r = true) (K3 : run (n + 12) 24 [.sl 3 (a1.map ratC)] = some (.lit (.bool r2))) (C4 : r2 = false) :
    lEC n [formV a0, .sl 3 (a1.map ratC), .lit (.int .i64 a2)] = some (.lit (.bool true)) := by
  simp only [formV] at K1
  unfold lEC fnP
  simp +decide [Tryz.f10, K1, C2, K3, C4, lEC_aw, awG, lEC_l17, lEC_l24, lEC_l28, lEC_l29, lEC_l30, lEC_l44, lEC_l45]
theorem lEC_f3 {n : Nat} {a0 : Form} {a1 : List Rat} {a2 : Int} {r : Bool} {r2 : Bool} {r3 : Rat} {r4 : Int} {r5 : Rat} {r6 : Int} {r7 : Rat} {r8 : Rat} (K1 : run (n + 12) 17 [formV a0] = some (.lit (.bool r))) (C2 : r = true) (K3 : run (n + 12) 24 [.sl 3 (a1.map ratC)] = some (.lit (.bool r2))) (C4 : r2 = true) (K5 : run (n + 12) 29 [formV a0, .sl 3 (a1.map ratC)] = some (.tup [ratV r3, .lit (.int .i64 r4)])) (K6 : run (n + 12) 28 [formV a0, .sl 3 (a1.map ratC)] = some (.tup [ratV r5, .lit (.int .i64 r6)])) (C7 : r4 = r6) (B8a : H r3 ≤ 17179869184) (B8b : H r5 ≤ 17179869184) (C9 : r3 = r5) (K10 : run (n + 12) 44 [formV a0, .lit (.int .i64 a2)] = some (ratV r7)) (K11 : run (n + 12) 45 [formV a0, .lit (.int .i64 a2)] = some (ratV r8)) (B12a : H r7 ≤ 17179869184) (B12b : H r8 ≤ 17179869184) :
    lEC n [formV a0, .sl 3 (a1.map ratC), .lit (.int .i64 a2)] = some (.lit (.bool (decide (r7 = r8)))) := by
  simp only [formV] at K1
  simp only [ratV, formV] at K5
  simp only [ratV, formV] at K6
  have C7_ : (r4 == r6) = true := by rw [C7]; simp
  have C7_n : (r4 != r6) = false := by rw [C7]; simp
  have K8 := r_same (p := r3) (q := r5) B8a B8b
  have C9_ : decide (r3 = r5) = true := decide_eq_true C9
  simp only [ratV, formV] at K10
  simp only [ratV, formV] at K11
  have K12 := r_same (p := r7) (q := r8) B12a B12b
  unfold lEC fnP
  simp +decide [Tryz.f10, K1, C2, K3, C4, K5, K6, C7_, C7_n, K8, C9_, K10, K11, K12, lEC_aw, awG, lEC_l17, lEC_l24, lEC_l28, lEC_l29, lEC_l30, lEC_l44, lEC_l45]
end Go.Proofs.YthkkmokbjmempaaGreatDoor
