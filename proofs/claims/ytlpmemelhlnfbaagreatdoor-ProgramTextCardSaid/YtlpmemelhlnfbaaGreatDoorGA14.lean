/- Walks: relucertref27.Text, relucertref15.number. Walks: program.Text. -/
import Derived.Test.YtlpmemelhlnfbaaGreatDoorGA5
import Derived.Test.YtlpmemelhlnfbaaGreatDoorGA6
set_option linter.all false
set_option linter.all false
set_option maxRecDepth 100000
set_option maxHeartbeats 6400000
namespace Go.Proofs.YtlpmemelhlnfbaaGreatDoor
open Go.RowKit

/-! relucertref27.Text, level 7 -/
noncomputable def ptf_C5 : Code := (loopsOf (bodyOf Tryz.f17)).getD 0 .skip
def ptf_h5 (a0 : TProgram) (str_5 : ByteArray) (i_5 : Nat) : St :=
  ⟨[(1, .ptr 0 0), (3, .lit (.string str_5)), (4, .lit (.int .i64 (i_5 : Int)))],
   [(0, some (.box 31 [.lit (.int .i64 (a0.Vars)), .sl 4 (a0.Rows.map formC), .sl 4 (a0.Objective.1.map termC), .lit (.bool (rawQ a0.Objective.2).s), natA (rawQ a0.Objective.2).l1, natA (rawQ a0.Objective.2).l2] false))], 1⟩
def ptf_o5a (str_5 : ByteArray) : St :=
  ⟨[(3, .lit (.string str_5))],
   [], 0⟩
theorem ptf_r5_1 {n : Nat} {a0 : TProgram} {i_5 : Nat} {F3 : List (Int × Rat)} {q3 : Rat} {r5 : ByteArray} {str_5 : ByteArray} {cat7 : ByteArray} {cat8 : ByteArray} (C1 : (i_5 : Int) < (a0.Rows.length : Int)) (E2 : a0.Rows[i_5]? = some (F3, q3)) (K3 : run (n + 6) 54 [formV (F3, q3)] = some (.lit (.string r5))) (S4 : str_5.size + r5.size ≤ 9000000000000000000) (D4 : cat7 = str_5 ++ r5) (S5 : cat7.size + (⟨#[32, 62, 61, 32, 48, 10]⟩ : ByteArray).size ≤ 9000000000000000000) (D5 : cat8 = cat7 ++ (⟨#[32, 62, 61, 32, 48, 10]⟩ : ByteArray)) (W6 : InI ((i_5 : Int) + 1)) :
    Cont 0 (exec Tryz.prog (tab (n + 7)) 0 30 (livesOf 17) big ptf_C5) (livesOf 17 5) (ptf_h5 a0 str_5 i_5) (ptf_h5 a0 cat8 (i_5 + 1)) := by
  obtain ⟨ks0, hks0⟩ : ∃ k : ByteArray, (⟨#[32, 62, 61, 32, 48, 10]⟩ : ByteArray) = k := ⟨_, rfl⟩
  rw [hks0] at S5 D5
  have C1_ : i_5 < a0.Rows.length := by omega
  obtain ⟨EL2, EG2⟩ := List.getElem?_eq_some_iff.1 E2
  simp only [formV] at K3
  have S4_r := cat_r S4 D4
  have S4_q := cat_q S4 D4
  have S5_r := cat_r S5 D5
  have S5_q := cat_q S5 D5
  have W6_ : IntKind.i64.wrap ((i_5 : Int) + 1) = (i_5 : Int) + 1 := wr64 W6.1 W6.2
  unfold Cont
  simp +decide [ptf_h5, loopsOf, Tryz.f17, ptf_C5, C1, C1_, EL2, EG2, E2, K3, ↓S4_r, S4_q, ↓S5_r, S5_q, W6_, hks0]
theorem ptf_x5_1 {n : Nat} {a0 : TProgram} {i_5 : Nat} {str_5 : ByteArray} (C1 : ¬ (i_5 : Int) < (a0.Rows.length : Int)) :
    Leave 0 (exec Tryz.prog (tab (n + 7)) 0 30 (livesOf 17) big ptf_C5) (livesOf 17 (outOf 5)) (ptf_h5 a0 str_5 i_5) (.exit 0) (ptf_o5a str_5) := by
  have C1_ : ¬ i_5 < a0.Rows.length := by omega
  unfold Leave
  simp +decide [ptf_h5, loopsOf, Tryz.f17, ptf_o5a, ptf_C5, C1, C1_]
theorem ptf_f2 {n : Nat} {a0 : TProgram} {r : Bool} {r2 : ByteArray} {cat : ByteArray} {cat2 : ByteArray} {str_5 : ByteArray} (K1 : run (n + 6) 71 [programV a0] = some (.lit (.bool r))) (C2 : r = true) (K3 : run (n + 6) 54 [formV a0.Objective] = some (.lit (.string r2))) (S4 : (⟨#[109, 105, 110, 105, 109, 105, 122, 101, 32]⟩ : ByteArray).size + r2.size ≤ 9000000000000000000) (D4 : cat = (⟨#[109, 105, 110, 105, 109, 105, 122, 101, 32]⟩ : ByteArray) ++ r2) (S5 : cat.size + (⟨#[10]⟩ : ByteArray).size ≤ 9000000000000000000) (D5 : cat2 = cat ++ (⟨#[10]⟩ : ByteArray)) (L6 : loopG Tryz.prog (tab (n + 7)) 0 30 (livesOf 17) 5 ptf_C5 (ptf_h5 a0 cat2 0) = some (.exit 0, ptf_o5a str_5)) :
    run (n + 7) 17 [programV a0] = some (.lit (.string str_5)) := by
  obtain ⟨ks0, hks0⟩ : ∃ k : ByteArray, (⟨#[10]⟩ : ByteArray) = k := ⟨_, rfl⟩
  rw [hks0] at S5 D5
  simp only [programV] at K1
  simp only [formV] at K3
  have S4_r := cat_r S4 D4
  have S4_q := cat_q S4 D4
  have S5_r := cat_r S5 D5
  have S5_q := cat_q S5 D5
  unfold run fnP
  simp +decide [Tryz.f17, K1, C2, K3, ↓S4_r, S4_q, ↓S5_r, S5_q, hks0]
  subst hks0
  rw [loopX_G (C' := ptf_C5) (e := (ptf_h5 a0 cat2 0)) ?_ ?_, L6]
  rotate_left
  · kernel_rfl
  · simp +decide [ptf_h5, K1, C2, K3]
  simp +decide [ptf_o5a, K1, C2, K3]
/-! relucertref15.number, level 5 -/
end Go.Proofs.YtlpmemelhlnfbaaGreatDoor
set_option linter.all false
set_option maxRecDepth 100000
set_option maxHeartbeats 6400000
namespace Go.Proofs.YtlpmemelhlnfbaaGreatDoor
open Go.RowKit

/-! program.Text, level 8 -/
noncomputable def ptx_C6 : Code := (loopsOf (bodyOf Tryz.f16)).getD 0 .skip
def ptx_h6 (a0 : TProgram) (i_6 : Nat) (ab : ByteArray) : St :=
  ⟨[(3, .ptr 0 0), (16, .sl 4 (a0.Rows.map formC)), (17, .lit (.int .i64 (a0.Rows.length : Int))), (18, .lit (.int .i64 (i_6 : Int)))],
   [(0, some (.box 88 [.ptr 0 0, .own 1 ab.size] false)),
    (1, some (.row 5 1 (strEls ab) 0))], 2⟩
def ptx_o6a (ab : ByteArray) : St :=
  ⟨[(3, .ptr 0 0)],
   [(0, some (.box 88 [.ptr 0 0, .own 1 ab.size] false)),
    (1, some (.row 5 1 (strEls ab) 0))], 2⟩
theorem ptx_r6_1 {n : Nat} {ab rb1 : ByteArray} {a0 : TProgram} {i_6 : Nat} {F3 : List (Int × Rat)} {q3 : Rat} {r11 : ByteArray} {cat5 : ByteArray} {r12 : Int} {r13 : Int} (C1 : (i_6 : Int) < (a0.Rows.length : Int)) (E2 : a0.Rows[i_6]? = some (F3, q3)) (K3 : run (n + 7) 52 [formV (F3, q3)] = some (.lit (.string r11))) (S4 : r11.size + (⟨#[32, 62, 61, 32, 48, 10]⟩ : ByteArray).size ≤ 9000000000000000000) (D4 : cat5 = r11 ++ (⟨#[32, 62, 61, 32, 48, 10]⟩ : ByteArray)) (K5 : runL (n + 7) 69 [.ptr 0 0, .lit (.string cat5)] [.box 88 [.ptr 0 0, .own 1 ab.size] false, .row 5 1 (strEls ab) 0] = some (.tup [.lit (.int .i64 r12), .lit .nilIface], [(0, .box 88 [.ptr 0 0, .own 2 rb1.size] false), (2, .row 5 1 (strEls rb1) 0)])) (W6 : InI ((i_6 : Int) + 1)) :
    Cont 0 (exec Tryz.prog (tab (n + 8)) 0 28 (livesOf 16) big ptx_C6) (livesOf 16 6) (ptx_h6 a0 i_6 ab) (ptx_h6 a0 (i_6 + 1) rb1) := by
  obtain ⟨ks0, hks0⟩ : ∃ k : ByteArray, (⟨#[32, 62, 61, 32, 48, 10]⟩ : ByteArray) = k := ⟨_, rfl⟩
  rw [hks0] at S4 D4
  have C1_ : i_6 < a0.Rows.length := by omega
  obtain ⟨EL2, EG2⟩ := List.getElem?_eq_some_iff.1 E2
  simp only [formV] at K3
  have S4_r := cat_r S4 D4
  have S4_q := cat_q S4 D4
  have W6_ : IntKind.i64.wrap ((i_6 : Int) + 1) = (i_6 : Int) + 1 := wr64 W6.1 W6.2
  unfold Cont
  simp +decide [ptx_h6, loopsOf, Tryz.f16, ptx_C6, C1, C1_, EL2, EG2, E2, K3, ↓S4_r, S4_q, K5, W6_, hks0]
theorem ptx_x6_1 {n : Nat} {ab : ByteArray} {a0 : TProgram} {i_6 : Nat} (C1 : ¬ (i_6 : Int) < (a0.Rows.length : Int)) :
    Leave 0 (exec Tryz.prog (tab (n + 8)) 0 28 (livesOf 16) big ptx_C6) (livesOf 16 (outOf 6)) (ptx_h6 a0 i_6 ab) (.exit 0) (ptx_o6a ab) := by
  have C1_ : ¬ i_6 < a0.Rows.length := by omega
  unfold Leave
  simp +decide [ptx_h6, loopsOf, Tryz.f16, ptx_o6a, ptx_C6, C1, C1_]
theorem ptx_f2 {n : Nat} {rb1 ab2 : ByteArray} {a0 : TProgram} {r : Bool} {r2 : ByteArray} {cat : ByteArray} {cat2 : ByteArray} {r3 : Int} {r4 : Int} {r14 : ByteArray} (K1 : run (n + 7) 65 [programV a0] = some (.lit (.bool r))) (C2 : r = true) (K3 : run (n + 7) 52 [formV a0.Objective] = some (.lit (.string r2))) (S4 : (⟨#[109, 105, 110, 105, 109, 105, 122, 101, 32]⟩ : ByteArray).size + r2.size ≤ 9000000000000000000) (D4 : cat = (⟨#[109, 105, 110, 105, 109, 105, 122, 101, 32]⟩ : ByteArray) ++ r2) (S5 : cat.size + (⟨#[10]⟩ : ByteArray).size ≤ 9000000000000000000) (D5 : cat2 = cat ++ (⟨#[10]⟩ : ByteArray)) (K6 : runL (n + 7) 69 [.ptr 0 0, .lit (.string cat2)] [.box 88 [(.lit (.pointer none)), .nl 1] false] = some (.tup [.lit (.int .i64 r3), .lit .nilIface], [(0, .box 88 [.ptr 0 0, .own 1 rb1.size] false), (1, .row 5 1 (strEls rb1) 0)])) (L7 : loopG Tryz.prog (tab (n + 8)) 0 28 (livesOf 16) 6 ptx_C6 (ptx_h6 a0 0 rb1) = some (.exit 0, ptx_o6a ab2)) (K8 : runL (n + 7) 70 [.ptr 0 0] [.box 88 [.ptr 0 0, .own 1 ab2.size] false, .row 5 1 (strEls ab2) 0] = some (.lit (.string r14), [(0, .box 88 [.ptr 0 0, .own 1 ab2.size] false)])) :
    run (n + 8) 16 [programV a0] = some (.lit (.string r14)) := by
  obtain ⟨ks0, hks0⟩ : ∃ k : ByteArray, (⟨#[10]⟩ : ByteArray) = k := ⟨_, rfl⟩
  rw [hks0] at S5 D5
  simp only [programV] at K1
  simp only [formV] at K3
  have S4_r := cat_r S4 D4
  have S4_q := cat_q S4 D4
  have S5_r := cat_r S5 D5
  have S5_q := cat_q S5 D5
  unfold run fnP
  simp +decide [Tryz.f16, K1, C2, K3, ↓S4_r, S4_q, ↓S5_r, S5_q, K6, K8, hks0]
  subst hks0
  rw [loopX_G (C' := ptx_C6) (e := (ptx_h6 a0 0 rb1)) ?_ ?_, L7]
  rotate_left
  · kernel_rfl
  · simp +decide [ptx_h6, K1, C2, K3, K6, K8]
  simp +decide [ptx_o6a, K1, C2, K3, K6, K8]
end Go.Proofs.YtlpmemelhlnfbaaGreatDoor
