import Derived.Test.YtlpmemelhlnfbaaGreatDoorGA16
import Derived.Test.YtlpmemelhlnfbaaGreatDoorGA20
set_option linter.all false
set_option maxRecDepth 100000
set_option maxHeartbeats 6400000
namespace Go.Proofs.YtlpmemelhlnfbaaGreatDoor
open Go.RowKit
noncomputable def va_C2 : Code := (loopsOf (bodyOf Tryz.f51)).getD 0 .skip
def va_h2 (a0 : Form) (a1 : Int) (i_2 : Nat) : St :=
  ⟨[(1, .lit (.int .i64 a1)), (2, .ptr 0 0), (5, .lit (.int .i64 (i_2 : Int)))],
   [(0, some (.box 29 [.sl 4 (a0.1.map termC), .lit (.bool (rawQ a0.2).s), natA (rawQ a0.2).l1, natA (rawQ a0.2).l2] false))], 1⟩
def va_o2a (a0 : Form) : St :=
  ⟨[(2, .ptr 0 0), (4, .lit (.bool false))],
   [(0, some (.box 29 [.sl 4 (a0.1.map termC), .lit (.bool (rawQ a0.2).s), natA (rawQ a0.2).l1, natA (rawQ a0.2).l2] false))], 1⟩
def va_o2b (a0 : Form) : St :=
  ⟨[(2, .ptr 0 0), (4, .any)],
   [(0, some (.box 29 [.sl 4 (a0.1.map termC), .lit (.bool (rawQ a0.2).s), natA (rawQ a0.2).l1, natA (rawQ a0.2).l2] false))], 1⟩
section
variable {a1 : Int} {v4 : Int} {i_2 : Nat} {v5 : Int} {q4 : Rat} {a0 : Form} {q5 : Rat} {n : Nat}
theorem va_r2_1 (C1 : (i_2 : Int) < (a0.1.length : Int)) (E2 : a0.1[i_2]? = some (v4, q4)) (C3 : ¬ v4 < 0) (C4 : ¬ a1 ≤ v4) (C5 : 0 < (i_2 : Int)) (W6 : InI ((i_2 : Int) - 1)) (E7 : a0.1[i_2 - 1]? = some (v5, q5)) (Z7 : 1 ≤ i_2) (C8 : ¬ v4 ≤ v5) (B9a : H q4 ≤ 17179869184) (C10 : ¬ sgR q4 = 0) (W12 : InI ((i_2 : Int) + 1)) :
    Cont 0 (exec Tryz.prog (tab n) 0 59 (livesOf 51) big va_C2) (livesOf 51 2) (va_h2 a0 a1 i_2) (va_h2 a0 a1 (i_2 + 1)) := by
  have C1_ : i_2 < a0.1.length := by omega
  obtain ⟨EL2, EG2⟩ := List.getElem?_eq_some_iff.1 E2
  have C5_ : 0 < i_2 := by omega
  have C5_z : (i_2 : Int) ≠ 0 := by omega
  have C5_e : ((i_2 : Int) == 0) = false := by simpa using C5_z
  have C5_g : ((i_2 : Int) != 0) = true := by simpa using C5_z
  have W6_ : IntKind.i64.wrap ((i_2 : Int) - 1) = (i_2 : Int) - 1 := wr64 W6.1 W6.2
  obtain ⟨EL7, EG7⟩ := List.getElem?_eq_some_iff.1 E7
  have Z7_0 : (1 : Int) ≤ (i_2 : Int) := by omega
  have Z7_1 : 0 ≤ (i_2 : Int) - 1 := by omega
  have K9 := r_sign (p := q4) B9a
  have C10_ : (sgR q4 == 0) = false := by simpa using C10
  have C10_n : (sgR q4 != 0) = true := by simpa using C10
  have K11 := r_valid (p := q4) B9a
  have W12_ : IntKind.i64.wrap ((i_2 : Int) + 1) = (i_2 : Int) + 1 := wr64 W12.1 W12.2
  unfold Cont
  simp +decide [va_h2, loopsOf, Tryz.f51, va_C2, C1, C1_, EL2, EG2, E2, C3, C4, C5, C5_, C5_e, C5_g, W6_, EL7, EG7, E7, Z7, Z7_0, Z7_1, C8, K9, C10_, C10_n, K11, W12_]
theorem va_r2_2 (C1 : (i_2 : Int) < (a0.1.length : Int)) (E2 : a0.1[i_2]? = some (v4, q4)) (C3 : ¬ v4 < 0) (C4 : ¬ a1 ≤ v4) (C5 : ¬ 0 < (i_2 : Int)) (B6a : H q4 ≤ 17179869184) (C7 : ¬ sgR q4 = 0) (W9 : InI ((i_2 : Int) + 1)) :
    Cont 0 (exec Tryz.prog (tab n) 0 59 (livesOf 51) big va_C2) (livesOf 51 2) (va_h2 a0 a1 i_2) (va_h2 a0 a1 (i_2 + 1)) := by
  have C1_ : i_2 < a0.1.length := by omega
  obtain ⟨EL2, EG2⟩ := List.getElem?_eq_some_iff.1 E2
  have C5_ : ¬ 0 < i_2 := by omega
  have C5_z : (i_2 : Int) = 0 := by omega
  have C5_e : ((i_2 : Int) == 0) = true := by rw [C5_z]; simp
  have C5_g : ((i_2 : Int) != 0) = false := by rw [C5_z]; simp
  have K6 := r_sign (p := q4) B6a
  have C7_ : (sgR q4 == 0) = false := by simpa using C7
  have C7_n : (sgR q4 != 0) = true := by simpa using C7
  have K8 := r_valid (p := q4) B6a
  have W9_ : IntKind.i64.wrap ((i_2 : Int) + 1) = (i_2 : Int) + 1 := wr64 W9.1 W9.2
  unfold Cont
  simp +decide [va_h2, loopsOf, Tryz.f51, va_C2, C1, C1_, EL2, EG2, E2, C3, C4, C5, C5_, C5_e, C5_g, K6, C7_, C7_n, K8, W9_]
theorem va_x2_1 (C1 : (i_2 : Int) < (a0.1.length : Int)) (E2 : a0.1[i_2]? = some (v4, q4)) (C3 : v4 < 0) :
    Leave 0 (exec Tryz.prog (tab n) 0 59 (livesOf 51) big va_C2) (livesOf 51 (outOf 2)) (va_h2 a0 a1 i_2) (.ret) (va_o2a a0) := by
  have C1_ : i_2 < a0.1.length := by omega
  obtain ⟨EL2, EG2⟩ := List.getElem?_eq_some_iff.1 E2
  unfold Leave
  simp +decide [va_h2, loopsOf, Tryz.f51, va_o2a, va_C2, C1, C1_, EL2, EG2, E2, C3]
theorem va_x2_2 (C1 : (i_2 : Int) < (a0.1.length : Int)) (E2 : a0.1[i_2]? = some (v4, q4)) (C3 : ¬ v4 < 0) (C4 : a1 ≤ v4) :
    Leave 0 (exec Tryz.prog (tab n) 0 59 (livesOf 51) big va_C2) (livesOf 51 (outOf 2)) (va_h2 a0 a1 i_2) (.ret) (va_o2a a0) := by
  have C1_ : i_2 < a0.1.length := by omega
  obtain ⟨EL2, EG2⟩ := List.getElem?_eq_some_iff.1 E2
  unfold Leave
  simp +decide [va_h2, loopsOf, Tryz.f51, va_o2a, va_C2, C1, C1_, EL2, EG2, E2, C3, C4]
theorem va_x2_3 (C1 : (i_2 : Int) < (a0.1.length : Int)) (E2 : a0.1[i_2]? = some (v4, q4)) (C3 : ¬ v4 < 0) (C4 : ¬ a1 ≤ v4) (C5 : 0 < (i_2 : Int)) (W6 : InI ((i_2 : Int) - 1)) (E7 : a0.1[i_2 - 1]? = some (v5, q5)) (Z7 : 1 ≤ i_2) (C8 : v4 ≤ v5) :
    Leave 0 (exec Tryz.prog (tab n) 0 59 (livesOf 51) big va_C2) (livesOf 51 (outOf 2)) (va_h2 a0 a1 i_2) (.ret) (va_o2a a0) := by
  have C1_ : i_2 < a0.1.length := by omega
  obtain ⟨EL2, EG2⟩ := List.getElem?_eq_some_iff.1 E2
  have C5_ : 0 < i_2 := by omega
  have C5_z : (i_2 : Int) ≠ 0 := by omega
  have C5_e : ((i_2 : Int) == 0) = false := by simpa using C5_z
  have C5_g : ((i_2 : Int) != 0) = true := by simpa using C5_z
  have W6_ : IntKind.i64.wrap ((i_2 : Int) - 1) = (i_2 : Int) - 1 := wr64 W6.1 W6.2
  obtain ⟨EL7, EG7⟩ := List.getElem?_eq_some_iff.1 E7
  have Z7_0 : (1 : Int) ≤ (i_2 : Int) := by omega
  have Z7_1 : 0 ≤ (i_2 : Int) - 1 := by omega
  unfold Leave
  simp +decide [va_h2, loopsOf, Tryz.f51, va_o2a, va_C2, C1, C1_, EL2, EG2, E2, C3, C4, C5, C5_, C5_e, C5_g, W6_, EL7, EG7, E7, Z7, Z7_0, Z7_1, C8]
theorem va_x2_4 (C1 : (i_2 : Int) < (a0.1.length : Int)) (E2 : a0.1[i_2]? = some (v4, q4)) (C3 : ¬ v4 < 0) (C4 : ¬ a1 ≤ v4) (C5 : 0 < (i_2 : Int)) (W6 : InI ((i_2 : Int) - 1)) (E7 : a0.1[i_2 - 1]? = some (v5, q5)) (Z7 : 1 ≤ i_2) (C8 : ¬ v4 ≤ v5) (B9a : H q4 ≤ 17179869184) (C10 : sgR q4 = 0) :
    Leave 0 (exec Tryz.prog (tab n) 0 59 (livesOf 51) big va_C2) (livesOf 51 (outOf 2)) (va_h2 a0 a1 i_2) (.ret) (va_o2a a0) := by
  have C1_ : i_2 < a0.1.length := by omega
  obtain ⟨EL2, EG2⟩ := List.getElem?_eq_some_iff.1 E2
  have C5_ : 0 < i_2 := by omega
  have C5_z : (i_2 : Int) ≠ 0 := by omega
  have C5_e : ((i_2 : Int) == 0) = false := by simpa using C5_z
  have C5_g : ((i_2 : Int) != 0) = true := by simpa using C5_z
  have W6_ : IntKind.i64.wrap ((i_2 : Int) - 1) = (i_2 : Int) - 1 := wr64 W6.1 W6.2
  obtain ⟨EL7, EG7⟩ := List.getElem?_eq_some_iff.1 E7
  have Z7_0 : (1 : Int) ≤ (i_2 : Int) := by omega
  have Z7_1 : 0 ≤ (i_2 : Int) - 1 := by omega
  have K9 := r_sign (p := q4) B9a
  have C10_ : (sgR q4 == 0) = true := by rw [C10]; simp
  have C10_n : (sgR q4 != 0) = false := by rw [C10]; simp
  unfold Leave
  simp +decide [va_h2, loopsOf, Tryz.f51, va_o2a, va_C2, C1, C1_, EL2, EG2, E2, C3, C4, C5, C5_, C5_e, C5_g, W6_, EL7, EG7, E7, Z7, Z7_0, Z7_1, C8, K9, C10_, C10_n]
theorem va_x2_5 (C1 : (i_2 : Int) < (a0.1.length : Int)) (E2 : a0.1[i_2]? = some (v4, q4)) (C3 : ¬ v4 < 0) (C4 : ¬ a1 ≤ v4) (C5 : ¬ 0 < (i_2 : Int)) (B6a : H q4 ≤ 17179869184) (C7 : sgR q4 = 0) :
    Leave 0 (exec Tryz.prog (tab n) 0 59 (livesOf 51) big va_C2) (livesOf 51 (outOf 2)) (va_h2 a0 a1 i_2) (.ret) (va_o2a a0) := by
  have C1_ : i_2 < a0.1.length := by omega
  obtain ⟨EL2, EG2⟩ := List.getElem?_eq_some_iff.1 E2
  have C5_ : ¬ 0 < i_2 := by omega
  have C5_z : (i_2 : Int) = 0 := by omega
  have C5_e : ((i_2 : Int) == 0) = true := by rw [C5_z]; simp
  have C5_g : ((i_2 : Int) != 0) = false := by rw [C5_z]; simp
  have K6 := r_sign (p := q4) B6a
  have C7_ : (sgR q4 == 0) = true := by rw [C7]; simp
  have C7_n : (sgR q4 != 0) = false := by rw [C7]; simp
  unfold Leave
  simp +decide [va_h2, loopsOf, Tryz.f51, va_o2a, va_C2, C1, C1_, EL2, EG2, E2, C3, C4, C5, C5_, C5_e, C5_g, K6, C7_, C7_n]
theorem va_x2_6 (C1 : ¬ (i_2 : Int) < (a0.1.length : Int)) :
    Leave 0 (exec Tryz.prog (tab n) 0 59 (livesOf 51) big va_C2) (livesOf 51 (outOf 2)) (va_h2 a0 a1 i_2) (.exit 0) (va_o2b a0) := by
  have C1_ : ¬ i_2 < a0.1.length := by omega
  unfold Leave
  simp +decide [va_h2, loopsOf, Tryz.f51, va_o2b, va_C2, C1, C1_]
theorem va_f1 (L1 : loopG Tryz.prog (tab n) 0 59 (livesOf 51) 2 va_C2 (va_h2 a0 a1 0) = some (.ret, va_o2a a0)) :
    run n 51 [formV a0, .lit (.int .i64 a1)] = some (.lit (.bool false)) := by
  unfold run fnP
  simp +decide [Tryz.f51]
  rw [loopX_G (C' := va_C2) (e := (va_h2 a0 a1 0)) ?_ ?_, L1]
  rotate_left
  · kernel_rfl
  · simp +decide [va_h2]
  simp +decide [va_o2a]
theorem va_f2 (L1 : loopG Tryz.prog (tab n) 0 59 (livesOf 51) 2 va_C2 (va_h2 a0 a1 0) = some (.exit 0, va_o2b a0)) (B2a : H a0.2 ≤ 17179869184) :
    run n 51 [formV a0, .lit (.int .i64 a1)] = some (.lit (.bool true)) := by
  have K2 := r_valid (p := a0.2) B2a
  unfold run fnP
  simp +decide [Tryz.f51, K2]
  rw [loopX_G (C' := va_C2) (e := (va_h2 a0 a1 0)) ?_ ?_, L1]
  rotate_left
  · kernel_rfl
  · simp +decide [va_h2, K2]
  simp +decide [va_o2b, K2]
end
noncomputable def vl_C2 : Code := (loopsOf (bodyOf Tryz.f91)).getD 0 .skip
def vl_h2 (a0 : List Form) (a1 : Int) (i_2 : Nat) : St :=
  ⟨[(0, .sl 4 (a0.map formC)), (1, .lit (.int .i64 a1)), (5, .lit (.int .i64 (i_2 : Int)))],
   [], 0⟩
def vl_o2a  : St :=
  ⟨[(4, .lit (.bool false))],
   [], 0⟩
def vl_o2b  : St :=
  ⟨[(4, .any)],
   [], 0⟩
section
variable {a1 : Int} {r3 : Bool} {i_2 : Nat} {q3 : Rat} {a0 : List Form} {F3 : List (Int × Rat)} {n : Nat}
theorem vl_r2_1 (C1 : (i_2 : Int) < (a0.length : Int)) (E2 : a0[i_2]? = some (F3, q3)) (K3 : run n 51 [formV (F3, q3), .lit (.int .i64 a1)] = some (.lit (.bool r3))) (C4 : r3 = true) (W5 : InI ((i_2 : Int) + 1)) :
    Cont 0 (exec Tryz.prog (tab (n + 1)) 0 19 (livesOf 91) big vl_C2) (livesOf 91 2) (vl_h2 a0 a1 i_2) (vl_h2 a0 a1 (i_2 + 1)) := by
  have C1_ : i_2 < a0.length := by omega
  obtain ⟨EL2, EG2⟩ := List.getElem?_eq_some_iff.1 E2
  simp only [formV] at K3
  have W5_ : IntKind.i64.wrap ((i_2 : Int) + 1) = (i_2 : Int) + 1 := wr64 W5.1 W5.2
  unfold Cont
  simp +decide [vl_h2, loopsOf, Tryz.f91, vl_C2, C1, C1_, EL2, EG2, E2, K3, C4, W5_]
theorem vl_x2_1 (C1 : (i_2 : Int) < (a0.length : Int)) (E2 : a0[i_2]? = some (F3, q3)) (K3 : run n 51 [formV (F3, q3), .lit (.int .i64 a1)] = some (.lit (.bool r3))) (C4 : r3 = false) :
    Leave 0 (exec Tryz.prog (tab (n + 1)) 0 19 (livesOf 91) big vl_C2) (livesOf 91 (outOf 2)) (vl_h2 a0 a1 i_2) (.ret) (vl_o2a ) := by
  have C1_ : i_2 < a0.length := by omega
  obtain ⟨EL2, EG2⟩ := List.getElem?_eq_some_iff.1 E2
  simp only [formV] at K3
  unfold Leave
  simp +decide [vl_h2, loopsOf, Tryz.f91, vl_o2a, vl_C2, C1, C1_, EL2, EG2, E2, K3, C4]
theorem vl_x2_2 (C1 : ¬ (i_2 : Int) < (a0.length : Int)) :
    Leave 0 (exec Tryz.prog (tab (n + 1)) 0 19 (livesOf 91) big vl_C2) (livesOf 91 (outOf 2)) (vl_h2 a0 a1 i_2) (.exit 0) (vl_o2b ) := by
  have C1_ : ¬ i_2 < a0.length := by omega
  unfold Leave
  simp +decide [vl_h2, loopsOf, Tryz.f91, vl_o2b, vl_C2, C1, C1_]
theorem vl_f1 (L1 : loopG Tryz.prog (tab (n + 1)) 0 19 (livesOf 91) 2 vl_C2 (vl_h2 a0 a1 0) = some (.ret, vl_o2a )) :
    run (n + 1) 91 [.sl 4 (a0.map formC), .lit (.int .i64 a1)] = some (.lit (.bool false)) := by
  unfold run fnP
  simp +decide [Tryz.f91]
  rw [loopX_G (C' := vl_C2) (e := (vl_h2 a0 a1 0)) ?_ ?_, L1]
  rotate_left
  · kernel_rfl
  · simp +decide [vl_h2]
  simp +decide [vl_o2a]
theorem vl_f2 (L1 : loopG Tryz.prog (tab (n + 1)) 0 19 (livesOf 91) 2 vl_C2 (vl_h2 a0 a1 0) = some (.exit 0, vl_o2b )) :
    run (n + 1) 91 [.sl 4 (a0.map formC), .lit (.int .i64 a1)] = some (.lit (.bool true)) := by
  unfold run fnP
  simp +decide [Tryz.f91]
  rw [loopX_G (C' := vl_C2) (e := (vl_h2 a0 a1 0)) ?_ ?_, L1]
  rotate_left
  · kernel_rfl
  · simp +decide [vl_h2]
  simp +decide [vl_o2b]
end
end Go.Proofs.YtlpmemelhlnfbaaGreatDoor
set_option linter.all false
set_option maxRecDepth 100000
set_option maxHeartbeats 6400000
namespace Go.Proofs.YtlpmemelhlnfbaaGreatDoor
open Go.RowKit
attribute [local irreducible] run runL loopG exec
theorem sgq_nonneg {q : Rat} : 0 ≤ sgR q ↔ 0 ≤ q := by
  unfold sgR
  rw [← Rat.num_nonneg]
  exact Int.sign_nonneg_iff
noncomputable def tv (p : Prop) : Bool := @decide p (Classical.propDecidable p)
theorem tv_t {p : Prop} (h : p) : tv p = true := @decide_eq_true p (Classical.propDecidable p) h
theorem tv_f {p : Prop} (h : ¬ p) : tv p = false := @decide_eq_false p (Classical.propDecidable p) h
theorem tv_true {p : Prop} (h : tv p = true) : p := @of_decide_eq_true p (Classical.propDecidable p) h
theorem tv_false {p : Prop} (h : tv p = false) : ¬ p := @of_decide_eq_false p (Classical.propDecidable p) h
theorem tv_iff {p q : Prop} (h : p ↔ q) : tv p = tv q := by rw [propext h]
def OkTm (F : List (Int × Rat)) (vars : Int) (i : Nat) : Prop := ∀ v c, F[i]? = some (v, c) → 0 ≤ v ∧ v < vars ∧ c ≠ 0 ∧ ∀ v' c', 0 < i → F[i - 1]? = some (v', c') → v' < v
def OkFm (f : Form) (vars : Int) : Prop := ∀ i, i < f.1.length → OkTm f.1 vars i
structure BdF (b : Nat) (f : Form) : Prop where
  l : f.1.length ≤ 100000000
  t : ∀ t ∈ f.1, H t.2 ≤ b
  k : H f.2 ≤ b
theorem BdF.mono {b c : Nat} {f : Form} (h : BdF b f) (hb : b ≤ c) : BdF c f := ⟨h.l, fun t ht => Nat.le_trans (h.t t ht) hb, Nat.le_trans h.k hb⟩
theorem validF_c {n : Nat} {f : Form} {vars : Int} (hB : BdF 17179869184 f) : run n 51 [formV f, .lit (.int .i64 vars)] = some (.lit (.bool (tv (OkFm f vars)))) := by
  have hl := hB.l
  have L := loopG_all (O := tab n) (P := Tryz.prog) (m := 0) (N := 59) (lives := livesOf 51) (r := 2) (C := va_C2) (M := f.1.length) (enc := va_h2 f vars) (p := fun i => tv (OkTm f.1 vars i)) (exN := .exit 0) (exE := .ret) (out := va_o2b f) (outE := va_o2a f) (by omega) (by simp) (by simp)
    (fun i hi hI => by
      have hx : f.1[i]? = some f.1[i] := List.getElem?_eq_getElem hi
      generalize f.1[i] = t at hx
      obtain ⟨v, c⟩ := t
      have hc : H c ≤ 17179869184 := hB.t _ (List.mem_of_getElem? hx)
      have C1 : (i : Int) < (f.1.length : Int) := by omega
      have W : InI ((i : Int) + 1) := ⟨by omega, by omega⟩
      have W2 : InI ((i : Int) - 1) := ⟨by omega, by omega⟩
      have hs : sgR c = 0 ↔ c = 0 := sgR_eq_zero
      by_cases h0 : 0 < i
      · have hy : f.1[i - 1]? = some (f.1[i - 1]'(by omega)) := List.getElem?_eq_getElem _
        generalize f.1[i - 1]'(by omega) = t at hy
        obtain ⟨v', c'⟩ := t
        refine ⟨fun hp => ?_, fun hp => ?_⟩
        · obtain ⟨a1, a2, a3, a4⟩ := tv_true hp v c hx
          have a5 := a4 v' c' h0 hy
          exact va_r2_1 C1 hx (by omega) (by omega) (by omega) W2 hy (by omega) (by omega) hc (fun h => a3 (hs.1 h)) W
        · by_cases b1 : v < 0
          · exact va_x2_1 C1 hx b1
          · by_cases b2 : vars ≤ v
            · exact va_x2_2 C1 hx b1 b2
            · by_cases b3 : v ≤ v'
              · exact va_x2_3 C1 hx b1 b2 (by omega) W2 hy (by omega) b3
              · by_cases b4 : c = 0
                · exact va_x2_4 C1 hx b1 b2 (by omega) W2 hy (by omega) b3 hc (hs.2 b4)
                · refine absurd (fun u d hu => ?_) (tv_false hp)
                  rw [hx] at hu; cases hu
                  exact ⟨by omega, by omega, b4, fun v2 c2 _ h2 => by rw [hy] at h2; cases h2; omega⟩
      · refine ⟨fun hp => ?_, fun hp => ?_⟩
        · obtain ⟨a1, a2, a3, a4⟩ := tv_true hp v c hx
          exact va_r2_2 C1 hx (by omega) (by omega) (by omega) hc (fun h => a3 (hs.1 h)) W
        · by_cases b1 : v < 0
          · exact va_x2_1 C1 hx b1
          · by_cases b2 : vars ≤ v
            · exact va_x2_2 C1 hx b1 b2
            · by_cases b4 : c = 0
              · exact va_x2_5 C1 hx b1 b2 (by omega) hc (hs.2 b4)
              · refine absurd (fun u d hu => ?_) (tv_false hp)
                rw [hx] at hu; cases hu
                exact ⟨by omega, by omega, b4, fun v2 c2 h2 => absurd h2 h0⟩)
    (va_x2_6 (by omega))
  by_cases h : OkFm f vars
  · rw [if_pos (fun i hi => tv_t (h i hi))] at L
    rw [tv_t h]
    exact va_f2 L hB.k
  · rw [if_neg (fun h2 => h fun i hi => tv_true (h2 i hi))] at L
    rw [tv_f h]
    exact va_f1 L
theorem all_idx {α : Type} {L : List α} {p : α → Prop} : (∀ i, i < L.length → ∀ x, L[i]? = some x → p x) ↔ ∀ x ∈ L, p x := by
  constructor
  · intro h x hx
    obtain ⟨i, hi⟩ := List.mem_iff_getElem?.1 hx
    exact h i (List.getElem?_eq_some_iff.1 hi).1 x hi
  · intro h i _ x hx
    exact h x (List.mem_of_getElem? hx)
end Go.Proofs.YtlpmemelhlnfbaaGreatDoor
set_option linter.all false
namespace Go.Proofs.YtlpmemelhlnfbaaGreatDoor
open Go.RowKit
def Srt (F : List (Int × Rat)) : Prop := F.Pairwise (fun a b => a.1 < b.1) ∧ ∀ t ∈ F, t.2 ≠ 0
def LBd (k : Int) (F : List (Int × Rat)) : Prop := ∀ t ∈ F, k < t.1
def cof : List (Int × Rat) → Int → Rat
  | [], _ => 0
  | t :: l, u => if t.1 = u then t.2 else cof l u
theorem cof_nil (u : Int) : cof [] u = 0 := rfl
theorem cof_hd {t : Int × Rat} {F : List (Int × Rat)} {u : Int} (h : u = t.1) : cof (t :: F) u = t.2 := by unfold cof; rw [if_pos h.symm]
theorem cof_tl {t : Int × Rat} {F : List (Int × Rat)} {u : Int} (h : u ≠ t.1) : cof (t :: F) u = cof F u := by rw [cof, if_neg fun e => h e.symm]
theorem Srt.nil : Srt [] := ⟨List.Pairwise.nil, fun t ht => by cases ht⟩
theorem Srt.tail {t : Int × Rat} {F : List (Int × Rat)} (h : Srt (t :: F)) : Srt F := ⟨(List.pairwise_cons.1 h.1).2, fun u hu => h.2 u (by simp [hu])⟩
theorem Srt.head {t : Int × Rat} {F : List (Int × Rat)} (h : Srt (t :: F)) : LBd t.1 F := fun u hu => (List.pairwise_cons.1 h.1).1 u hu
theorem Srt.nz {t : Int × Rat} {F : List (Int × Rat)} (h : Srt (t :: F)) : t.2 ≠ 0 := h.2 t (by simp)
theorem cof_low : ∀ {F : List (Int × Rat)} {u : Int}, (∀ t ∈ F, t.1 ≠ u) → cof F u = 0
  | [], _, _ => rfl
  | t :: F, u, h => by rw [cof, if_neg (h t (by simp))]; exact cof_low fun x hx => h x (by simp [hx])
theorem LBd.cof {F : List (Int × Rat)} {k u : Int} (h : LBd k F) (hu : u ≤ k) : cof F u = 0 := cof_low fun t ht e => by have := h t ht; omega
theorem LBd.mono {F : List (Int × Rat)} {k j : Int} (h : LBd k F) (hj : j ≤ k) : LBd j F := fun t ht => by have := h t ht; omega
theorem put_srt {F : List (Int × Rat)} {v : Int} {q : Rat} (h : Srt F) (hl : LBd v F) : Srt (put1 v q ++ F) ∧ (∀ u, cof (put1 v q ++ F) u = if u = v then q else cof F u) ∧ ∀ k, k < v → LBd k (put1 v q ++ F) := by
  unfold put1
  split
  · rename_i h0
    rw [List.nil_append]
    refine ⟨h, fun u => ?_, fun k hk => hl.mono (by omega)⟩
    split
    · rename_i e; subst e; rw [hl.cof (Int.le_refl _), h0]
    · rfl
  · rename_i h0
    refine ⟨⟨List.pairwise_cons.2 ⟨fun x hx => hl x hx, h.1⟩, fun t ht => ?_⟩, fun u => ?_, fun k hk t ht => ?_⟩
    · rcases List.mem_cons.1 ht with rfl | ht
      · exact h0
      · exact h.2 t ht
    · show cof ((v, q) :: F) u = _
      rw [cof]
      by_cases e : v = u
      · rw [if_pos e, if_pos e.symm]
      · rw [if_neg e, if_neg fun e2 => e e2.symm]
    · rcases List.mem_cons.1 ht with rfl | ht
      · exact hk
      · have := hl t ht; omega
theorem srt_ext : ∀ {F G : List (Int × Rat)}, Srt F → Srt G → (∀ u, cof F u = cof G u) → F = G
  | [], [], _, _, _ => rfl
  | [], t :: G, _, hg, h => by
    have := h t.1
    rw [cof_nil, cof_hd rfl] at this
    exact absurd this.symm hg.nz
  | t :: F, [], hf, _, h => by
    have := h t.1
    rw [cof_nil, cof_hd rfl] at this
    exact absurd this hf.nz
  | (v, q) :: F, (u, p) :: G, hf, hg, h => by
    have e : v = u := by
      rcases Int.lt_trichotomy v u with h1 | h1 | h1
      · have h2 := h v
        rw [cof_hd rfl, cof_tl (by dsimp only; omega), hg.head.cof (by dsimp only; omega)] at h2
        exact absurd h2 hf.nz
      · exact h1
      · have h2 := h u
        rw [cof_tl (by dsimp only; omega), hf.head.cof (by dsimp only; omega), cof_hd rfl] at h2
        exact absurd h2.symm hg.nz
    subst e
    have e2 : q = p := by
      have h2 := h v
      rw [cof_hd rfl, cof_hd rfl] at h2
      exact h2
    subst e2
    rw [srt_ext hf.tail hg.tail fun u => ?_]
    by_cases e : u = v
    · subst e
      rw [hf.head.cof (Int.le_refl _), hg.head.cof (Int.le_refl _)]
    · have h2 := h u
      rw [cof_tl e, cof_tl e] at h2
      exact h2
theorem plus_done {F : List (Int × Rat)} {v : Int} {c : Rat} (h : LBd v F) (hz : ∀ t ∈ F, t.2 ≠ 0) : plusV true F v c = F := by
  induction F with
  | nil => rfl
  | cons t F ih =>
    have h1 := h t (by simp)
    rw [plusV_lt (by omega) (.inl rfl), ih (fun x hx => h x (by simp [hx])) fun x hx => hz x (by simp [hx])]
    unfold put1
    rw [if_neg (hz t (by simp))]
    rfl
theorem put_one {t : Int × Rat} {F : List (Int × Rat)} (h : t.2 ≠ 0) : put1 t.1 t.2 ++ F = t :: F := by unfold put1; rw [if_neg h]; rfl
theorem plus_srt {v : Int} {c : Rat} : ∀ {F : List (Int × Rat)}, Srt F → Srt (plusV false F v c) ∧ (∀ u, cof (plusV false F v c) u = cof F u + if u = v then c else 0) ∧ ∀ k, k < v → LBd k F → LBd k (plusV false F v c)
  | [], h => by
    have e : plusV false [] v c = put1 v c ++ [] := by rw [List.append_nil]; rfl
    rw [e]
    obtain ⟨h1, h2, h3⟩ := put_srt (v := v) (q := c) h (fun t ht => by cases ht)
    refine ⟨h1, fun u => ?_, fun k hk _ => h3 k hk⟩
    rw [h2, cof_nil]
    split <;> grind
  | t :: F, h => by
    have hd := h.head
    rcases Int.lt_trichotomy t.1 v with h1 | h1 | h1
    · obtain ⟨a1, a2, a3⟩ := plus_srt (v := v) (c := c) h.tail
      rw [plusV_lt (by omega) (.inr h1)]
      obtain ⟨b1, b2, b3⟩ := put_srt (v := t.1) (q := t.2) a1 (a3 _ h1 hd)
      refine ⟨b1, fun u => ?_, fun k hk hl => b3 k (hl t (by simp))⟩
      rw [b2, a2]
      by_cases e : u = t.1
      · rw [if_pos e, cof_hd e, if_neg (by omega)]; grind
      · rw [if_neg e, cof_tl e]
    · rw [plusV_eq h1, plus_done (by rw [← h1]; exact hd) h.tail.2]
      obtain ⟨b1, b2, b3⟩ := put_srt (v := t.1) (q := t.2 + c) h.tail hd
      refine ⟨b1, fun u => ?_, fun k hk hl => b3 k (hl t (by simp))⟩
      rw [b2]
      by_cases e : u = t.1
      · have e5 : u = v := by omega
        rw [if_pos e, if_pos e5, cof_hd e]
      · have e5 : ¬ u = v := by omega
        rw [if_neg e, if_neg e5, cof_tl e]; grind
    · rw [plusV_gt h1, plus_done (hd.mono (by omega)) h.tail.2, put_one h.nz]
      obtain ⟨b1, b2, b3⟩ := put_srt (v := v) (q := c) h (fun x hx => by
        rcases List.mem_cons.1 hx with rfl | hx
        · exact h1
        · have := hd x hx; omega)
      refine ⟨b1, fun u => ?_, fun k hk hl => b3 k hk⟩
      rw [b2]
      by_cases e : u = v
      · have e3 : cof (t :: F) u = 0 := cof_low fun x hx => by
          rcases List.mem_cons.1 hx with rfl | hx
          · omega
          · have := hd x hx; omega
        rw [if_pos e, if_pos e, e3]
        grind
      · rw [if_neg e, if_neg e]; grind
theorem add_srt : ∀ {G F : List (Int × Rat)}, Srt F → Srt G → Srt (addV F G) ∧ ∀ u, cof (addV F G) u = cof F u + cof G u
  | [], F, hf, _ => ⟨hf, fun u => by rw [cof_nil]; show cof F u = _; grind⟩
  | t :: G, F, hf, hg => by
    obtain ⟨a1, a2, _⟩ := plus_srt (v := t.1) (c := t.2) hf
    obtain ⟨b1, b2⟩ := add_srt a1 hg.tail
    refine ⟨b1, fun u => ?_⟩
    show cof (addV (plusV false F t.1 t.2) G) u = _
    rw [b2, a2]
    by_cases e : u = t.1
    · rw [if_pos e, cof_hd e, hg.head.cof (by omega)]; grind
    · rw [if_neg e, cof_tl e]; grind
theorem merge_srt {c : Rat} : ∀ (n : Nat) {F G : List (Int × Rat)}, F.length + G.length ≤ n → Srt F → Srt G → Srt (mergeV F G c) ∧ (∀ u, cof (mergeV F G c) u = cof F u + cof G u * c) ∧ ∀ k, LBd k F → LBd k G → LBd k (mergeV F G c)
  | n, [], [], _, hf, hg => by rw [mergeV_nil]; exact ⟨hf, fun u => by rw [cof_nil]; grind, fun k h _ => h⟩
  | 0, a :: F, G, hn, _, _ => by simp at hn
  | 0, [], b :: G, hn, _, _ => by simp at hn
  | n + 1, a :: F, [], hn, hf, hg => by
    obtain ⟨a1, a2, a3⟩ := merge_srt (c := c) n (F := F) (G := []) (by simp at hn ⊢; omega) hf.tail hg
    rw [mergeV_a]
    obtain ⟨b1, b2, b3⟩ := put_srt (v := a.1) (q := a.2) a1 (a3 _ hf.head fun t ht => by cases ht)
    refine ⟨b1, fun u => ?_, fun k h1 _ => b3 k (h1 a (by simp))⟩
    rw [b2, a2]
    by_cases e : u = a.1
    · rw [if_pos e, cof_hd e, cof_nil]; grind
    · rw [if_neg e, cof_tl e]
  | n + 1, [], b :: G, hn, hf, hg => by
    obtain ⟨a1, a2, a3⟩ := merge_srt (c := c) n (F := []) (G := G) (by simp at hn ⊢; omega) hf hg.tail
    rw [mergeV_b]
    obtain ⟨b1, b2, b3⟩ := put_srt (v := b.1) (q := b.2 * c) a1 (a3 _ (fun t ht => by cases ht) hg.head)
    refine ⟨b1, fun u => ?_, fun k _ h1 => b3 k (h1 b (by simp))⟩
    rw [b2, a2]
    by_cases e : u = b.1
    · rw [if_pos e, cof_hd e, cof_nil]; grind
    · rw [if_neg e, cof_tl e]
  | n + 1, a :: F, b :: G, hn, hf, hg => by
    simp only [List.length_cons] at hn
    rcases Int.lt_trichotomy a.1 b.1 with h1 | h1 | h1
    · obtain ⟨a1, a2, a3⟩ := merge_srt (c := c) n (F := F) (G := b :: G) (by simp; omega) hf.tail hg
      rw [mergeV_lt h1]
      obtain ⟨b1, b2, b3⟩ := put_srt (v := a.1) (q := a.2) a1 (a3 _ hf.head fun t ht => by
        rcases List.mem_cons.1 ht with rfl | ht
        · exact h1
        · have := hg.head t ht; omega)
      refine ⟨b1, fun u => ?_, fun k h2 _ => b3 k (h2 a (by simp))⟩
      rw [b2, a2]
      by_cases e : u = a.1
      · have e3 : cof (b :: G) u = 0 := cof_low fun x hx => by
          rcases List.mem_cons.1 hx with rfl | hx
          · omega
          · have := hg.head x hx; omega
        have e4 : cof (a :: F) u = a.2 := cof_hd e
        rw [if_pos e, e3, e4]; grind
      · have e4 : cof (a :: F) u = cof F u := cof_tl e
        rw [if_neg e, e4]
    · obtain ⟨a1, a2, a3⟩ := merge_srt (c := c) n (F := F) (G := G) (by omega) hf.tail hg.tail
      rw [mergeV_eq h1]
      obtain ⟨b1, b2, b3⟩ := put_srt (v := a.1) (q := a.2 + b.2 * c) a1 (a3 _ hf.head (by rw [h1]; exact hg.head))
      refine ⟨b1, fun u => ?_, fun k h2 _ => b3 k (h2 a (by simp))⟩
      rw [b2, a2]
      by_cases e : u = a.1
      · rw [if_pos e, cof_hd e, cof_hd (u := u) (by omega)]
      · have e3 : cof (b :: G) u = cof G u := cof_tl (by omega)
        have e4 : cof (a :: F) u = cof F u := cof_tl e
        rw [if_neg e, e3, e4]
    · obtain ⟨a1, a2, a3⟩ := merge_srt (c := c) n (F := a :: F) (G := G) (by simp; omega) hf hg.tail
      rw [mergeV_gt h1]
      obtain ⟨b1, b2, b3⟩ := put_srt (v := b.1) (q := b.2 * c) a1 (a3 _ (fun t ht => by
        rcases List.mem_cons.1 ht with rfl | ht
        · exact h1
        · have := hf.head t ht; omega) hg.head)
      refine ⟨b1, fun u => ?_, fun k _ h2 => b3 k (h2 b (by simp))⟩
      rw [b2, a2]
      by_cases e : u = b.1
      · have e3 : cof (a :: F) u = 0 := cof_low fun x hx => by
          rcases List.mem_cons.1 hx with rfl | hx
          · omega
          · have := hf.head x hx; omega
        have e4 : cof (b :: G) u = b.2 := cof_hd e
        rw [if_pos e, e3, e4]; grind
      · have e4 : cof (b :: G) u = cof G u := cof_tl e
        rw [if_neg e, e4]
theorem merge_scl (c : Rat) : ∀ (F : List (Int × Rat)), mergeV [] F c = sclV F c
  | [] => mergeV_nil c
  | t :: F => by rw [mergeV_b, merge_scl c F]; simp [sclV]
theorem scl_srt {F : List (Int × Rat)} {c : Rat} (h : Srt F) : Srt (sclV F c) ∧ ∀ u, cof (sclV F c) u = cof F u * c := by
  rw [← merge_scl]
  obtain ⟨a1, a2, _⟩ := merge_srt (c := c) _ (Nat.le_refl _) Srt.nil h
  exact ⟨a1, fun u => by rw [a2, cof_nil]; grind⟩
theorem merge_add {F G : List (Int × Rat)} {c : Rat} (hf : Srt F) (hg : Srt G) : mergeV F G c = addV F (sclV G c) := by
  obtain ⟨a1, a2, _⟩ := merge_srt (c := c) _ (Nat.le_refl _) hf hg
  obtain ⟨b1, b2⟩ := scl_srt (c := c) hg
  obtain ⟨d1, d2⟩ := add_srt hf b1
  exact srt_ext a1 d1 fun u => by rw [a2, d2, b2]
theorem OkFm.srt {f : Form} {vars : Int} (h : OkFm f vars) : Srt f.1 ∧ ∀ t ∈ f.1, 0 ≤ t.1 ∧ t.1 < vars := by
  have key : ∀ (i : Nat) (hi : i < f.1.length), 0 ≤ (f.1[i]).1 ∧ (f.1[i]).1 < vars ∧ (f.1[i]).2 ≠ 0 ∧ ∀ (h0 : 0 < i), (f.1[i - 1]'(by omega)).1 < (f.1[i]).1 := fun i hi => by
    obtain ⟨a1, a2, a3, a4⟩ := h i hi (f.1[i]).1 (f.1[i]).2 (List.getElem?_eq_getElem hi)
    exact ⟨a1, a2, a3, fun h0 => a4 _ (f.1[i - 1]'(by omega)).2 h0 (List.getElem?_eq_getElem _)⟩
  have ord : ∀ (j i : Nat) (hj : j < f.1.length) (hij : i < j), (f.1[i]'(by omega)).1 < (f.1[j]).1 := fun j => by
    induction j with
    | zero => intro i hj hij; omega
    | succ j ih =>
      intro i hj hij
      have h1 := (key (j + 1) hj).2.2.2 (by omega)
      have h2 : (f.1[j + 1 - 1]'(by omega)) = f.1[j]'(by omega) := rfl
      rw [h2] at h1
      by_cases e : i = j
      · subst e; exact h1
      · have := ih i (by omega) (by omega); omega
  refine ⟨⟨List.pairwise_iff_getElem.2 fun i j hi hj hij => ord j i hj hij, fun t ht => ?_⟩, fun t ht => ?_⟩
  · obtain ⟨i, hi, rfl⟩ := List.getElem_of_mem ht
    exact (key i hi).2.2.1
  · obtain ⟨i, hi, rfl⟩ := List.getElem_of_mem ht
    exact ⟨(key i hi).1, (key i hi).2.1⟩
end Go.Proofs.YtlpmemelhlnfbaaGreatDoor
set_option linter.all false
set_option maxRecDepth 100000
namespace Go.Proofs.YtlpmemelhlnfbaaGreatDoor
open Go.RowKit
def smc : List (Int × Rat) → Int → Rat
  | [], _ => 0
  | t :: L, u => (if u = t.1 then t.2 else 0) + smc L u
theorem smc_perm {R L : List (Int × Rat)} (h : R.Perm L) (u : Int) : smc R u = smc L u := by
  induction h with
  | nil => rfl
  | cons x _ ih => simp only [smc]; rw [ih]
  | swap x y l => simp only [smc]; grind
  | trans _ _ a b => exact a.trans b
theorem smc_snoc (t : Int × Rat) (u : Int) : ∀ L : List (Int × Rat), smc (L ++ [t]) u = smc L u + if u = t.1 then t.2 else 0
  | [] => by simp only [smc, List.nil_append]; grind
  | s :: L => by rw [List.cons_append, smc, smc, smc_snoc t u L]; grind
theorem smc_take {R : List (Int × Rat)} {j : Nat} {t : Int × Rat} (h : R[j]? = some t) (u : Int) : smc (R.take (j + 1)) u = smc (R.take j) u + if u = t.1 then t.2 else 0 := by
  rw [List.take_add_one, h]; exact smc_snoc t u _
theorem cof_snoc (v : Int) (s : Rat) (u : Int) : ∀ F : List (Int × Rat), (∀ t ∈ F, t.1 ≠ v) → cof (F ++ [(v, s)]) u = cof F u + if u = v then s else 0
  | [], _ => by
    show cof [(v, s)] u = cof [] u + _
    rw [cof_nil]
    by_cases e : u = v
    · rw [cof_hd (t := (v, s)) e, if_pos e]; grind
    · rw [cof_tl (t := (v, s)) e, cof_nil, if_neg e]; grind
  | t :: F, h => by
    rw [List.cons_append]
    by_cases e : u = t.1
    · rw [cof_hd e, cof_hd e, if_neg (by rw [e]; exact h t (by simp))]; grind
    · rw [cof_tl e, cof_tl e, cof_snoc v s u F fun x hx => h x (by simp [hx])]
theorem add_any : ∀ {G F : List (Int × Rat)}, Srt F → Srt (addV F G) ∧ ∀ u, cof (addV F G) u = cof F u + smc G u
  | [], F, hf => ⟨hf, fun u => by rw [smc]; show cof F u = _; grind⟩
  | t :: G, F, hf => by
    obtain ⟨a1, a2, _⟩ := plus_srt (v := t.1) (c := t.2) hf
    obtain ⟨b1, b2⟩ := add_any (G := G) a1
    refine ⟨b1, fun u => ?_⟩
    show cof (addV (plusV false F t.1 t.2) G) u = _
    rw [b2, a2, smc]; grind
theorem Srt.snoc {F : List (Int × Rat)} {v : Int} {s : Rat} (h : Srt F) (hl : ∀ t ∈ F, t.1 < v) (h0 : s ≠ 0) : Srt (F ++ [(v, s)]) := by
  refine ⟨List.pairwise_append.2 ⟨h.1, by simp, fun a ha b hb => ?_⟩, fun t ht => ?_⟩
  · simp at hb; rw [hb]; exact hl a ha
  · rcases List.mem_append.1 ht with h1 | h1
    · exact h.2 t h1
    · simp at h1; rw [h1]; exact h0
end Go.Proofs.YtlpmemelhlnfbaaGreatDoor
set_option linter.all false
set_option maxRecDepth 100000
set_option maxHeartbeats 6400000
namespace Go.Proofs.YtlpmemelhlnfbaaGreatDoor
open Go.RowKit
noncomputable def feq_C4 : Code := (loopsOf (bodyOf Tryz.f55)).getD 0 .skip
def feq_h4 (a0 : Form) (a1 : Form) (i_4 : Nat) : St :=
  ⟨[(2, .ptr 0 0), (3, .ptr 1 0), (5, .lit (.int .i64 (i_4 : Int)))],
   [(0, some (.box 29 [.sl 4 (a0.1.map termC), .lit (.bool (rawQ a0.2).s), natA (rawQ a0.2).l1, natA (rawQ a0.2).l2] false)),
    (1, some (.box 29 [.sl 4 (a1.1.map termC), .lit (.bool (rawQ a1.2).s), natA (rawQ a1.2).l1, natA (rawQ a1.2).l2] false))], 2⟩
def feq_o4a  : St :=
  ⟨[(4, .lit (.bool false))],
   [], 0⟩
def feq_o4b  : St :=
  ⟨[(4, .any)],
   [], 0⟩
section
variable {a1 : Form} {v5 : Int} {i_4 : Nat} {q6 : Rat} {a0 : Form} {v6 : Int} {q5 : Rat} {n : Nat}
theorem feq_r4_1 (C1 : (i_4 : Int) < (a0.1.length : Int)) (E2 : a0.1[i_4]? = some (v5, q5)) (E3 : a1.1[i_4]? = some (v6, q6)) (C4 : v5 = v6) (B5a : H q5 ≤ 17179869184) (B5b : H q6 ≤ 17179869184) (C6 : q5 = q6) (W7 : InI ((i_4 : Int) + 1)) :
    Cont 0 (exec Tryz.prog (tab n) 0 57 (livesOf 55) big feq_C4) (livesOf 55 4) (feq_h4 a0 a1 i_4) (feq_h4 a0 a1 (i_4 + 1)) := by
  have C1_ : i_4 < a0.1.length := by omega
  obtain ⟨EL2, EG2⟩ := List.getElem?_eq_some_iff.1 E2
  obtain ⟨EL3, EG3⟩ := List.getElem?_eq_some_iff.1 E3
  have C4_ : (v5 == v6) = true := by rw [C4]; simp
  have C4_n : (v5 != v6) = false := by rw [C4]; simp
  have K5 := r_same (p := q5) (q := q6) B5a B5b
  have C6_ : decide (q5 = q6) = true := decide_eq_true C6
  have W7_ : IntKind.i64.wrap ((i_4 : Int) + 1) = (i_4 : Int) + 1 := wr64 W7.1 W7.2
  unfold Cont
  simp +decide [feq_h4, loopsOf, Tryz.f55, feq_C4, C1, C1_, EL2, EG2, E2, EL3, EG3, E3, C4_, C4_n, K5, C6_, W7_]
theorem feq_x4_1 (C1 : (i_4 : Int) < (a0.1.length : Int)) (E2 : a0.1[i_4]? = some (v5, q5)) (E3 : a1.1[i_4]? = some (v6, q6)) (C4 : ¬ v5 = v6) :
    Leave 0 (exec Tryz.prog (tab n) 0 57 (livesOf 55) big feq_C4) (livesOf 55 (outOf 4)) (feq_h4 a0 a1 i_4) (.ret) (feq_o4a ) := by
  have C1_ : i_4 < a0.1.length := by omega
  obtain ⟨EL2, EG2⟩ := List.getElem?_eq_some_iff.1 E2
  obtain ⟨EL3, EG3⟩ := List.getElem?_eq_some_iff.1 E3
  have C4_ : (v5 == v6) = false := by simpa using C4
  have C4_n : (v5 != v6) = true := by simpa using C4
  unfold Leave
  simp +decide [feq_h4, loopsOf, Tryz.f55, feq_o4a, feq_C4, C1, C1_, EL2, EG2, E2, EL3, EG3, E3, C4_, C4_n]
theorem feq_x4_2 (C1 : (i_4 : Int) < (a0.1.length : Int)) (E2 : a0.1[i_4]? = some (v5, q5)) (E3 : a1.1[i_4]? = some (v6, q6)) (C4 : v5 = v6) (B5a : H q5 ≤ 17179869184) (B5b : H q6 ≤ 17179869184) (C6 : ¬ (q5 = q6)) :
    Leave 0 (exec Tryz.prog (tab n) 0 57 (livesOf 55) big feq_C4) (livesOf 55 (outOf 4)) (feq_h4 a0 a1 i_4) (.ret) (feq_o4a ) := by
  have C1_ : i_4 < a0.1.length := by omega
  obtain ⟨EL2, EG2⟩ := List.getElem?_eq_some_iff.1 E2
  obtain ⟨EL3, EG3⟩ := List.getElem?_eq_some_iff.1 E3
  have C4_ : (v5 == v6) = true := by rw [C4]; simp
  have C4_n : (v5 != v6) = false := by rw [C4]; simp
  have K5 := r_same (p := q5) (q := q6) B5a B5b
  unfold Leave
  simp +decide [feq_h4, loopsOf, Tryz.f55, feq_o4a, feq_C4, C1, C1_, EL2, EG2, E2, EL3, EG3, E3, C4_, C4_n, K5, C6]
theorem feq_x4_3 (C1 : ¬ (i_4 : Int) < (a0.1.length : Int)) :
    Leave 0 (exec Tryz.prog (tab n) 0 57 (livesOf 55) big feq_C4) (livesOf 55 (outOf 4)) (feq_h4 a0 a1 i_4) (.exit 0) (feq_o4b ) := by
  have C1_ : ¬ i_4 < a0.1.length := by omega
  unfold Leave
  simp +decide [feq_h4, loopsOf, Tryz.f55, feq_o4b, feq_C4, C1, C1_]
theorem feq_f1 (C1 : ¬ (a0.1.length : Int) = (a1.1.length : Int)) :
    run n 55 [formV a0, formV a1] = some (.lit (.bool false)) := by
  have C1_ : ((a0.1.length : Int) == (a1.1.length : Int)) = false := by simpa using C1
  have C1_n : ((a0.1.length : Int) != (a1.1.length : Int)) = true := by simpa using C1
  unfold run fnP
  simp +decide [Tryz.f55, C1_, C1_n]
theorem feq_f2 (C1 : (a0.1.length : Int) = (a1.1.length : Int)) (B2a : H a0.2 ≤ 17179869184) (B2b : H a1.2 ≤ 17179869184) (C3 : ¬ (a0.2 = a1.2)) :
    run n 55 [formV a0, formV a1] = some (.lit (.bool false)) := by
  have C1_ : ((a0.1.length : Int) == (a1.1.length : Int)) = true := by rw [C1]; simp
  have C1_n : ((a0.1.length : Int) != (a1.1.length : Int)) = false := by rw [C1]; simp
  have K2 := r_same (p := a0.2) (q := a1.2) B2a B2b
  unfold run fnP
  simp +decide [Tryz.f55, C1_, C1_n, K2, C3]
theorem feq_f3 (C1 : (a0.1.length : Int) = (a1.1.length : Int)) (B2a : H a0.2 ≤ 17179869184) (B2b : H a1.2 ≤ 17179869184) (C3 : a0.2 = a1.2) (L4 : loopG Tryz.prog (tab n) 0 57 (livesOf 55) 4 feq_C4 (feq_h4 a0 a1 0) = some (.ret, feq_o4a )) :
    run n 55 [formV a0, formV a1] = some (.lit (.bool false)) := by
  have C1_ : ((a0.1.length : Int) == (a1.1.length : Int)) = true := by rw [C1]; simp
  have C1_n : ((a0.1.length : Int) != (a1.1.length : Int)) = false := by rw [C1]; simp
  have K2 := r_same (p := a0.2) (q := a1.2) B2a B2b
  have C3_ : decide (a0.2 = a1.2) = true := decide_eq_true C3
  unfold run fnP
  simp +decide [Tryz.f55, C1_, C1_n, K2, C3_]
  rw [loopX_G (C' := feq_C4) (e := (feq_h4 a0 a1 0)) ?_ ?_, L4]
  rotate_left
  · kernel_rfl
  · simp +decide [feq_h4, C1_, C1_n, K2, C3_]
  simp +decide [feq_o4a, C1_, C1_n, K2, C3_]
theorem feq_f4 (C1 : (a0.1.length : Int) = (a1.1.length : Int)) (B2a : H a0.2 ≤ 17179869184) (B2b : H a1.2 ≤ 17179869184) (C3 : a0.2 = a1.2) (L4 : loopG Tryz.prog (tab n) 0 57 (livesOf 55) 4 feq_C4 (feq_h4 a0 a1 0) = some (.exit 0, feq_o4b )) :
    run n 55 [formV a0, formV a1] = some (.lit (.bool true)) := by
  have C1_ : ((a0.1.length : Int) == (a1.1.length : Int)) = true := by rw [C1]; simp
  have C1_n : ((a0.1.length : Int) != (a1.1.length : Int)) = false := by rw [C1]; simp
  have K2 := r_same (p := a0.2) (q := a1.2) B2a B2b
  have C3_ : decide (a0.2 = a1.2) = true := decide_eq_true C3
  unfold run fnP
  simp +decide [Tryz.f55, C1_, C1_n, K2, C3_]
  rw [loopX_G (C' := feq_C4) (e := (feq_h4 a0 a1 0)) ?_ ?_, L4]
  rotate_left
  · kernel_rfl
  · simp +decide [feq_h4, C1_, C1_n, K2, C3_]
  simp +decide [feq_o4b, C1_, C1_n, K2, C3_]
end
noncomputable def fea_C4 : Code := (loopsOf (bodyOf Tryz.f90)).getD 0 .skip
def fea_h4 (a0 : List Form) (a1 : List Form) (i_4 : Nat) : St :=
  ⟨[(0, .sl 4 (a0.map formC)), (1, .sl 4 (a1.map formC)), (5, .lit (.int .i64 (i_4 : Int)))],
   [], 0⟩
def fea_o4b  : St :=
  ⟨[(4, .any)],
   [], 0⟩
section
variable {a1 : List Form} {r3 : Bool} {F6 : List (Int × Rat)} {i_4 : Nat} {F5 : List (Int × Rat)} {q6 : Rat} {a0 : List Form} {q5 : Rat} {n : Nat}
theorem fea_r4_1 (C1 : (i_4 : Int) < (a0.length : Int)) (E2 : a0[i_4]? = some (F5, q5)) (E3 : a1[i_4]? = some (F6, q6)) (K4 : run n 55 [formV (F5, q5), formV (F6, q6)] = some (.lit (.bool r3))) (C5 : r3 = true) (W6 : InI ((i_4 : Int) + 1)) :
    Cont 0 (exec Tryz.prog (tab (n + 1)) 0 27 (livesOf 90) big fea_C4) (livesOf 90 4) (fea_h4 a0 a1 i_4) (fea_h4 a0 a1 (i_4 + 1)) := by
  have C1_ : i_4 < a0.length := by omega
  obtain ⟨EL2, EG2⟩ := List.getElem?_eq_some_iff.1 E2
  obtain ⟨EL3, EG3⟩ := List.getElem?_eq_some_iff.1 E3
  simp only [formV] at K4
  have W6_ : IntKind.i64.wrap ((i_4 : Int) + 1) = (i_4 : Int) + 1 := wr64 W6.1 W6.2
  unfold Cont
  simp +decide [fea_h4, loopsOf, Tryz.f90, fea_C4, C1, C1_, EL2, EG2, E2, EL3, EG3, E3, K4, C5, W6_]
theorem fea_x4_2 (C1 : ¬ (i_4 : Int) < (a0.length : Int)) :
    Leave 0 (exec Tryz.prog (tab (n + 1)) 0 27 (livesOf 90) big fea_C4) (livesOf 90 (outOf 4)) (fea_h4 a0 a1 i_4) (.exit 0) (fea_o4b ) := by
  have C1_ : ¬ i_4 < a0.length := by omega
  unfold Leave
  simp +decide [fea_h4, loopsOf, Tryz.f90, fea_o4b, fea_C4, C1, C1_]
theorem fea_f3 (C1 : (a0.length : Int) = (a1.length : Int)) (L2 : loopG Tryz.prog (tab (n + 1)) 0 27 (livesOf 90) 4 fea_C4 (fea_h4 a0 a1 0) = some (.exit 0, fea_o4b )) :
    run (n + 1) 90 [.sl 4 (a0.map formC), .sl 4 (a1.map formC)] = some (.lit (.bool true)) := by
  have C1_ : ((a0.length : Int) == (a1.length : Int)) = true := by rw [C1]; simp
  have C1_n : ((a0.length : Int) != (a1.length : Int)) = false := by rw [C1]; simp
  unfold run fnP
  simp +decide [Tryz.f90, C1_, C1_n]
  rw [loopX_G (C' := fea_C4) (e := (fea_h4 a0 a1 0)) ?_ ?_, L2]
  rotate_left
  · kernel_rfl
  · simp +decide [fea_h4, C1_, C1_n]
  simp +decide [fea_o4b, C1_, C1_n]
end
noncomputable def fmk_C3 : Code := (loopsOf (bodyOf Tryz.f59)).getD 0 .skip
def fmk_h3 (a0 : List (Int × Rat)) (i_3 : Nat) (l_3 : List (Int × Rat)) (s_3 : Rat) : St :=
  ⟨[(0, .sl 4 (a0.map termC)), (4, .ptr 0 0), (6, .ptr 1 0), (7, .lit (.int .i64 (i_3 : Int)))],
   [(0, some (.box 29 [.nl 4, .lit (.bool false), .nl 1, .nl 1] false)),
    (1, some (.box 29 [.sl 4 (l_3.map termC), .lit (.bool (rawQ s_3).s), natA (rawQ s_3).l1, natA (rawQ s_3).l2] false))], 2⟩
def fmk_o3b (l_3 : List (Int × Rat)) (s_3 : Rat) : St :=
  ⟨[(4, .ptr 0 0), (5, .any), (6, .ptr 1 0)],
   [(0, some (.box 29 [.nl 4, .lit (.bool false), .nl 1, .nl 1] false)),
    (1, some (.box 29 [.sl 4 (l_3.map termC), .lit (.bool (rawQ s_3).s), natA (rawQ s_3).l1, natA (rawQ s_3).l2] false))], 2⟩
section
variable {l_3 : List (Int × Rat)} {r3 : Form} {v3 : Int} {q3 : Rat} {s_3 : Rat} {a0 : List (Int × Rat)} {i_3 : Nat} {n : Nat} {a1 : Rat}
theorem fmk_r3_1 (C1 : (i_3 : Int) < (a0.length : Int)) (E2 : a0[i_3]? = some (v3, q3)) (C3 : ¬ v3 < 0) (K4 : run (n + 1) 138 [formV (l_3, s_3), .lit (.int .i64 v3), ratV q3] = some (formV r3)) (W5 : InI ((i_3 : Int) + 1)) :
    Cont 0 (exec Tryz.prog (tab (n + 2)) 0 37 (livesOf 59) big fmk_C3) (livesOf 59 3) (fmk_h3 a0 i_3 l_3 s_3) (fmk_h3 a0 (i_3 + 1) r3.1 r3.2) := by
  have C1_ : i_3 < a0.length := by omega
  obtain ⟨EL2, EG2⟩ := List.getElem?_eq_some_iff.1 E2
  simp only [ratV, formV] at K4
  have W5_ : IntKind.i64.wrap ((i_3 : Int) + 1) = (i_3 : Int) + 1 := wr64 W5.1 W5.2
  unfold Cont
  simp +decide [fmk_h3, loopsOf, Tryz.f59, fmk_C3, C1, C1_, EL2, EG2, E2, C3, K4, W5_]
theorem fmk_x3_2 (C1 : ¬ (i_3 : Int) < (a0.length : Int)) :
    Leave 0 (exec Tryz.prog (tab (n + 2)) 0 37 (livesOf 59) big fmk_C3) (livesOf 59 (outOf 3)) (fmk_h3 a0 i_3 l_3 s_3) (.exit 0) (fmk_o3b l_3 s_3) := by
  have C1_ : ¬ i_3 < a0.length := by omega
  unfold Leave
  simp +decide [fmk_h3, loopsOf, Tryz.f59, fmk_o3b, fmk_C3, C1, C1_]
theorem fmk_f2 (B1a : H a1 ≤ 17179869184) (L2 : loopG Tryz.prog (tab (n + 2)) 0 37 (livesOf 59) 3 fmk_C3 (fmk_h3 a0 0 [] a1) = some (.exit 0, fmk_o3b l_3 s_3)) :
    run (n + 2) 59 [.sl 4 (a0.map termC), ratV a1] = some (.tup [formV (l_3, s_3), .lit (.int .i64 0)]) := by
  have K1 := r_canon (p := a1) B1a
  unfold run fnP
  simp +decide [Tryz.f59, K1]
  rw [loopX_G (C' := fmk_C3) (e := (fmk_h3 a0 0 [] a1)) ?_ ?_, L2]
  rotate_left
  · kernel_rfl
  · simp +decide [fmk_h3, K1]
  simp +decide [fmk_o3b, K1]
end
end Go.Proofs.YtlpmemelhlnfbaaGreatDoor
set_option linter.all false
set_option maxRecDepth 100000
set_option maxHeartbeats 6400000
namespace Go.Proofs.YtlpmemelhlnfbaaGreatDoor
open Go.RowKit
theorem pt_new {n : Nat} {F : List (Int × Rat)} {v : Int} {q k : Rat} (hq : H q ≤ 17179869184) (h0 : q ≠ 0) (hF : F.length ≤ 10000000) :
    runL n 137 [.agg [.own 0 F.length, .lit (.bool (rawQ k).s), natA (rawQ k).l1, natA (rawQ k).l2], .lit (.int .i64 v), .agg [.lit (.bool (rawQ q).s), natA (rawQ q).l1, natA (rawQ q).l2]] [.row 84 4 (F.map termC) 0] = some (.agg [.own 4 (F ++ [(v, q)]).length, .lit (.bool (rawQ k).s), natA (rawQ k).l1, natA (rawQ k).l2], [(4, .row 84 4 ((F ++ [(v, q)]).map termC) 0)]) := by
  unfold runL fnL
  have hs := r_sign (p := q) hq
  have hc := r_canon (p := q) hq
  have e2 : (sgR q == 0) = false := by simpa using fun h => h0 (sgR_eq_zero.1 h)
  have e3 : (sgR q != 0) = true := by simpa using fun h => h0 (sgR_eq_zero.1 h)
  have hr : ∀ b, b ≤ 10000 → roomy (F.length + 1) b = true := fun b hb => roomy_s (by omega) hb
  simp +decide [Tryz.f137, hs, hc, e2, e3, hr]
theorem pt_same {n : Nat} {F : List (Int × Rat)} {v : Int} {q k : Rat} (hq : H q ≤ 17179869184) (h0 : q = 0) :
    runL n 137 [.agg [.own 0 F.length, .lit (.bool (rawQ k).s), natA (rawQ k).l1, natA (rawQ k).l2], .lit (.int .i64 v), .agg [.lit (.bool (rawQ q).s), natA (rawQ q).l1, natA (rawQ q).l2]] [.row 84 4 (F.map termC) 0] = some (.agg [.own 0 F.length, .lit (.bool (rawQ k).s), natA (rawQ k).l1, natA (rawQ k).l2], [(0, .row 84 4 (F.map termC) 0)]) := by
  unfold runL fnL
  have hs := r_sign (p := q) hq
  have e2 : (sgR q == 0) = true := by rw [sgR_eq_zero.2 h0]; rfl
  have e3 : (sgR q != 0) = false := by rw [sgR_eq_zero.2 h0]; rfl
  simp +decide [Tryz.f137, hs, e2, e3]
end Go.Proofs.YtlpmemelhlnfbaaGreatDoor
