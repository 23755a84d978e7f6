/- Walks: relucertref21.Best, relucertref21.decided, relucertref21.phases, relucertref21.Phase, relucertref34.Of, relucertref34.SameInts. Walks: relucertref21.Part, relucertlaw34.large@0. -/
import Derived.Test.YtkakmdadnhjphaaGreatDoorUA
set_option linter.all false
set_option linter.all false
set_option maxRecDepth 100000
set_option maxHeartbeats 6400000
namespace Go.Proofs.YtkakmdadnhjphaaGreatDoor
open Go.RowKit

/-! relucertref21.Best, level 0 -/
noncomputable def fB_C3 : Code := (loopsOf (bodyOf Tryz.f227)).getD 0 .skip
def fB_h3 (a0 : TScope) (a1 : Int) (i_3 : Int) (i2_3 : Int) (i3_3 : Nat) : St :=
  ⟨[(1, .lit (.int .i64 a1)), (2, .ptr 0 0), (6, .lit (.int .i64 i_3)), (7, .lit (.int .i64 i2_3)), (8, .lit (.int .i64 (i3_3 : Int)))],
   [(0, some (.box 48 [.lit (.int .i64 (a0.Query.Graph.Inputs)), .sl 4 (a0.Query.Graph.Units.map formC), .sl 4 (a0.Query.Graph.Outputs.map formC), .sl 3 (a0.Query.Region.Lo.map ratC), .sl 3 (a0.Query.Region.Hi.map ratC), .sl 4 (a0.Query.Region.Rows.map formC), .sl 4 (a0.Query.Goal.1.map termC), .lit (.bool (rawQ a0.Query.Goal.2).s), natA (rawQ a0.Query.Goal.2).l1, natA (rawQ a0.Query.Goal.2).l2, .sl 5 (a0.Path.map decisionC), .sl 6 (a0.Lemmas.map lemmaC)] false))], 1⟩
def fB_o3a (i_3 : Int) (i2_3 : Int) : St :=
  ⟨[(6, .lit (.int .i64 i_3)), (7, .lit (.int .i64 i2_3))],
   [], 0⟩
theorem fB_r3_1 {n : Nat} {a0 : TScope} {a1 : Int} {i3_3 : Nat} {x5 : TLemma} {i_3 : Int} {i2_3 : Int} (C1 : (i3_3 : Int) ≤ (a0.Lemmas.length : Int)) (W2 : InI ((i3_3 : Int) - 1)) (E3 : a0.Lemmas[i3_3 - 1]? = some x5) (Z3 : 1 ≤ i3_3) (C4 : ¬ x5.Unit = a1) (W5 : InI ((i3_3 : Int) + 1)) :
    Cont 0 (exec Tryz.prog (tab n) 0 70 (livesOf 227) big fB_C3) (livesOf 227 3) (fB_h3 a0 a1 i_3 i2_3 i3_3) (fB_h3 a0 a1 i_3 i2_3 (i3_3 + 1)) := by
  have C1_ : i3_3 ≤ a0.Lemmas.length := by omega
  have W2_ : IntKind.i64.wrap ((i3_3 : Int) - 1) = (i3_3 : Int) - 1 := wr64 W2.1 W2.2
  obtain ⟨EL3, EG3⟩ := List.getElem?_eq_some_iff.1 E3
  have Z3_0 : (1 : Int) ≤ (i3_3 : Int) := by omega
  have Z3_1 : 0 ≤ (i3_3 : Int) - 1 := by omega
  have C4_ : (x5.Unit == a1) = false := by simpa using C4
  have C4_n : (x5.Unit != a1) = true := by simpa using C4
  have W5_ : IntKind.i64.wrap ((i3_3 : Int) + 1) = (i3_3 : Int) + 1 := wr64 W5.1 W5.2
  unfold Cont
  simp +decide [fB_h3, loopsOf, Tryz.f227, fB_C3, C1, C1_, W2_, EL3, EG3, E3, Z3, Z3_0, Z3_1, C4_, C4_n, W5_]
theorem fB_r3_2 {n : Nat} {a0 : TScope} {a1 : Int} {i3_3 : Nat} {x5 : TLemma} {i2_3 : Int} {i_3 : Int} (C1 : (i3_3 : Int) ≤ (a0.Lemmas.length : Int)) (W2 : InI ((i3_3 : Int) - 1)) (E3 : a0.Lemmas[i3_3 - 1]? = some x5) (Z3 : 1 ≤ i3_3) (C4 : x5.Unit = a1) (C5 : x5.Upper = true) (C6 : i2_3 = 0) (W7 : InI ((i3_3 : Int) + 1)) :
    Cont 0 (exec Tryz.prog (tab n) 0 70 (livesOf 227) big fB_C3) (livesOf 227 3) (fB_h3 a0 a1 i_3 i2_3 i3_3) (fB_h3 a0 a1 i_3 (i3_3 : Int) (i3_3 + 1)) := by
  have C1_ : i3_3 ≤ a0.Lemmas.length := by omega
  have W2_ : IntKind.i64.wrap ((i3_3 : Int) - 1) = (i3_3 : Int) - 1 := wr64 W2.1 W2.2
  obtain ⟨EL3, EG3⟩ := List.getElem?_eq_some_iff.1 E3
  have Z3_0 : (1 : Int) ≤ (i3_3 : Int) := by omega
  have Z3_1 : 0 ≤ (i3_3 : Int) - 1 := by omega
  have C4_ : (x5.Unit == a1) = true := by rw [C4]; simp
  have C4_n : (x5.Unit != a1) = false := by rw [C4]; simp
  have C6_ : (i2_3 == 0) = true := by rw [C6]; simp
  have C6_n : (i2_3 != 0) = false := by rw [C6]; simp
  have W7_ : IntKind.i64.wrap ((i3_3 : Int) + 1) = (i3_3 : Int) + 1 := wr64 W7.1 W7.2
  unfold Cont
  simp +decide [fB_h3, loopsOf, Tryz.f227, fB_C3, C1, C1_, W2_, EL3, EG3, E3, Z3, Z3_0, Z3_1, C4_, C4_n, C5, C6_, C6_n, W7_]
theorem fB_r3_3 {n : Nat} {a0 : TScope} {a1 : Int} {i3_3 : Nat} {x5 : TLemma} {i2_3 : Int} {x6 : TLemma} {i_3 : Int} (C1 : (i3_3 : Int) ≤ (a0.Lemmas.length : Int)) (W2 : InI ((i3_3 : Int) - 1)) (E3 : a0.Lemmas[i3_3 - 1]? = some x5) (Z3 : 1 ≤ i3_3) (C4 : x5.Unit = a1) (C5 : x5.Upper = true) (C6 : ¬ i2_3 = 0) (W7 : InI (i2_3 - 1)) (E8 : a0.Lemmas[i2_3.toNat - 1]? = some x6) (Z8 : 0 ≤ i2_3 - 1) (B9a : RawB x5.Value) (B9b : RawB x6.Value) (C10 : sgR (x5.Value.q - x6.Value.q) < 0) (W11 : InI ((i3_3 : Int) + 1)) :
    Cont 0 (exec Tryz.prog (tab n) 0 70 (livesOf 227) big fB_C3) (livesOf 227 3) (fB_h3 a0 a1 i_3 i2_3 i3_3) (fB_h3 a0 a1 i_3 (i3_3 : Int) (i3_3 + 1)) := by
  have C1_ : i3_3 ≤ a0.Lemmas.length := by omega
  have W2_ : IntKind.i64.wrap ((i3_3 : Int) - 1) = (i3_3 : Int) - 1 := wr64 W2.1 W2.2
  obtain ⟨EL3, EG3⟩ := List.getElem?_eq_some_iff.1 E3
  have Z3_0 : (1 : Int) ≤ (i3_3 : Int) := by omega
  have Z3_1 : 0 ≤ (i3_3 : Int) - 1 := by omega
  have C4_ : (x5.Unit == a1) = true := by rw [C4]; simp
  have C4_n : (x5.Unit != a1) = false := by rw [C4]; simp
  have C6_ : (i2_3 == 0) = false := by simpa using C6
  have C6_n : (i2_3 != 0) = true := by simpa using C6
  have W7_ : IntKind.i64.wrap (i2_3 - 1) = i2_3 - 1 := wr64 W7.1 W7.2
  obtain ⟨EL8, EG8⟩ := List.getElem?_eq_some_iff.1 E8
  have Z8_0 : 1 ≤ i2_3 := by omega
  have K9 := rr_cmp B9a B9b
  have W11_ : IntKind.i64.wrap ((i3_3 : Int) + 1) = (i3_3 : Int) + 1 := wr64 W11.1 W11.2
  unfold Cont
  simp +decide [fB_h3, loopsOf, Tryz.f227, fB_C3, C1, C1_, W2_, EL3, EG3, E3, Z3, Z3_0, Z3_1, C4_, C4_n, C5, C6_, C6_n, W7_, EL8, EG8, E8, Z8, Z8_0, K9, C10, W11_]
theorem fB_r3_4 {n : Nat} {a0 : TScope} {a1 : Int} {i3_3 : Nat} {x5 : TLemma} {i2_3 : Int} {x6 : TLemma} {i_3 : Int} (C1 : (i3_3 : Int) ≤ (a0.Lemmas.length : Int)) (W2 : InI ((i3_3 : Int) - 1)) (E3 : a0.Lemmas[i3_3 - 1]? = some x5) (Z3 : 1 ≤ i3_3) (C4 : x5.Unit = a1) (C5 : x5.Upper = true) (C6 : ¬ i2_3 = 0) (W7 : InI (i2_3 - 1)) (E8 : a0.Lemmas[i2_3.toNat - 1]? = some x6) (Z8 : 0 ≤ i2_3 - 1) (B9a : RawB x5.Value) (B9b : RawB x6.Value) (C10 : ¬ sgR (x5.Value.q - x6.Value.q) < 0) (W11 : InI ((i3_3 : Int) + 1)) :
    Cont 0 (exec Tryz.prog (tab n) 0 70 (livesOf 227) big fB_C3) (livesOf 227 3) (fB_h3 a0 a1 i_3 i2_3 i3_3) (fB_h3 a0 a1 i_3 i2_3 (i3_3 + 1)) := by
  have C1_ : i3_3 ≤ a0.Lemmas.length := by omega
  have W2_ : IntKind.i64.wrap ((i3_3 : Int) - 1) = (i3_3 : Int) - 1 := wr64 W2.1 W2.2
  obtain ⟨EL3, EG3⟩ := List.getElem?_eq_some_iff.1 E3
  have Z3_0 : (1 : Int) ≤ (i3_3 : Int) := by omega
  have Z3_1 : 0 ≤ (i3_3 : Int) - 1 := by omega
  have C4_ : (x5.Unit == a1) = true := by rw [C4]; simp
  have C4_n : (x5.Unit != a1) = false := by rw [C4]; simp
  have C6_ : (i2_3 == 0) = false := by simpa using C6
  have C6_n : (i2_3 != 0) = true := by simpa using C6
  have W7_ : IntKind.i64.wrap (i2_3 - 1) = i2_3 - 1 := wr64 W7.1 W7.2
  obtain ⟨EL8, EG8⟩ := List.getElem?_eq_some_iff.1 E8
  have Z8_0 : 1 ≤ i2_3 := by omega
  have K9 := rr_cmp B9a B9b
  have W11_ : IntKind.i64.wrap ((i3_3 : Int) + 1) = (i3_3 : Int) + 1 := wr64 W11.1 W11.2
  unfold Cont
  simp +decide [fB_h3, loopsOf, Tryz.f227, fB_C3, C1, C1_, W2_, EL3, EG3, E3, Z3, Z3_0, Z3_1, C4_, C4_n, C5, C6_, C6_n, W7_, EL8, EG8, E8, Z8, Z8_0, K9, C10, W11_]
theorem fB_r3_5 {n : Nat} {a0 : TScope} {a1 : Int} {i3_3 : Nat} {x5 : TLemma} {i_3 : Int} {i2_3 : Int} (C1 : (i3_3 : Int) ≤ (a0.Lemmas.length : Int)) (W2 : InI ((i3_3 : Int) - 1)) (E3 : a0.Lemmas[i3_3 - 1]? = some x5) (Z3 : 1 ≤ i3_3) (C4 : x5.Unit = a1) (C5 : x5.Upper = false) (C6 : i_3 = 0) (W7 : InI ((i3_3 : Int) + 1)) :
    Cont 0 (exec Tryz.prog (tab n) 0 70 (livesOf 227) big fB_C3) (livesOf 227 3) (fB_h3 a0 a1 i_3 i2_3 i3_3) (fB_h3 a0 a1 (i3_3 : Int) i2_3 (i3_3 + 1)) := by
  have C1_ : i3_3 ≤ a0.Lemmas.length := by omega
  have W2_ : IntKind.i64.wrap ((i3_3 : Int) - 1) = (i3_3 : Int) - 1 := wr64 W2.1 W2.2
  obtain ⟨EL3, EG3⟩ := List.getElem?_eq_some_iff.1 E3
  have Z3_0 : (1 : Int) ≤ (i3_3 : Int) := by omega
  have Z3_1 : 0 ≤ (i3_3 : Int) - 1 := by omega
  have C4_ : (x5.Unit == a1) = true := by rw [C4]; simp
  have C4_n : (x5.Unit != a1) = false := by rw [C4]; simp
  have C6_ : (i_3 == 0) = true := by rw [C6]; simp
  have C6_n : (i_3 != 0) = false := by rw [C6]; simp
  have W7_ : IntKind.i64.wrap ((i3_3 : Int) + 1) = (i3_3 : Int) + 1 := wr64 W7.1 W7.2
  unfold Cont
  simp +decide [fB_h3, loopsOf, Tryz.f227, fB_C3, C1, C1_, W2_, EL3, EG3, E3, Z3, Z3_0, Z3_1, C4_, C4_n, C5, C6_, C6_n, W7_]
theorem fB_r3_6 {n : Nat} {a0 : TScope} {a1 : Int} {i3_3 : Nat} {x5 : TLemma} {i_3 : Int} {x7 : TLemma} {i2_3 : Int} (C1 : (i3_3 : Int) ≤ (a0.Lemmas.length : Int)) (W2 : InI ((i3_3 : Int) - 1)) (E3 : a0.Lemmas[i3_3 - 1]? = some x5) (Z3 : 1 ≤ i3_3) (C4 : x5.Unit = a1) (C5 : x5.Upper = false) (C6 : ¬ i_3 = 0) (W7 : InI (i_3 - 1)) (E8 : a0.Lemmas[i_3.toNat - 1]? = some x7) (Z8 : 0 ≤ i_3 - 1) (B9a : RawB x5.Value) (B9b : RawB x7.Value) (C10 : 0 < sgR (x5.Value.q - x7.Value.q)) (W11 : InI ((i3_3 : Int) + 1)) :
    Cont 0 (exec Tryz.prog (tab n) 0 70 (livesOf 227) big fB_C3) (livesOf 227 3) (fB_h3 a0 a1 i_3 i2_3 i3_3) (fB_h3 a0 a1 (i3_3 : Int) i2_3 (i3_3 + 1)) := by
  have C1_ : i3_3 ≤ a0.Lemmas.length := by omega
  have W2_ : IntKind.i64.wrap ((i3_3 : Int) - 1) = (i3_3 : Int) - 1 := wr64 W2.1 W2.2
  obtain ⟨EL3, EG3⟩ := List.getElem?_eq_some_iff.1 E3
  have Z3_0 : (1 : Int) ≤ (i3_3 : Int) := by omega
  have Z3_1 : 0 ≤ (i3_3 : Int) - 1 := by omega
  have C4_ : (x5.Unit == a1) = true := by rw [C4]; simp
  have C4_n : (x5.Unit != a1) = false := by rw [C4]; simp
  have C6_ : (i_3 == 0) = false := by simpa using C6
  have C6_n : (i_3 != 0) = true := by simpa using C6
  have W7_ : IntKind.i64.wrap (i_3 - 1) = i_3 - 1 := wr64 W7.1 W7.2
  obtain ⟨EL8, EG8⟩ := List.getElem?_eq_some_iff.1 E8
  have Z8_0 : 1 ≤ i_3 := by omega
  have K9 := rr_cmp B9a B9b
  have W11_ : IntKind.i64.wrap ((i3_3 : Int) + 1) = (i3_3 : Int) + 1 := wr64 W11.1 W11.2
  unfold Cont
  simp +decide [fB_h3, loopsOf, Tryz.f227, fB_C3, C1, C1_, W2_, EL3, EG3, E3, Z3, Z3_0, Z3_1, C4_, C4_n, C5, C6_, C6_n, W7_, EL8, EG8, E8, Z8, Z8_0, K9, C10, W11_]
theorem fB_r3_7 {n : Nat} {a0 : TScope} {a1 : Int} {i3_3 : Nat} {x5 : TLemma} {i_3 : Int} {x7 : TLemma} {i2_3 : Int} (C1 : (i3_3 : Int) ≤ (a0.Lemmas.length : Int)) (W2 : InI ((i3_3 : Int) - 1)) (E3 : a0.Lemmas[i3_3 - 1]? = some x5) (Z3 : 1 ≤ i3_3) (C4 : x5.Unit = a1) (C5 : x5.Upper = false) (C6 : ¬ i_3 = 0) (W7 : InI (i_3 - 1)) (E8 : a0.Lemmas[i_3.toNat - 1]? = some x7) (Z8 : 0 ≤ i_3 - 1) (B9a : RawB x5.Value) (B9b : RawB x7.Value) (C10 : ¬ 0 < sgR (x5.Value.q - x7.Value.q)) (W11 : InI ((i3_3 : Int) + 1)) :
    Cont 0 (exec Tryz.prog (tab n) 0 70 (livesOf 227) big fB_C3) (livesOf 227 3) (fB_h3 a0 a1 i_3 i2_3 i3_3) (fB_h3 a0 a1 i_3 i2_3 (i3_3 + 1)) := by
  have C1_ : i3_3 ≤ a0.Lemmas.length := by omega
  have W2_ : IntKind.i64.wrap ((i3_3 : Int) - 1) = (i3_3 : Int) - 1 := wr64 W2.1 W2.2
  obtain ⟨EL3, EG3⟩ := List.getElem?_eq_some_iff.1 E3
  have Z3_0 : (1 : Int) ≤ (i3_3 : Int) := by omega
  have Z3_1 : 0 ≤ (i3_3 : Int) - 1 := by omega
  have C4_ : (x5.Unit == a1) = true := by rw [C4]; simp
  have C4_n : (x5.Unit != a1) = false := by rw [C4]; simp
  have C6_ : (i_3 == 0) = false := by simpa using C6
  have C6_n : (i_3 != 0) = true := by simpa using C6
  have W7_ : IntKind.i64.wrap (i_3 - 1) = i_3 - 1 := wr64 W7.1 W7.2
  obtain ⟨EL8, EG8⟩ := List.getElem?_eq_some_iff.1 E8
  have Z8_0 : 1 ≤ i_3 := by omega
  have K9 := rr_cmp B9a B9b
  have W11_ : IntKind.i64.wrap ((i3_3 : Int) + 1) = (i3_3 : Int) + 1 := wr64 W11.1 W11.2
  unfold Cont
  simp +decide [fB_h3, loopsOf, Tryz.f227, fB_C3, C1, C1_, W2_, EL3, EG3, E3, Z3, Z3_0, Z3_1, C4_, C4_n, C5, C6_, C6_n, W7_, EL8, EG8, E8, Z8, Z8_0, K9, C10, W11_]
theorem fB_x3_1 {n : Nat} {a0 : TScope} {a1 : Int} {i3_3 : Nat} {i_3 : Int} {i2_3 : Int} (C1 : ¬ (i3_3 : Int) ≤ (a0.Lemmas.length : Int)) :
    Leave 0 (exec Tryz.prog (tab n) 0 70 (livesOf 227) big fB_C3) (livesOf 227 (outOf 3)) (fB_h3 a0 a1 i_3 i2_3 i3_3) (.exit 0) (fB_o3a i_3 i2_3) := by
  have C1_ : ¬ i3_3 ≤ a0.Lemmas.length := by omega
  unfold Leave
  simp +decide [fB_h3, loopsOf, Tryz.f227, fB_o3a, fB_C3, C1, C1_]
theorem fB_f1 {n : Nat} {a0 : TScope} {a1 : Int} {i_3 : Int} {i2_3 : Int} (L1 : loopG Tryz.prog (tab n) 0 70 (livesOf 227) 3 fB_C3 (fB_h3 a0 a1 0 0 1) = some (.exit 0, fB_o3a i_3 i2_3)) :
    run n 227 [scopeV a0, .lit (.int .i64 a1)] = some (.tup [.lit (.int .i64 i_3), .lit (.int .i64 i2_3)]) := by
  unfold run fnP
  simp +decide [Tryz.f227]
  rw [loopX_G (C' := fB_C3) (e := (fB_h3 a0 a1 0 0 1)) ?_ ?_, L1]
  rotate_left
  · kernel_rfl
  · simp +decide [fB_h3]
  simp +decide [fB_o3a]
/-! relucertref21.decided, level 1 -/
noncomputable def fde_C2 : Code := (loopsOf (bodyOf Tryz.f63)).getD 0 .skip
def fde_h2 (a0 : TScope) (a1 : Int) (a2 : Int) (i_2 : Nat) : St :=
  ⟨[(1, .lit (.int .i64 a1)), (2, .lit (.int .i64 a2)), (3, .ptr 0 0), (7, .lit (.int .i64 (i_2 : Int)))],
   [(0, some (.box 48 [.lit (.int .i64 (a0.Query.Graph.Inputs)), .sl 4 (a0.Query.Graph.Units.map formC), .sl 4 (a0.Query.Graph.Outputs.map formC), .sl 3 (a0.Query.Region.Lo.map ratC), .sl 3 (a0.Query.Region.Hi.map ratC), .sl 4 (a0.Query.Region.Rows.map formC), .sl 4 (a0.Query.Goal.1.map termC), .lit (.bool (rawQ a0.Query.Goal.2).s), natA (rawQ a0.Query.Goal.2).l1, natA (rawQ a0.Query.Goal.2).l2, .sl 5 (a0.Path.map decisionC), .sl 6 (a0.Lemmas.map lemmaC)] false))], 1⟩
def fde_o2a  : St :=
  ⟨[(6, .lit (.bool true))],
   [], 0⟩
def fde_o2b  : St :=
  ⟨[(6, .any)],
   [], 0⟩
theorem fde_r2_1 {n : Nat} {a0 : TScope} {a1 : Int} {a2 : Int} {i_2 : Nat} {x3 : TDecision} {r3 : Bool} (C1 : (i_2 : Int) < (a0.Path.length : Int)) (E2 : a0.Path[i_2]? = some x3) (C3 : x3.Kind = a1) (C4 : x3.Index = a2) (K5 : run n 147 [queryV a0.Query, decisionV x3] = some (.lit (.bool r3))) (C6 : r3 = false) (W7 : InI ((i_2 : Int) + 1)) :
    Cont 0 (exec Tryz.prog (tab (n + 1)) 0 43 (livesOf 63) big fde_C2) (livesOf 63 2) (fde_h2 a0 a1 a2 i_2) (fde_h2 a0 a1 a2 (i_2 + 1)) := by
  have C1_ : i_2 < a0.Path.length := by omega
  obtain ⟨EL2, EG2⟩ := List.getElem?_eq_some_iff.1 E2
  have C3_ : (x3.Kind == a1) = true := by rw [C3]; simp
  have C3_n : (x3.Kind != a1) = false := by rw [C3]; simp
  have C4_ : (x3.Index == a2) = true := by rw [C4]; simp
  have C4_n : (x3.Index != a2) = false := by rw [C4]; simp
  simp only [queryV, decisionV] at K5
  have W7_ : IntKind.i64.wrap ((i_2 : Int) + 1) = (i_2 : Int) + 1 := wr64 W7.1 W7.2
  unfold Cont
  simp +decide [fde_h2, loopsOf, Tryz.f63, fde_C2, C1, C1_, EL2, EG2, E2, C3_, C3_n, C4_, C4_n, K5, C6, W7_]
theorem fde_r2_2 {n : Nat} {a0 : TScope} {a1 : Int} {a2 : Int} {i_2 : Nat} {x3 : TDecision} (C1 : (i_2 : Int) < (a0.Path.length : Int)) (E2 : a0.Path[i_2]? = some x3) (C3 : x3.Kind = a1) (C4 : ¬ x3.Index = a2) (W5 : InI ((i_2 : Int) + 1)) :
    Cont 0 (exec Tryz.prog (tab (n + 1)) 0 43 (livesOf 63) big fde_C2) (livesOf 63 2) (fde_h2 a0 a1 a2 i_2) (fde_h2 a0 a1 a2 (i_2 + 1)) := by
  have C1_ : i_2 < a0.Path.length := by omega
  obtain ⟨EL2, EG2⟩ := List.getElem?_eq_some_iff.1 E2
  have C3_ : (x3.Kind == a1) = true := by rw [C3]; simp
  have C3_n : (x3.Kind != a1) = false := by rw [C3]; simp
  have C4_ : (x3.Index == a2) = false := by simpa using C4
  have C4_n : (x3.Index != a2) = true := by simpa using C4
  have W5_ : IntKind.i64.wrap ((i_2 : Int) + 1) = (i_2 : Int) + 1 := wr64 W5.1 W5.2
  unfold Cont
  simp +decide [fde_h2, loopsOf, Tryz.f63, fde_C2, C1, C1_, EL2, EG2, E2, C3_, C3_n, C4_, C4_n, W5_]
theorem fde_r2_3 {n : Nat} {a0 : TScope} {a1 : Int} {a2 : Int} {i_2 : Nat} {x3 : TDecision} (C1 : (i_2 : Int) < (a0.Path.length : Int)) (E2 : a0.Path[i_2]? = some x3) (C3 : ¬ x3.Kind = a1) (W4 : InI ((i_2 : Int) + 1)) :
    Cont 0 (exec Tryz.prog (tab (n + 1)) 0 43 (livesOf 63) big fde_C2) (livesOf 63 2) (fde_h2 a0 a1 a2 i_2) (fde_h2 a0 a1 a2 (i_2 + 1)) := by
  have C1_ : i_2 < a0.Path.length := by omega
  obtain ⟨EL2, EG2⟩ := List.getElem?_eq_some_iff.1 E2
  have C3_ : (x3.Kind == a1) = false := by simpa using C3
  have C3_n : (x3.Kind != a1) = true := by simpa using C3
  have W4_ : IntKind.i64.wrap ((i_2 : Int) + 1) = (i_2 : Int) + 1 := wr64 W4.1 W4.2
  unfold Cont
  simp +decide [fde_h2, loopsOf, Tryz.f63, fde_C2, C1, C1_, EL2, EG2, E2, C3_, C3_n, W4_]
theorem fde_x2_1 {n : Nat} {a0 : TScope} {a1 : Int} {a2 : Int} {i_2 : Nat} {x3 : TDecision} {r3 : Bool} (C1 : (i_2 : Int) < (a0.Path.length : Int)) (E2 : a0.Path[i_2]? = some x3) (C3 : x3.Kind = a1) (C4 : x3.Index = a2) (K5 : run n 147 [queryV a0.Query, decisionV x3] = some (.lit (.bool r3))) (C6 : r3 = true) :
    Leave 0 (exec Tryz.prog (tab (n + 1)) 0 43 (livesOf 63) big fde_C2) (livesOf 63 (outOf 2)) (fde_h2 a0 a1 a2 i_2) (.ret) (fde_o2a ) := by
  have C1_ : i_2 < a0.Path.length := by omega
  obtain ⟨EL2, EG2⟩ := List.getElem?_eq_some_iff.1 E2
  have C3_ : (x3.Kind == a1) = true := by rw [C3]; simp
  have C3_n : (x3.Kind != a1) = false := by rw [C3]; simp
  have C4_ : (x3.Index == a2) = true := by rw [C4]; simp
  have C4_n : (x3.Index != a2) = false := by rw [C4]; simp
  simp only [queryV, decisionV] at K5
  unfold Leave
  simp +decide [fde_h2, loopsOf, Tryz.f63, fde_o2a, fde_C2, C1, C1_, EL2, EG2, E2, C3_, C3_n, C4_, C4_n, K5, C6]
theorem fde_x2_2 {n : Nat} {a0 : TScope} {a1 : Int} {a2 : Int} {i_2 : Nat} (C1 : ¬ (i_2 : Int) < (a0.Path.length : Int)) :
    Leave 0 (exec Tryz.prog (tab (n + 1)) 0 43 (livesOf 63) big fde_C2) (livesOf 63 (outOf 2)) (fde_h2 a0 a1 a2 i_2) (.exit 0) (fde_o2b ) := by
  have C1_ : ¬ i_2 < a0.Path.length := by omega
  unfold Leave
  simp +decide [fde_h2, loopsOf, Tryz.f63, fde_o2b, fde_C2, C1, C1_]
theorem fde_f1 {n : Nat} {a0 : TScope} {a1 : Int} {a2 : Int} (L1 : loopG Tryz.prog (tab (n + 1)) 0 43 (livesOf 63) 2 fde_C2 (fde_h2 a0 a1 a2 0) = some (.ret, fde_o2a )) :
    run (n + 1) 63 [scopeV a0, .lit (.int .i64 a1), .lit (.int .i64 a2)] = some (.lit (.bool true)) := by
  unfold run fnP
  simp +decide [Tryz.f63]
  rw [loopX_G (C' := fde_C2) (e := (fde_h2 a0 a1 a2 0)) ?_ ?_, L1]
  rotate_left
  · kernel_rfl
  · simp +decide [fde_h2]
  simp +decide [fde_o2a]
theorem fde_f2 {n : Nat} {a0 : TScope} {a1 : Int} {a2 : Int} (L1 : loopG Tryz.prog (tab (n + 1)) 0 43 (livesOf 63) 2 fde_C2 (fde_h2 a0 a1 a2 0) = some (.exit 0, fde_o2b )) :
    run (n + 1) 63 [scopeV a0, .lit (.int .i64 a1), .lit (.int .i64 a2)] = some (.lit (.bool false)) := by
  unfold run fnP
  simp +decide [Tryz.f63]
  rw [loopX_G (C' := fde_C2) (e := (fde_h2 a0 a1 a2 0)) ?_ ?_, L1]
  rotate_left
  · kernel_rfl
  · simp +decide [fde_h2]
  simp +decide [fde_o2b]
/-! relucertref21.phases, level 2 -/
theorem fph_f1 {n : Nat} {a0 : TScope} {a1 : Int} {r : Int} {r2 : Int} {r3 : Bool} {r4 : Bool} (K1 : run (n + 1) 227 [scopeV a0, .lit (.int .i64 a1)] = some (.tup [.lit (.int .i64 r), .lit (.int .i64 r2)])) (K2 : run (n + 1) 63 [scopeV a0, .lit (.int .i64 1), .lit (.int .i64 a1)] = some (.lit (.bool r3))) (C3 : r3 = true) (K4 : run (n + 1) 63 [scopeV a0, .lit (.int .i64 2), .lit (.int .i64 a1)] = some (.lit (.bool r4))) (C5 : r4 = true) :
    run (n + 2) 155 [scopeV a0, .lit (.int .i64 a1)] = some (.tup [.lit (.bool true), .lit (.bool true)]) := by
  simp only [scopeV] at K1
  simp only [scopeV] at K2
  simp only [scopeV] at K4
  unfold run fnP
  simp +decide [Tryz.f155, K1, K2, C3, K4, C5]
theorem fph_f2 {n : Nat} {a0 : TScope} {a1 : Int} {r : Int} {r2 : Int} {r3 : Bool} {r4 : Bool} {x2 : TLemma} (K1 : run (n + 1) 227 [scopeV a0, .lit (.int .i64 a1)] = some (.tup [.lit (.int .i64 r), .lit (.int .i64 r2)])) (K2 : run (n + 1) 63 [scopeV a0, .lit (.int .i64 1), .lit (.int .i64 a1)] = some (.lit (.bool r3))) (C3 : r3 = true) (K4 : run (n + 1) 63 [scopeV a0, .lit (.int .i64 2), .lit (.int .i64 a1)] = some (.lit (.bool r4))) (C5 : r4 = false) (C6 : 0 < r2) (W7 : InI (r2 - 1)) (E8 : a0.Lemmas[r2.toNat - 1]? = some x2) (Z8 : 0 ≤ r2 - 1) (B9a : RawB x2.Value) :
    run (n + 2) 155 [scopeV a0, .lit (.int .i64 a1)] = some (.tup [.lit (.bool true), .lit (.bool (decide (sgR x2.Value.q ≤ 0)))]) := by
  simp only [scopeV] at K1
  simp only [scopeV] at K2
  simp only [scopeV] at K4
  have W7_ : IntKind.i64.wrap (r2 - 1) = r2 - 1 := wr64 W7.1 W7.2
  obtain ⟨EL8, EG8⟩ := List.getElem?_eq_some_iff.1 E8
  have Z8_0 : 1 ≤ r2 := by omega
  have K9 := rr_sign B9a
  unfold run fnP
  simp +decide [Tryz.f155, K1, K2, C3, K4, C5, C6, W7_, EL8, EG8, E8, Z8, Z8_0, K9]
theorem fph_f3 {n : Nat} {a0 : TScope} {a1 : Int} {r : Int} {r2 : Int} {r3 : Bool} {r4 : Bool} (K1 : run (n + 1) 227 [scopeV a0, .lit (.int .i64 a1)] = some (.tup [.lit (.int .i64 r), .lit (.int .i64 r2)])) (K2 : run (n + 1) 63 [scopeV a0, .lit (.int .i64 1), .lit (.int .i64 a1)] = some (.lit (.bool r3))) (C3 : r3 = true) (K4 : run (n + 1) 63 [scopeV a0, .lit (.int .i64 2), .lit (.int .i64 a1)] = some (.lit (.bool r4))) (C5 : r4 = false) (C6 : ¬ 0 < r2) :
    run (n + 2) 155 [scopeV a0, .lit (.int .i64 a1)] = some (.tup [.lit (.bool true), .lit (.bool false)]) := by
  simp only [scopeV] at K1
  simp only [scopeV] at K2
  simp only [scopeV] at K4
  unfold run fnP
  simp +decide [Tryz.f155, K1, K2, C3, K4, C5, C6]
theorem fph_f4 {n : Nat} {a0 : TScope} {a1 : Int} {r : Int} {r2 : Int} {r3 : Bool} {x : TLemma} {r5 : Bool} (K1 : run (n + 1) 227 [scopeV a0, .lit (.int .i64 a1)] = some (.tup [.lit (.int .i64 r), .lit (.int .i64 r2)])) (K2 : run (n + 1) 63 [scopeV a0, .lit (.int .i64 1), .lit (.int .i64 a1)] = some (.lit (.bool r3))) (C3 : r3 = false) (C4 : 0 < r) (W5 : InI (r - 1)) (E6 : a0.Lemmas[r.toNat - 1]? = some x) (Z6 : 0 ≤ r - 1) (B7a : RawB x.Value) (K8 : run (n + 1) 63 [scopeV a0, .lit (.int .i64 2), .lit (.int .i64 a1)] = some (.lit (.bool r5))) (C9 : r5 = true) :
    run (n + 2) 155 [scopeV a0, .lit (.int .i64 a1)] = some (.tup [.lit (.bool (decide (0 ≤ sgR x.Value.q))), .lit (.bool true)]) := by
  simp only [scopeV] at K1
  simp only [scopeV] at K2
  have W5_ : IntKind.i64.wrap (r - 1) = r - 1 := wr64 W5.1 W5.2
  obtain ⟨EL6, EG6⟩ := List.getElem?_eq_some_iff.1 E6
  have Z6_0 : 1 ≤ r := by omega
  have K7 := rr_sign B7a
  simp only [scopeV] at K8
  unfold run fnP
  simp +decide [Tryz.f155, K1, K2, C3, C4, W5_, EL6, EG6, E6, Z6, Z6_0, K7, K8, C9]
theorem fph_f5 {n : Nat} {a0 : TScope} {a1 : Int} {r : Int} {r2 : Int} {r3 : Bool} {x : TLemma} {r5 : Bool} {x3 : TLemma} (K1 : run (n + 1) 227 [scopeV a0, .lit (.int .i64 a1)] = some (.tup [.lit (.int .i64 r), .lit (.int .i64 r2)])) (K2 : run (n + 1) 63 [scopeV a0, .lit (.int .i64 1), .lit (.int .i64 a1)] = some (.lit (.bool r3))) (C3 : r3 = false) (C4 : 0 < r) (W5 : InI (r - 1)) (E6 : a0.Lemmas[r.toNat - 1]? = some x) (Z6 : 0 ≤ r - 1) (B7a : RawB x.Value) (K8 : run (n + 1) 63 [scopeV a0, .lit (.int .i64 2), .lit (.int .i64 a1)] = some (.lit (.bool r5))) (C9 : r5 = false) (C10 : 0 < r2) (W11 : InI (r2 - 1)) (E12 : a0.Lemmas[r2.toNat - 1]? = some x3) (Z12 : 0 ≤ r2 - 1) (B13a : RawB x3.Value) :
    run (n + 2) 155 [scopeV a0, .lit (.int .i64 a1)] = some (.tup [.lit (.bool (decide (0 ≤ sgR x.Value.q))), .lit (.bool (decide (sgR x3.Value.q ≤ 0)))]) := by
  simp only [scopeV] at K1
  simp only [scopeV] at K2
  have W5_ : IntKind.i64.wrap (r - 1) = r - 1 := wr64 W5.1 W5.2
  obtain ⟨EL6, EG6⟩ := List.getElem?_eq_some_iff.1 E6
  have Z6_0 : 1 ≤ r := by omega
  have K7 := rr_sign B7a
  simp only [scopeV] at K8
  have W11_ : IntKind.i64.wrap (r2 - 1) = r2 - 1 := wr64 W11.1 W11.2
  obtain ⟨EL12, EG12⟩ := List.getElem?_eq_some_iff.1 E12
  have Z12_0 : 1 ≤ r2 := by omega
  have K13 := rr_sign B13a
  unfold run fnP
  simp +decide [Tryz.f155, K1, K2, C3, C4, W5_, EL6, EG6, E6, Z6, Z6_0, K7, K8, C9, C10, W11_, EL12, EG12, E12, Z12, Z12_0, K13]
theorem fph_f6 {n : Nat} {a0 : TScope} {a1 : Int} {r : Int} {r2 : Int} {r3 : Bool} {x : TLemma} {r5 : Bool} (K1 : run (n + 1) 227 [scopeV a0, .lit (.int .i64 a1)] = some (.tup [.lit (.int .i64 r), .lit (.int .i64 r2)])) (K2 : run (n + 1) 63 [scopeV a0, .lit (.int .i64 1), .lit (.int .i64 a1)] = some (.lit (.bool r3))) (C3 : r3 = false) (C4 : 0 < r) (W5 : InI (r - 1)) (E6 : a0.Lemmas[r.toNat - 1]? = some x) (Z6 : 0 ≤ r - 1) (B7a : RawB x.Value) (K8 : run (n + 1) 63 [scopeV a0, .lit (.int .i64 2), .lit (.int .i64 a1)] = some (.lit (.bool r5))) (C9 : r5 = false) (C10 : ¬ 0 < r2) :
    run (n + 2) 155 [scopeV a0, .lit (.int .i64 a1)] = some (.tup [.lit (.bool (decide (0 ≤ sgR x.Value.q))), .lit (.bool false)]) := by
  simp only [scopeV] at K1
  simp only [scopeV] at K2
  have W5_ : IntKind.i64.wrap (r - 1) = r - 1 := wr64 W5.1 W5.2
  obtain ⟨EL6, EG6⟩ := List.getElem?_eq_some_iff.1 E6
  have Z6_0 : 1 ≤ r := by omega
  have K7 := rr_sign B7a
  simp only [scopeV] at K8
  unfold run fnP
  simp +decide [Tryz.f155, K1, K2, C3, C4, W5_, EL6, EG6, E6, Z6, Z6_0, K7, K8, C9, C10]
theorem fph_f7 {n : Nat} {a0 : TScope} {a1 : Int} {r : Int} {r2 : Int} {r3 : Bool} {r6 : Bool} (K1 : run (n + 1) 227 [scopeV a0, .lit (.int .i64 a1)] = some (.tup [.lit (.int .i64 r), .lit (.int .i64 r2)])) (K2 : run (n + 1) 63 [scopeV a0, .lit (.int .i64 1), .lit (.int .i64 a1)] = some (.lit (.bool r3))) (C3 : r3 = false) (C4 : ¬ 0 < r) (K5 : run (n + 1) 63 [scopeV a0, .lit (.int .i64 2), .lit (.int .i64 a1)] = some (.lit (.bool r6))) (C6 : r6 = true) :
    run (n + 2) 155 [scopeV a0, .lit (.int .i64 a1)] = some (.tup [.lit (.bool false), .lit (.bool true)]) := by
  simp only [scopeV] at K1
  simp only [scopeV] at K2
  simp only [scopeV] at K5
  unfold run fnP
  simp +decide [Tryz.f155, K1, K2, C3, C4, K5, C6]
theorem fph_f8 {n : Nat} {a0 : TScope} {a1 : Int} {r : Int} {r2 : Int} {r3 : Bool} {r6 : Bool} {x4 : TLemma} (K1 : run (n + 1) 227 [scopeV a0, .lit (.int .i64 a1)] = some (.tup [.lit (.int .i64 r), .lit (.int .i64 r2)])) (K2 : run (n + 1) 63 [scopeV a0, .lit (.int .i64 1), .lit (.int .i64 a1)] = some (.lit (.bool r3))) (C3 : r3 = false) (C4 : ¬ 0 < r) (K5 : run (n + 1) 63 [scopeV a0, .lit (.int .i64 2), .lit (.int .i64 a1)] = some (.lit (.bool r6))) (C6 : r6 = false) (C7 : 0 < r2) (W8 : InI (r2 - 1)) (E9 : a0.Lemmas[r2.toNat - 1]? = some x4) (Z9 : 0 ≤ r2 - 1) (B10a : RawB x4.Value) :
    run (n + 2) 155 [scopeV a0, .lit (.int .i64 a1)] = some (.tup [.lit (.bool false), .lit (.bool (decide (sgR x4.Value.q ≤ 0)))]) := by
  simp only [scopeV] at K1
  simp only [scopeV] at K2
  simp only [scopeV] at K5
  have W8_ : IntKind.i64.wrap (r2 - 1) = r2 - 1 := wr64 W8.1 W8.2
  obtain ⟨EL9, EG9⟩ := List.getElem?_eq_some_iff.1 E9
  have Z9_0 : 1 ≤ r2 := by omega
  have K10 := rr_sign B10a
  unfold run fnP
  simp +decide [Tryz.f155, K1, K2, C3, C4, K5, C6, C7, W8_, EL9, EG9, E9, Z9, Z9_0, K10]
theorem fph_f9 {n : Nat} {a0 : TScope} {a1 : Int} {r : Int} {r2 : Int} {r3 : Bool} {r6 : Bool} (K1 : run (n + 1) 227 [scopeV a0, .lit (.int .i64 a1)] = some (.tup [.lit (.int .i64 r), .lit (.int .i64 r2)])) (K2 : run (n + 1) 63 [scopeV a0, .lit (.int .i64 1), .lit (.int .i64 a1)] = some (.lit (.bool r3))) (C3 : r3 = false) (C4 : ¬ 0 < r) (K5 : run (n + 1) 63 [scopeV a0, .lit (.int .i64 2), .lit (.int .i64 a1)] = some (.lit (.bool r6))) (C6 : r6 = false) (C7 : ¬ 0 < r2) :
    run (n + 2) 155 [scopeV a0, .lit (.int .i64 a1)] = some (.tup [.lit (.bool false), .lit (.bool false)]) := by
  simp only [scopeV] at K1
  simp only [scopeV] at K2
  simp only [scopeV] at K5
  unfold run fnP
  simp +decide [Tryz.f155, K1, K2, C3, C4, K5, C6, C7]
/-! relucertref21.Phase, level 5 -/
theorem fP_f4 {n : Nat} {a0 : TScope} {a1 : Int} {r : Bool} {r2 : Bool} {r3 : Bool} (K1 : run (n + 4) 66 [queryV a0.Query] = some (.lit (.bool r))) (C2 : r = true) (C3 : ¬ a1 < 0) (C4 : ¬ (a0.Query.Graph.Units.length : Int) ≤ a1) (K5 : run (n + 4) 155 [scopeV a0, .lit (.int .i64 a1)] = some (.tup [.lit (.bool r2), .lit (.bool r3)])) (C6 : r2 = true) :
    run (n + 5) 67 [scopeV a0, .lit (.int .i64 a1)] = some (.lit (.int .i64 1)) := by
  simp only [queryV] at K1
  simp only [scopeV] at K5
  unfold run fnP
  simp +decide [Tryz.f67, K1, C2, C3, C4, K5, C6]
theorem fP_f5 {n : Nat} {a0 : TScope} {a1 : Int} {r : Bool} {r2 : Bool} {r3 : Bool} (K1 : run (n + 4) 66 [queryV a0.Query] = some (.lit (.bool r))) (C2 : r = true) (C3 : ¬ a1 < 0) (C4 : ¬ (a0.Query.Graph.Units.length : Int) ≤ a1) (K5 : run (n + 4) 155 [scopeV a0, .lit (.int .i64 a1)] = some (.tup [.lit (.bool r2), .lit (.bool r3)])) (C6 : r2 = false) (C7 : r3 = true) :
    run (n + 5) 67 [scopeV a0, .lit (.int .i64 a1)] = some (.lit (.int .i64 2)) := by
  simp only [queryV] at K1
  simp only [scopeV] at K5
  unfold run fnP
  simp +decide [Tryz.f67, K1, C2, C3, C4, K5, C6, C7]
theorem fP_f6 {n : Nat} {a0 : TScope} {a1 : Int} {r : Bool} {r2 : Bool} {r3 : Bool} (K1 : run (n + 4) 66 [queryV a0.Query] = some (.lit (.bool r))) (C2 : r = true) (C3 : ¬ a1 < 0) (C4 : ¬ (a0.Query.Graph.Units.length : Int) ≤ a1) (K5 : run (n + 4) 155 [scopeV a0, .lit (.int .i64 a1)] = some (.tup [.lit (.bool r2), .lit (.bool r3)])) (C6 : r2 = false) (C7 : r3 = false) :
    run (n + 5) 67 [scopeV a0, .lit (.int .i64 a1)] = some (.lit (.int .i64 0)) := by
  simp only [queryV] at K1
  simp only [scopeV] at K5
  unfold run fnP
  simp +decide [Tryz.f67, K1, C2, C3, C4, K5, C6, C7]
/-! relucertref34.Of, level 6 -/
noncomputable def fOf_C5 : Code := (loopsOf (bodyOf Tryz.f18)).getD 0 .skip
def fOf_h5 (a0 : TScope) (out_5 : List Int) (i_5 : Nat) : St :=
  ⟨[(1, .ptr 0 0), (3, .own 1 out_5.length), (4, .lit (.int .i64 (i_5 : Int)))],
   [(0, some (.box 48 [.lit (.int .i64 (a0.Query.Graph.Inputs)), .sl 4 (a0.Query.Graph.Units.map formC), .sl 4 (a0.Query.Graph.Outputs.map formC), .sl 3 (a0.Query.Region.Lo.map ratC), .sl 3 (a0.Query.Region.Hi.map ratC), .sl 4 (a0.Query.Region.Rows.map formC), .sl 4 (a0.Query.Goal.1.map termC), .lit (.bool (rawQ a0.Query.Goal.2).s), natA (rawQ a0.Query.Goal.2).l1, natA (rawQ a0.Query.Goal.2).l2, .sl 5 (a0.Path.map decisionC), .sl 6 (a0.Lemmas.map lemmaC)] false)),
    (1, some (.row 3 1 (out_5.map intI64C) 0))], 2⟩
def fOf_o5a (out_5 : List Int) : St :=
  ⟨[(3, .own 0 out_5.length)],
   [(0, some (.row 3 1 (out_5.map intI64C) 0))], 1⟩
theorem fOf_r5_1 {n : Nat} {a0 : TScope} {i_5 : Nat} {r4 : Int} {out_5 : List Int} (C1 : (i_5 : Int) < (a0.Query.Graph.Units.length : Int)) (K2 : run (n + 5) 67 [scopeV a0, .lit (.int .i64 (i_5 : Int))] = some (.lit (.int .i64 r4))) (M3 : out_5.length + 1 ≤ 100000000) (W4 : InI ((i_5 : Int) + 1)) :
    Cont 0 (exec Tryz.prog (tab (n + 6)) 0 25 (livesOf 18) big fOf_C5) (livesOf 18 5) (fOf_h5 a0 out_5 i_5) (fOf_h5 a0 (out_5 ++ [r4]) (i_5 + 1)) := by
  have C1_ : i_5 < a0.Query.Graph.Units.length := by omega
  simp only [scopeV] at K2
  have M3_ : ∀ b, b ≤ 10000 → roomy (out_5.length + 1) b = true := fun b hb => roomy_s M3 hb
  have W4_ : IntKind.i64.wrap ((i_5 : Int) + 1) = (i_5 : Int) + 1 := wr64 W4.1 W4.2
  unfold Cont
  simp +decide [fOf_h5, loopsOf, Tryz.f18, fOf_C5, C1, C1_, K2, M3_, W4_]
theorem fOf_x5_1 {n : Nat} {a0 : TScope} {i_5 : Nat} {out_5 : List Int} (C1 : ¬ (i_5 : Int) < (a0.Query.Graph.Units.length : Int)) :
    Leave 0 (exec Tryz.prog (tab (n + 6)) 0 25 (livesOf 18) big fOf_C5) (livesOf 18 (outOf 5)) (fOf_h5 a0 out_5 i_5) (.exit 0) (fOf_o5a out_5) := by
  have C1_ : ¬ i_5 < a0.Query.Graph.Units.length := by omega
  unfold Leave
  simp +decide [fOf_h5, loopsOf, Tryz.f18, fOf_o5a, fOf_C5, C1, C1_]
theorem fOf_f2 {n : Nat} {a0 : TScope} {r : Bool} {out_5 : List Int} (K1 : run (n + 5) 66 [queryV a0.Query] = some (.lit (.bool r))) (C2 : r = true) (L3 : loopG Tryz.prog (tab (n + 6)) 0 25 (livesOf 18) 5 fOf_C5 (fOf_h5 a0 [] 0) = some (.exit 0, fOf_o5a out_5)) :
    run (n + 6) 18 [scopeV a0] = some (.sl 1 (out_5.map intI64C)) := by
  simp only [queryV] at K1
  unfold run fnP
  simp +decide [Tryz.f18, K1, C2]
  rw [loopX_G (C' := fOf_C5) (e := (fOf_h5 a0 [] 0)) ?_ ?_, L3]
  rotate_left
  · kernel_rfl
  · simp +decide [fOf_h5, K1, C2]
  simp +decide [fOf_o5a, K1, C2]
/-! relucertref34.SameInts, level 0 -/
noncomputable def si_C4 : Code := (loopsOf (bodyOf Tryz.f16)).getD 0 .skip
def si_h4 (a0 : List Int) (a1 : List Int) (i_4 : Nat) : St :=
  ⟨[(0, .sl 1 (a0.map intI64C)), (1, .sl 1 (a1.map intI64C)), (5, .lit (.int .i64 (i_4 : Int)))],
   [], 0⟩
def si_o4b  : St :=
  ⟨[(4, .any)],
   [], 0⟩
theorem si_r4_1 {n : Nat} {a0 : List Int} {a1 : List Int} {i_4 : Nat} {x5 : Int} {x6 : Int} (C1 : (i_4 : Int) < (a0.length : Int)) (E2 : a0[i_4]? = some x5) (E3 : a1[i_4]? = some x6) (C4 : x5 = x6) (W5 : InI ((i_4 : Int) + 1)) :
    Cont 0 (exec Tryz.prog (tab n) 0 26 (livesOf 16) big si_C4) (livesOf 16 4) (si_h4 a0 a1 i_4) (si_h4 a0 a1 (i_4 + 1)) := by
  have C1_ : i_4 < a0.length := by omega
  obtain ⟨EL2, EG2⟩ := List.getElem?_eq_some_iff.1 E2
  obtain ⟨EL3, EG3⟩ := List.getElem?_eq_some_iff.1 E3
  have C4_ : (x5 == x6) = true := by rw [C4]; simp
  have C4_n : (x5 != x6) = false := by rw [C4]; simp
  have W5_ : IntKind.i64.wrap ((i_4 : Int) + 1) = (i_4 : Int) + 1 := wr64 W5.1 W5.2
  unfold Cont
  simp +decide [si_h4, loopsOf, Tryz.f16, si_C4, C1, C1_, EL2, EG2, E2, EL3, EG3, E3, C4_, C4_n, W5_]
theorem si_x4_2 {n : Nat} {a0 : List Int} {a1 : List Int} {i_4 : Nat} (C1 : ¬ (i_4 : Int) < (a0.length : Int)) :
    Leave 0 (exec Tryz.prog (tab n) 0 26 (livesOf 16) big si_C4) (livesOf 16 (outOf 4)) (si_h4 a0 a1 i_4) (.exit 0) (si_o4b ) := by
  have C1_ : ¬ i_4 < a0.length := by omega
  unfold Leave
  simp +decide [si_h4, loopsOf, Tryz.f16, si_o4b, si_C4, C1, C1_]
theorem si_f3 {n : Nat} {a0 : List Int} {a1 : List Int} (C1 : (a0.length : Int) = (a1.length : Int)) (L2 : loopG Tryz.prog (tab n) 0 26 (livesOf 16) 4 si_C4 (si_h4 a0 a1 0) = some (.exit 0, si_o4b )) :
    run n 16 [.sl 1 (a0.map intI64C), .sl 1 (a1.map intI64C)] = some (.lit (.bool true)) := by
  have C1_ : ((a0.length : Int) == (a1.length : Int)) = true := by rw [C1]; simp
  have C1_n : ((a0.length : Int) != (a1.length : Int)) = false := by rw [C1]; simp
  unfold run fnP
  simp +decide [Tryz.f16, C1_, C1_n]
  rw [loopX_G (C' := si_C4) (e := (si_h4 a0 a1 0)) ?_ ?_, L2]
  rotate_left
  · kernel_rfl
  · simp +decide [si_h4, C1_, C1_n]
  simp +decide [si_o4b, C1_, C1_n]
end Go.Proofs.YtkakmdadnhjphaaGreatDoor
set_option linter.all false
set_option maxRecDepth 100000
set_option maxHeartbeats 6400000
namespace Go.Proofs.YtkakmdadnhjphaaGreatDoor
open Go.RowKit

/-! relucertref21.Part, level 6 -/
noncomputable def pa_C4 : Code := (loopsOf (bodyOf Tryz.f15)).getD 0 .skip
def pa_h4 (i_4 : Int) (r : TFeed) (i2_4 : Int) (r2 : TQuery) (out_4 : List TDecision) (fz_4 : Nat) : St :=
  ⟨[(2, .ptr 0 0), (3, .ptr 1 0), (4, .ptr 2 0), (5, .lit (.int .i64 i_4))],
   [(0, some (.box 48 [.lit (.int .i64 0), .nl 4, .nl 4, .nl 3, .nl 3, .nl 4, .nl 4, .lit (.bool false), .nl 1, .nl 1, .nl 5, .nl 6] false)),
    (1, some (.box 192 [.sl 1 (r.Raw.map intU8C), .lit (.int .i64 i2_4)] false)),
    (2, some (.box 48 [.lit (.int .i64 (r2.Graph.Inputs)), .sl 4 (r2.Graph.Units.map formC), .sl 4 (r2.Graph.Outputs.map formC), .sl 3 (r2.Region.Lo.map ratC), .sl 3 (r2.Region.Hi.map ratC), .sl 4 (r2.Region.Rows.map formC), .sl 4 (r2.Goal.1.map termC), .lit (.bool (rawQ r2.Goal.2).s), natA (rawQ r2.Goal.2).l1, natA (rawQ r2.Goal.2).l2, .own 3 out_4.length, .nl 6] false)),
    (3, some (.row 34 5 (out_4.map decisionC) fz_4))], 4⟩
def pa_o4a (r2 : TQuery) (out_4 : List TDecision) (fz_4 : Nat) : St :=
  ⟨[(2, .ptr 0 0), (4, .ptr 1 0)],
   [(0, some (.box 48 [.lit (.int .i64 0), .nl 4, .nl 4, .nl 3, .nl 3, .nl 4, .nl 4, .lit (.bool false), .nl 1, .nl 1, .nl 5, .nl 6] false)),
    (1, some (.box 48 [.lit (.int .i64 (r2.Graph.Inputs)), .sl 4 (r2.Graph.Units.map formC), .sl 4 (r2.Graph.Outputs.map formC), .sl 3 (r2.Region.Lo.map ratC), .sl 3 (r2.Region.Hi.map ratC), .sl 4 (r2.Region.Rows.map formC), .sl 4 (r2.Goal.1.map termC), .lit (.bool (rawQ r2.Goal.2).s), natA (rawQ r2.Goal.2).l1, natA (rawQ r2.Goal.2).l2, .own 2 out_4.length, .nl 6] false)),
    (2, some (.row 34 5 (out_4.map decisionC) fz_4))], 3⟩
theorem pa_r4_1 {n : Nat} {i_4 : Int} {r : TFeed} {i2_4 : Int} {r28 : Int} {z21 : Int} {r2 : TQuery} {r29 : Int} {z22 : Int} {r30 : Rat} {z23 : Int} {out_4 : List TDecision} {fz_4 : Nat} (C1 : 0 < i_4) (K2 : runL (n + 5) 61 [.ptr 0 0, .lit (.int .i64 4)] [.box 192 [.sl 1 (r.Raw.map intU8C), .lit (.int .i64 i2_4)] false] = some (.lit (.int .i64 r28), [(0, .box 192 [.sl 1 (r.Raw.map intU8C), .lit (.int .i64 z21)] false)])) (W3 : InI (1 + r28)) (C4 : 1 + r28 = 3) (K5 : runL (n + 5) 61 [.ptr 0 0, .lit (.int .i64 (r2.Graph.Inputs))] [.box 192 [.sl 1 (r.Raw.map intU8C), .lit (.int .i64 z21)] false] = some (.lit (.int .i64 r29), [(0, .box 192 [.sl 1 (r.Raw.map intU8C), .lit (.int .i64 z22)] false)])) (K6 : runL (n + 5) 62 [.ptr 0 0] [.box 192 [.sl 1 (r.Raw.map intU8C), .lit (.int .i64 z22)] false] = some (ratV r30, [(0, .box 192 [.sl 1 (r.Raw.map intU8C), .lit (.int .i64 z23)] false)])) (M7 : out_4.length + 1 ≤ 100000000) (W8 : InI (i_4 - 1)) :
    Cont 0 (exec Tryz.prog (tab (n + 6)) 0 71 (livesOf 15) big pa_C4) (livesOf 15 4) (pa_h4 i_4 r i2_4 r2 out_4 fz_4) (pa_h4 (i_4 - 1) r z23 r2 (out_4 ++ [(⟨(1 + r28), r29, r30⟩ : TDecision)]) fz_4) := by
  have W3_ : IntKind.i64.wrap (1 + r28) = 1 + r28 := wr64 W3.1 W3.2
  have C4_ : (1 + r28 == 3) = true := by rw [C4]; simp
  have C4_n : (1 + r28 != 3) = false := by rw [C4]; simp
  simp only [ratV] at K6
  have M7_ : ∀ b, b ≤ 10000 → roomy (out_4.length + 1) b = true := fun b hb => roomy_s M7 hb
  have W8_ : IntKind.i64.wrap (i_4 - 1) = i_4 - 1 := wr64 W8.1 W8.2
  unfold Cont
  simp +decide [pa_h4, loopsOf, Tryz.f15, pa_C4, C1, K2, W3_, C4_, C4_n, K5, K6, M7_, W8_]
theorem pa_r4_2 {n : Nat} {i_4 : Int} {r : TFeed} {i2_4 : Int} {r28 : Int} {z21 : Int} {r2 : TQuery} {r31 : Int} {z24 : Int} {r32 : Rat} {z25 : Int} {out_4 : List TDecision} {fz_4 : Nat} (C1 : 0 < i_4) (K2 : runL (n + 5) 61 [.ptr 0 0, .lit (.int .i64 4)] [.box 192 [.sl 1 (r.Raw.map intU8C), .lit (.int .i64 i2_4)] false] = some (.lit (.int .i64 r28), [(0, .box 192 [.sl 1 (r.Raw.map intU8C), .lit (.int .i64 z21)] false)])) (W3 : InI (1 + r28)) (C4 : ¬ 1 + r28 = 3) (C5 : 1 + r28 = 4) (K6 : runL (n + 5) 61 [.ptr 0 0, .lit (.int .i64 (r2.Graph.Inputs))] [.box 192 [.sl 1 (r.Raw.map intU8C), .lit (.int .i64 z21)] false] = some (.lit (.int .i64 r31), [(0, .box 192 [.sl 1 (r.Raw.map intU8C), .lit (.int .i64 z24)] false)])) (K7 : runL (n + 5) 62 [.ptr 0 0] [.box 192 [.sl 1 (r.Raw.map intU8C), .lit (.int .i64 z24)] false] = some (ratV r32, [(0, .box 192 [.sl 1 (r.Raw.map intU8C), .lit (.int .i64 z25)] false)])) (M8 : out_4.length + 1 ≤ 100000000) (W9 : InI (i_4 - 1)) :
    Cont 0 (exec Tryz.prog (tab (n + 6)) 0 71 (livesOf 15) big pa_C4) (livesOf 15 4) (pa_h4 i_4 r i2_4 r2 out_4 fz_4) (pa_h4 (i_4 - 1) r z25 r2 (out_4 ++ [(⟨(1 + r28), r31, r32⟩ : TDecision)]) fz_4) := by
  have W3_ : IntKind.i64.wrap (1 + r28) = 1 + r28 := wr64 W3.1 W3.2
  have C4_ : (1 + r28 == 3) = false := by simpa using C4
  have C4_n : (1 + r28 != 3) = true := by simpa using C4
  have C5_ : (1 + r28 == 4) = true := by rw [C5]; simp
  have C5_n : (1 + r28 != 4) = false := by rw [C5]; simp
  simp only [ratV] at K7
  have M8_ : ∀ b, b ≤ 10000 → roomy (out_4.length + 1) b = true := fun b hb => roomy_s M8 hb
  have W9_ : IntKind.i64.wrap (i_4 - 1) = i_4 - 1 := wr64 W9.1 W9.2
  unfold Cont
  simp +decide [pa_h4, loopsOf, Tryz.f15, pa_C4, C1, K2, W3_, C4_, C4_n, C5_, C5_n, K6, K7, M8_, W9_]
theorem pa_r4_3 {n : Nat} {i_4 : Int} {r : TFeed} {i2_4 : Int} {r28 : Int} {z21 : Int} {r2 : TQuery} {out_4 : List TDecision} {fz_4 : Nat} (C1 : 0 < i_4) (K2 : runL (n + 5) 61 [.ptr 0 0, .lit (.int .i64 4)] [.box 192 [.sl 1 (r.Raw.map intU8C), .lit (.int .i64 i2_4)] false] = some (.lit (.int .i64 r28), [(0, .box 192 [.sl 1 (r.Raw.map intU8C), .lit (.int .i64 z21)] false)])) (W3 : InI (1 + r28)) (C4 : ¬ 1 + r28 = 3) (C5 : ¬ 1 + r28 = 4) (C6 : (r2.Graph.Units.length : Int) = 0) (W7 : InI (i_4 - 1)) :
    Cont 0 (exec Tryz.prog (tab (n + 6)) 0 71 (livesOf 15) big pa_C4) (livesOf 15 4) (pa_h4 i_4 r i2_4 r2 out_4 fz_4) (pa_h4 (i_4 - 1) r z21 r2 out_4 fz_4) := by
  have W3_ : IntKind.i64.wrap (1 + r28) = 1 + r28 := wr64 W3.1 W3.2
  have C4_ : (1 + r28 == 3) = false := by simpa using C4
  have C4_n : (1 + r28 != 3) = true := by simpa using C4
  have C5_ : (1 + r28 == 4) = false := by simpa using C5
  have C5_n : (1 + r28 != 4) = true := by simpa using C5
  have C6_ : ((r2.Graph.Units.length : Int) == 0) = true := by rw [C6]; simp
  have C6_n : ((r2.Graph.Units.length : Int) != 0) = false := by rw [C6]; simp
  have W7_ : IntKind.i64.wrap (i_4 - 1) = i_4 - 1 := wr64 W7.1 W7.2
  unfold Cont
  simp +decide [pa_h4, loopsOf, Tryz.f15, pa_C4, C1, K2, W3_, C4_, C4_n, C5_, C5_n, C6_, C6_n, W7_]
theorem pa_r4_4 {n : Nat} {i_4 : Int} {r : TFeed} {i2_4 : Int} {r28 : Int} {z21 : Int} {r2 : TQuery} {r33 : Int} {z26 : Int} {out_4 : List TDecision} {r34 : Bool} {fz_4 : Nat} (C1 : 0 < i_4) (K2 : runL (n + 5) 61 [.ptr 0 0, .lit (.int .i64 4)] [.box 192 [.sl 1 (r.Raw.map intU8C), .lit (.int .i64 i2_4)] false] = some (.lit (.int .i64 r28), [(0, .box 192 [.sl 1 (r.Raw.map intU8C), .lit (.int .i64 z21)] false)])) (W3 : InI (1 + r28)) (C4 : ¬ 1 + r28 = 3) (C5 : ¬ 1 + r28 = 4) (C6 : ¬ (r2.Graph.Units.length : Int) = 0) (K7 : runL (n + 5) 61 [.ptr 0 0, .lit (.int .i64 (r2.Graph.Units.length : Int))] [.box 192 [.sl 1 (r.Raw.map intU8C), .lit (.int .i64 z21)] false] = some (.lit (.int .i64 r33), [(0, .box 192 [.sl 1 (r.Raw.map intU8C), .lit (.int .i64 z26)] false)])) (K8 : run (n + 5) 63 [.agg [.lit (.int .i64 (r2.Graph.Inputs)), .sl 4 (r2.Graph.Units.map formC), .sl 4 (r2.Graph.Outputs.map formC), .sl 3 (r2.Region.Lo.map ratC), .sl 3 (r2.Region.Hi.map ratC), .sl 4 (r2.Region.Rows.map formC), .sl 4 (r2.Goal.1.map termC), .lit (.bool (rawQ r2.Goal.2).s), natA (rawQ r2.Goal.2).l1, natA (rawQ r2.Goal.2).l2, .sl 5 (out_4.map decisionC), .sl 6 []], .lit (.int .i64 1), .lit (.int .i64 r33)] = some (.lit (.bool r34))) (C9 : r34 = true) (W10 : InI (i_4 - 1)) :
    Cont 0 (exec Tryz.prog (tab (n + 6)) 0 71 (livesOf 15) big pa_C4) (livesOf 15 4) (pa_h4 i_4 r i2_4 r2 out_4 fz_4) (pa_h4 (i_4 - 1) r z26 r2 out_4 out_4.length) := by
  have W3_ : IntKind.i64.wrap (1 + r28) = 1 + r28 := wr64 W3.1 W3.2
  have C4_ : (1 + r28 == 3) = false := by simpa using C4
  have C4_n : (1 + r28 != 3) = true := by simpa using C4
  have C5_ : (1 + r28 == 4) = false := by simpa using C5
  have C5_n : (1 + r28 != 4) = true := by simpa using C5
  have C6_ : ((r2.Graph.Units.length : Int) == 0) = false := by simpa using C6
  have C6_n : ((r2.Graph.Units.length : Int) != 0) = true := by simpa using C6
  have W10_ : IntKind.i64.wrap (i_4 - 1) = i_4 - 1 := wr64 W10.1 W10.2
  unfold Cont
  simp +decide [pa_h4, loopsOf, Tryz.f15, pa_C4, C1, K2, W3_, C4_, C4_n, C5_, C5_n, C6_, C6_n, K7, K8, C9, W10_]
theorem pa_r4_5 {n : Nat} {i_4 : Int} {r : TFeed} {i2_4 : Int} {r28 : Int} {z21 : Int} {r2 : TQuery} {r33 : Int} {z26 : Int} {out_4 : List TDecision} {r34 : Bool} {r35 : Bool} {fz_4 : Nat} (C1 : 0 < i_4) (K2 : runL (n + 5) 61 [.ptr 0 0, .lit (.int .i64 4)] [.box 192 [.sl 1 (r.Raw.map intU8C), .lit (.int .i64 i2_4)] false] = some (.lit (.int .i64 r28), [(0, .box 192 [.sl 1 (r.Raw.map intU8C), .lit (.int .i64 z21)] false)])) (W3 : InI (1 + r28)) (C4 : ¬ 1 + r28 = 3) (C5 : ¬ 1 + r28 = 4) (C6 : ¬ (r2.Graph.Units.length : Int) = 0) (K7 : runL (n + 5) 61 [.ptr 0 0, .lit (.int .i64 (r2.Graph.Units.length : Int))] [.box 192 [.sl 1 (r.Raw.map intU8C), .lit (.int .i64 z21)] false] = some (.lit (.int .i64 r33), [(0, .box 192 [.sl 1 (r.Raw.map intU8C), .lit (.int .i64 z26)] false)])) (K8 : run (n + 5) 63 [.agg [.lit (.int .i64 (r2.Graph.Inputs)), .sl 4 (r2.Graph.Units.map formC), .sl 4 (r2.Graph.Outputs.map formC), .sl 3 (r2.Region.Lo.map ratC), .sl 3 (r2.Region.Hi.map ratC), .sl 4 (r2.Region.Rows.map formC), .sl 4 (r2.Goal.1.map termC), .lit (.bool (rawQ r2.Goal.2).s), natA (rawQ r2.Goal.2).l1, natA (rawQ r2.Goal.2).l2, .sl 5 (out_4.map decisionC), .sl 6 []], .lit (.int .i64 1), .lit (.int .i64 r33)] = some (.lit (.bool r34))) (C9 : r34 = false) (K10 : run (n + 5) 63 [.agg [.lit (.int .i64 (r2.Graph.Inputs)), .sl 4 (r2.Graph.Units.map formC), .sl 4 (r2.Graph.Outputs.map formC), .sl 3 (r2.Region.Lo.map ratC), .sl 3 (r2.Region.Hi.map ratC), .sl 4 (r2.Region.Rows.map formC), .sl 4 (r2.Goal.1.map termC), .lit (.bool (rawQ r2.Goal.2).s), natA (rawQ r2.Goal.2).l1, natA (rawQ r2.Goal.2).l2, .sl 5 (out_4.map decisionC), .sl 6 []], .lit (.int .i64 2), .lit (.int .i64 r33)] = some (.lit (.bool r35))) (C11 : r35 = true) (W12 : InI (i_4 - 1)) :
    Cont 0 (exec Tryz.prog (tab (n + 6)) 0 71 (livesOf 15) big pa_C4) (livesOf 15 4) (pa_h4 i_4 r i2_4 r2 out_4 fz_4) (pa_h4 (i_4 - 1) r z26 r2 out_4 out_4.length) := by
  have W3_ : IntKind.i64.wrap (1 + r28) = 1 + r28 := wr64 W3.1 W3.2
  have C4_ : (1 + r28 == 3) = false := by simpa using C4
  have C4_n : (1 + r28 != 3) = true := by simpa using C4
  have C5_ : (1 + r28 == 4) = false := by simpa using C5
  have C5_n : (1 + r28 != 4) = true := by simpa using C5
  have C6_ : ((r2.Graph.Units.length : Int) == 0) = false := by simpa using C6
  have C6_n : ((r2.Graph.Units.length : Int) != 0) = true := by simpa using C6
  have W12_ : IntKind.i64.wrap (i_4 - 1) = i_4 - 1 := wr64 W12.1 W12.2
  unfold Cont
  simp +decide [pa_h4, loopsOf, Tryz.f15, pa_C4, C1, K2, W3_, C4_, C4_n, C5_, C5_n, C6_, C6_n, K7, K8, C9, K10, C11, W12_]
theorem pa_r4_6 {n : Nat} {i_4 : Int} {r : TFeed} {i2_4 : Int} {r28 : Int} {z21 : Int} {r2 : TQuery} {r33 : Int} {z26 : Int} {out_4 : List TDecision} {r34 : Bool} {r35 : Bool} {fz_4 : Nat} (C1 : 0 < i_4) (K2 : runL (n + 5) 61 [.ptr 0 0, .lit (.int .i64 4)] [.box 192 [.sl 1 (r.Raw.map intU8C), .lit (.int .i64 i2_4)] false] = some (.lit (.int .i64 r28), [(0, .box 192 [.sl 1 (r.Raw.map intU8C), .lit (.int .i64 z21)] false)])) (W3 : InI (1 + r28)) (C4 : ¬ 1 + r28 = 3) (C5 : ¬ 1 + r28 = 4) (C6 : ¬ (r2.Graph.Units.length : Int) = 0) (K7 : runL (n + 5) 61 [.ptr 0 0, .lit (.int .i64 (r2.Graph.Units.length : Int))] [.box 192 [.sl 1 (r.Raw.map intU8C), .lit (.int .i64 z21)] false] = some (.lit (.int .i64 r33), [(0, .box 192 [.sl 1 (r.Raw.map intU8C), .lit (.int .i64 z26)] false)])) (K8 : run (n + 5) 63 [.agg [.lit (.int .i64 (r2.Graph.Inputs)), .sl 4 (r2.Graph.Units.map formC), .sl 4 (r2.Graph.Outputs.map formC), .sl 3 (r2.Region.Lo.map ratC), .sl 3 (r2.Region.Hi.map ratC), .sl 4 (r2.Region.Rows.map formC), .sl 4 (r2.Goal.1.map termC), .lit (.bool (rawQ r2.Goal.2).s), natA (rawQ r2.Goal.2).l1, natA (rawQ r2.Goal.2).l2, .sl 5 (out_4.map decisionC), .sl 6 []], .lit (.int .i64 1), .lit (.int .i64 r33)] = some (.lit (.bool r34))) (C9 : r34 = false) (K10 : run (n + 5) 63 [.agg [.lit (.int .i64 (r2.Graph.Inputs)), .sl 4 (r2.Graph.Units.map formC), .sl 4 (r2.Graph.Outputs.map formC), .sl 3 (r2.Region.Lo.map ratC), .sl 3 (r2.Region.Hi.map ratC), .sl 4 (r2.Region.Rows.map formC), .sl 4 (r2.Goal.1.map termC), .lit (.bool (rawQ r2.Goal.2).s), natA (rawQ r2.Goal.2).l1, natA (rawQ r2.Goal.2).l2, .sl 5 (out_4.map decisionC), .sl 6 []], .lit (.int .i64 2), .lit (.int .i64 r33)] = some (.lit (.bool r35))) (C11 : r35 = false) (M12 : out_4.length + 1 ≤ 100000000) (W13 : InI (i_4 - 1)) :
    Cont 0 (exec Tryz.prog (tab (n + 6)) 0 71 (livesOf 15) big pa_C4) (livesOf 15 4) (pa_h4 i_4 r i2_4 r2 out_4 fz_4) (pa_h4 (i_4 - 1) r z26 r2 (out_4 ++ [(⟨(1 + r28), r33, 0⟩ : TDecision)]) out_4.length) := by
  have W3_ : IntKind.i64.wrap (1 + r28) = 1 + r28 := wr64 W3.1 W3.2
  have C4_ : (1 + r28 == 3) = false := by simpa using C4
  have C4_n : (1 + r28 != 3) = true := by simpa using C4
  have C5_ : (1 + r28 == 4) = false := by simpa using C5
  have C5_n : (1 + r28 != 4) = true := by simpa using C5
  have C6_ : ((r2.Graph.Units.length : Int) == 0) = false := by simpa using C6
  have C6_n : ((r2.Graph.Units.length : Int) != 0) = true := by simpa using C6
  have M12_ : ∀ b, b ≤ 10000 → roomy (out_4.length + 1) b = true := fun b hb => roomy_s M12 hb
  have W13_ : IntKind.i64.wrap (i_4 - 1) = i_4 - 1 := wr64 W13.1 W13.2
  unfold Cont
  simp +decide [pa_h4, loopsOf, Tryz.f15, pa_C4, C1, K2, W3_, C4_, C4_n, C5_, C5_n, C6_, C6_n, K7, K8, C9, K10, C11, M12_, W13_]
theorem pa_x4_1 {n : Nat} {i_4 : Int} {r : TFeed} {i2_4 : Int} {r2 : TQuery} {out_4 : List TDecision} {fz_4 : Nat} (C1 : ¬ 0 < i_4) :
    Leave 0 (exec Tryz.prog (tab (n + 6)) 0 71 (livesOf 15) big pa_C4) (livesOf 15 (outOf 4)) (pa_h4 i_4 r i2_4 r2 out_4 fz_4) (.exit 0) (pa_o4a r2 out_4 fz_4) := by
  unfold Leave
  simp +decide [pa_h4, loopsOf, Tryz.f15, pa_o4a, pa_C4, C1]
theorem pa_f1 {n : Nat} {a0 : List Int} {r : TFeed} {r2 : TQuery} {z : Int} {r3 : Int} {z2 : Int} {out_4 : List TDecision} {fz_4 : Nat} (K1 : runL (n + 5) 59 [.sl 1 (a0.map intU8C)] [] = some (.ptr 2 0, [(2, .box 192 [.sl 1 (r.Raw.map intU8C), .lit (.int .i64 (r.At))] false)])) (K2 : runL (n + 5) 60 [.ptr 0 0] [.box 192 [.sl 1 (r.Raw.map intU8C), .lit (.int .i64 (r.At))] false] = some (queryV r2, [(0, .box 192 [.sl 1 (r.Raw.map intU8C), .lit (.int .i64 z)] false)])) (K3 : runL (n + 5) 61 [.ptr 0 0, .lit (.int .i64 4)] [.box 192 [.sl 1 (r.Raw.map intU8C), .lit (.int .i64 z)] false] = some (.lit (.int .i64 r3), [(0, .box 192 [.sl 1 (r.Raw.map intU8C), .lit (.int .i64 z2)] false)])) (L4 : loopG Tryz.prog (tab (n + 6)) 0 71 (livesOf 15) 4 pa_C4 (pa_h4 r3 r z2 r2 [] 0) = some (.exit 0, pa_o4a r2 out_4 fz_4)) :
    run (n + 6) 15 [.sl 1 (a0.map intU8C)] = some (.agg [.lit (.int .i64 (r2.Graph.Inputs)), .sl 4 (r2.Graph.Units.map formC), .sl 4 (r2.Graph.Outputs.map formC), .sl 3 (r2.Region.Lo.map ratC), .sl 3 (r2.Region.Hi.map ratC), .sl 4 (r2.Region.Rows.map formC), .sl 4 (r2.Goal.1.map termC), .lit (.bool (rawQ r2.Goal.2).s), natA (rawQ r2.Goal.2).l1, natA (rawQ r2.Goal.2).l2, .sl 5 (out_4.map decisionC), .sl 6 []]) := by
  simp only [queryV] at K2
  unfold run fnP
  simp +decide [Tryz.f15, K1, K2, K3]
  rw [loopX_G (C' := pa_C4) (e := (pa_h4 r3 r z2 r2 [] 0)) ?_ ?_, L4]
  rotate_left
  · kernel_rfl
  · simp +decide [pa_h4, K1, K2, K3]
  simp +decide [pa_o4a, K1, K2, K3]
/-! relucertlaw34.large, level 0 -/
noncomputable def lg_C4 : Code := (loopsOf (bodyOf Tryz.f14)).getD 0 .skip
def lg_h4 (a0 : List TDecisionR) (i_4 : Nat) : St :=
  ⟨[(8, .sl 5 (a0.map decisionRC)), (9, .lit (.int .i64 (a0.length : Int))), (10, .lit (.int .i64 (i_4 : Int)))],
   [], 0⟩
def lg_o4a  : St :=
  ⟨[(2, .lit (.bool true))],
   [], 0⟩
def lg_o4b  : St :=
  ⟨[(2, .any)],
   [], 0⟩
theorem lg_r4_1 {n : Nat} {a0 : List TDecisionR} {i_4 : Nat} {x3 : TDecisionR} (C1 : (i_4 : Int) < (a0.length : Int)) (E2 : a0[i_4]? = some x3) (C3 : ¬ 8 < (x3.At.l1.length : Int)) (C4 : ¬ 8 < (x3.At.l2.length : Int)) (W5 : InI ((i_4 : Int) + 1)) :
    Cont 0 (exec Tryz.prog (tab n) 0 27 (livesOf 14) big lg_C4) (livesOf 14 4) (lg_h4 a0 i_4) (lg_h4 a0 (i_4 + 1)) := by
  have C1_ : i_4 < a0.length := by omega
  obtain ⟨EL2, EG2⟩ := List.getElem?_eq_some_iff.1 E2
  have C3_ : ¬ 8 < x3.At.l1.length := by omega
  have C4_ : ¬ 8 < x3.At.l2.length := by omega
  have W5_ : IntKind.i64.wrap ((i_4 : Int) + 1) = (i_4 : Int) + 1 := wr64 W5.1 W5.2
  unfold Cont
  simp +decide [lg_h4, loopsOf, Tryz.f14, lg_C4, C1, C1_, EL2, EG2, E2, C3, C3_, C4, C4_, W5_]
theorem lg_x4_1 {n : Nat} {a0 : List TDecisionR} {i_4 : Nat} {x3 : TDecisionR} (C1 : (i_4 : Int) < (a0.length : Int)) (E2 : a0[i_4]? = some x3) (C3 : 8 < (x3.At.l1.length : Int)) :
    Leave 0 (exec Tryz.prog (tab n) 0 27 (livesOf 14) big lg_C4) (livesOf 14 (outOf 4)) (lg_h4 a0 i_4) (.ret) (lg_o4a ) := by
  have C1_ : i_4 < a0.length := by omega
  obtain ⟨EL2, EG2⟩ := List.getElem?_eq_some_iff.1 E2
  have C3_ : 8 < x3.At.l1.length := by omega
  unfold Leave
  simp +decide [lg_h4, loopsOf, Tryz.f14, lg_o4a, lg_C4, C1, C1_, EL2, EG2, E2, C3, C3_]
theorem lg_x4_2 {n : Nat} {a0 : List TDecisionR} {i_4 : Nat} {x3 : TDecisionR} (C1 : (i_4 : Int) < (a0.length : Int)) (E2 : a0[i_4]? = some x3) (C3 : ¬ 8 < (x3.At.l1.length : Int)) (C4 : 8 < (x3.At.l2.length : Int)) :
    Leave 0 (exec Tryz.prog (tab n) 0 27 (livesOf 14) big lg_C4) (livesOf 14 (outOf 4)) (lg_h4 a0 i_4) (.ret) (lg_o4a ) := by
  have C1_ : i_4 < a0.length := by omega
  obtain ⟨EL2, EG2⟩ := List.getElem?_eq_some_iff.1 E2
  have C3_ : ¬ 8 < x3.At.l1.length := by omega
  have C4_ : 8 < x3.At.l2.length := by omega
  unfold Leave
  simp +decide [lg_h4, loopsOf, Tryz.f14, lg_o4a, lg_C4, C1, C1_, EL2, EG2, E2, C3, C3_, C4, C4_]
theorem lg_x4_3 {n : Nat} {a0 : List TDecisionR} {i_4 : Nat} (C1 : ¬ (i_4 : Int) < (a0.length : Int)) :
    Leave 0 (exec Tryz.prog (tab n) 0 27 (livesOf 14) big lg_C4) (livesOf 14 (outOf 4)) (lg_h4 a0 i_4) (.exit 0) (lg_o4b ) := by
  have C1_ : ¬ i_4 < a0.length := by omega
  unfold Leave
  simp +decide [lg_h4, loopsOf, Tryz.f14, lg_o4b, lg_C4, C1, C1_]
theorem lg_f2 {n : Nat} {a0 : List TDecisionR} (C1 : ¬ 40 < (a0.length : Int)) (L2 : loopG Tryz.prog (tab n) 0 27 (livesOf 14) 4 lg_C4 (lg_h4 a0 0) = some (.ret, lg_o4a )) :
    run n 14 [.sl 5 (a0.map decisionRC)] = some (.lit (.bool true)) := by
  have C1_ : ¬ 40 < a0.length := by omega
  unfold run fnP
  simp +decide [Tryz.f14, C1, C1_]
  rw [loopX_G (C' := lg_C4) (e := (lg_h4 a0 0)) ?_ ?_, L2]
  rotate_left
  · kernel_rfl
  · simp +decide [lg_h4, C1, C1_]
  simp +decide [lg_o4a, C1, C1_]
theorem lg_f3 {n : Nat} {a0 : List TDecisionR} (C1 : ¬ 40 < (a0.length : Int)) (L2 : loopG Tryz.prog (tab n) 0 27 (livesOf 14) 4 lg_C4 (lg_h4 a0 0) = some (.exit 0, lg_o4b )) :
    run n 14 [.sl 5 (a0.map decisionRC)] = some (.lit (.bool false)) := by
  have C1_ : ¬ 40 < a0.length := by omega
  unfold run fnP
  simp +decide [Tryz.f14, C1, C1_]
  rw [loopX_G (C' := lg_C4) (e := (lg_h4 a0 0)) ?_ ?_, L2]
  rotate_left
  · kernel_rfl
  · simp +decide [lg_h4, C1, C1_]
  simp +decide [lg_o4b, C1, C1_]
end Go.Proofs.YtkakmdadnhjphaaGreatDoor
