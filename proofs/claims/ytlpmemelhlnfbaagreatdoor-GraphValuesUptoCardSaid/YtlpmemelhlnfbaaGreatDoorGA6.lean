/- Graphs with numbers that need not be canonical. Walks: relucertref15.Feed.Next, relucertref15.Feed.Number, relucertref07.Var, relucertref03.Max, relucertref07.Eval. Walks: relucertref07.plus. Walks: relucertref07.Add, relucertref07.Scale. Walks: relucertref15.Feed.Form, relucertref15.Feed.Graph. -/
import Derived.Test.YtlpmemelhlnfbaaGreatDoorGA5
set_option linter.all false
set_option linter.all false
namespace Go.Proofs.YtlpmemelhlnfbaaGreatDoor
open Go.RowKit
structure TGraphR where
  Inputs : Int
  Units : List FormR
  Outputs : List FormR
@[simp] def graphRC (g : TGraphR) : List AV := [.lit (.int .i64 (g.Inputs)), .sl 4 (g.Units.map formRC), .sl 4 (g.Outputs.map formRC)]
@[simp] def graphRV (g : TGraphR) : AV := .agg [.lit (.int .i64 (g.Inputs)), .sl 4 (g.Units.map formRC), .sl 4 (g.Outputs.map formRC)]
@[simp] theorem okE_graphRC (l : List TGraphR) : okEls 3 (l.map graphRC) = true := okEls_map (fun x => by simp) l
end Go.Proofs.YtlpmemelhlnfbaaGreatDoor
set_option linter.all false
set_option maxRecDepth 100000
set_option maxHeartbeats 6400000
namespace Go.Proofs.YtlpmemelhlnfbaaGreatDoor
open Go.RowKit

/-! (*relucertref15.Feed).Next, level 0 -/
/-! (*relucertref15.Feed).Number, level 1 -/
/-! relucertref07.Var, level 0 -/
/-! relucertref03.Max, level 0 -/
theorem mx_f1 {n : Nat} {a0 : Rat} {a1 : Rat} (B1a : H a0 ≤ 17179869184) (B1b : H a1 ≤ 17179869184) (C2 : 0 ≤ sgR (a0 - a1)) :
    run n 100 [ratV a0, ratV a1] = some (ratV a0) := by
  have K1 := r_cmp (p := a0) (q := a1) B1a B1b
  have K3 := r_canon (p := a0) B1a
  unfold run fnP
  simp +decide [Tryz.f100, K1, C2, K3]
theorem mx_f2 {n : Nat} {a0 : Rat} {a1 : Rat} (B1a : H a0 ≤ 17179869184) (B1b : H a1 ≤ 17179869184) (C2 : ¬ 0 ≤ sgR (a0 - a1)) :
    run n 100 [ratV a0, ratV a1] = some (ratV a1) := by
  have K1 := r_cmp (p := a0) (q := a1) B1a B1b
  have K3 := r_canon (p := a1) B1b
  unfold run fnP
  simp +decide [Tryz.f100, K1, C2, K3]
/-! relucertref07.Eval, level 0 -/
noncomputable def ev_C3 : Code := (loopsOf (bodyOf Tryz.f99)).getD 0 .skip
def ev_h3 (a0 : Form) (a1 : List Rat) (i_3 : Nat) (s_3 : Rat) : St :=
  ⟨[(1, .sl 3 (a1.map ratC)), (2, .ptr 0 0), (4, .ptr 1 0), (6, .ptr 2 0), (7, .lit (.int .i64 (i_3 : Int)))],
   [(0, some (.box 29 [.sl 4 (a0.1.map termC), .lit (.bool (rawQ a0.2).s), natA (rawQ a0.2).l1, natA (rawQ a0.2).l2] false)),
    (1, some (.box 27 [.lit (.bool false), .nl 1, .nl 1] false)),
    (2, some (.box 27 [.lit (.bool (rawQ s_3).s), natA (rawQ s_3).l1, natA (rawQ s_3).l2] false))], 3⟩
def ev_o3a (s_3 : Rat) : St :=
  ⟨[(4, .ptr 0 0), (5, .lit (.int .i64 2)), (6, .ptr 1 0)],
   [(0, some (.box 27 [.lit (.bool false), .nl 1, .nl 1] false)),
    (1, some (.box 27 [.lit (.bool (rawQ s_3).s), natA (rawQ s_3).l1, natA (rawQ s_3).l2] false))], 2⟩
def ev_o3b (s_3 : Rat) : St :=
  ⟨[(4, .ptr 0 0), (5, .any), (6, .ptr 1 0)],
   [(0, some (.box 27 [.lit (.bool false), .nl 1, .nl 1] false)),
    (1, some (.box 27 [.lit (.bool (rawQ s_3).s), natA (rawQ s_3).l1, natA (rawQ s_3).l2] false))], 2⟩
theorem ev_r3_1 {n : Nat} {a0 : Form} {a1 : List Rat} {i_3 : Nat} {v3 : Int} {q3 : Rat} {x3 : Rat} {s_3 : Rat} (C1 : (i_3 : Int) < (a0.1.length : Int)) (E2 : a0.1[i_3]? = some (v3, q3)) (C3 : ¬ v3 < 0) (C4 : ¬ (a1.length : Int) ≤ v3) (E5 : a1[v3.toNat]? = some x3) (Z5 : 0 ≤ v3) (B6a : H q3 ≤ 17179869184) (B6b : H x3 ≤ 17179869184) (B7a : H s_3 ≤ 17179869184) (B7b : H (q3 * x3) ≤ 17179869184) (W8 : InI ((i_3 : Int) + 1)) :
    Cont 0 (exec Tryz.prog (tab n) 0 45 (livesOf 99) big ev_C3) (livesOf 99 3) (ev_h3 a0 a1 i_3 s_3) (ev_h3 a0 a1 (i_3 + 1) (s_3 + (q3 * x3))) := by
  have C1_ : i_3 < a0.1.length := by omega
  obtain ⟨EL2, EG2⟩ := List.getElem?_eq_some_iff.1 E2
  obtain ⟨EL5, EG5⟩ := List.getElem?_eq_some_iff.1 E5
  have K6 := r_mul (p := q3) (q := x3) B6a B6b
  have K7 := r_add (p := s_3) (q := q3 * x3) B7a B7b
  have W8_ : IntKind.i64.wrap ((i_3 : Int) + 1) = (i_3 : Int) + 1 := wr64 W8.1 W8.2
  unfold Cont
  simp +decide [ev_h3, loopsOf, Tryz.f99, ev_C3, C1, C1_, EL2, EG2, E2, C3, C4, EL5, EG5, E5, Z5, K6, K7, W8_]
theorem ev_x3_1 {n : Nat} {a0 : Form} {a1 : List Rat} {i_3 : Nat} {v3 : Int} {q3 : Rat} {s_3 : Rat} (C1 : (i_3 : Int) < (a0.1.length : Int)) (E2 : a0.1[i_3]? = some (v3, q3)) (C3 : v3 < 0) :
    Leave 0 (exec Tryz.prog (tab n) 0 45 (livesOf 99) big ev_C3) (livesOf 99 (outOf 3)) (ev_h3 a0 a1 i_3 s_3) (.ret) (ev_o3a s_3) := by
  have C1_ : i_3 < a0.1.length := by omega
  obtain ⟨EL2, EG2⟩ := List.getElem?_eq_some_iff.1 E2
  unfold Leave
  simp +decide [ev_h3, loopsOf, Tryz.f99, ev_o3a, ev_C3, C1, C1_, EL2, EG2, E2, C3]
theorem ev_x3_2 {n : Nat} {a0 : Form} {a1 : List Rat} {i_3 : Nat} {v3 : Int} {q3 : Rat} {s_3 : Rat} (C1 : (i_3 : Int) < (a0.1.length : Int)) (E2 : a0.1[i_3]? = some (v3, q3)) (C3 : ¬ v3 < 0) (C4 : (a1.length : Int) ≤ v3) :
    Leave 0 (exec Tryz.prog (tab n) 0 45 (livesOf 99) big ev_C3) (livesOf 99 (outOf 3)) (ev_h3 a0 a1 i_3 s_3) (.ret) (ev_o3a s_3) := by
  have C1_ : i_3 < a0.1.length := by omega
  obtain ⟨EL2, EG2⟩ := List.getElem?_eq_some_iff.1 E2
  unfold Leave
  simp +decide [ev_h3, loopsOf, Tryz.f99, ev_o3a, ev_C3, C1, C1_, EL2, EG2, E2, C3, C4]
theorem ev_x3_3 {n : Nat} {a0 : Form} {a1 : List Rat} {i_3 : Nat} {s_3 : Rat} (C1 : ¬ (i_3 : Int) < (a0.1.length : Int)) :
    Leave 0 (exec Tryz.prog (tab n) 0 45 (livesOf 99) big ev_C3) (livesOf 99 (outOf 3)) (ev_h3 a0 a1 i_3 s_3) (.exit 0) (ev_o3b s_3) := by
  have C1_ : ¬ i_3 < a0.1.length := by omega
  unfold Leave
  simp +decide [ev_h3, loopsOf, Tryz.f99, ev_o3b, ev_C3, C1, C1_]
theorem ev_f1 {n : Nat} {a0 : Form} {a1 : List Rat} {s_3 : Rat} (L1 : loopG Tryz.prog (tab n) 0 45 (livesOf 99) 3 ev_C3 (ev_h3 a0 a1 0 a0.2) = some (.ret, ev_o3a s_3)) :
    run n 99 [formV a0, .sl 3 (a1.map ratC)] = some (.tup [.agg [.lit (.bool false), .sl 1 [], .sl 1 []], .lit (.int .i64 2)]) := by
  unfold run fnP
  simp +decide [Tryz.f99]
  rw [loopX_G (C' := ev_C3) (e := (ev_h3 a0 a1 0 a0.2)) ?_ ?_, L1]
  rotate_left
  · kernel_rfl
  · simp +decide [ev_h3]
  simp +decide [ev_o3a]
theorem ev_f2 {n : Nat} {a0 : Form} {a1 : List Rat} {s_3 : Rat} (L1 : loopG Tryz.prog (tab n) 0 45 (livesOf 99) 3 ev_C3 (ev_h3 a0 a1 0 a0.2) = some (.exit 0, ev_o3b s_3)) :
    run n 99 [formV a0, .sl 3 (a1.map ratC)] = some (.tup [ratV s_3, .lit (.int .i64 0)]) := by
  unfold run fnP
  simp +decide [Tryz.f99]
  rw [loopX_G (C' := ev_C3) (e := (ev_h3 a0 a1 0 a0.2)) ?_ ?_, L1]
  rotate_left
  · kernel_rfl
  · simp +decide [ev_h3]
  simp +decide [ev_o3b]
end Go.Proofs.YtlpmemelhlnfbaaGreatDoor
set_option linter.all false
set_option maxRecDepth 100000
set_option maxHeartbeats 6400000
namespace Go.Proofs.YtlpmemelhlnfbaaGreatDoor
open Go.RowKit

/-! relucertref07.plus, level 1 -/
end Go.Proofs.YtlpmemelhlnfbaaGreatDoor
set_option linter.all false
set_option maxRecDepth 100000
set_option maxHeartbeats 6400000
namespace Go.Proofs.YtlpmemelhlnfbaaGreatDoor
open Go.RowKit

/-! relucertref07.Add, level 2 -/
/-! relucertref07.Scale, level 1 -/
end Go.Proofs.YtlpmemelhlnfbaaGreatDoor
set_option linter.all false
set_option maxRecDepth 100000
set_option maxHeartbeats 6400000
namespace Go.Proofs.YtlpmemelhlnfbaaGreatDoor
open Go.RowKit

/-! (*relucertref15.Feed).Form, level 3 -/
/-! (*relucertref15.Feed).Graph, level 4 -/
end Go.Proofs.YtlpmemelhlnfbaaGreatDoor
