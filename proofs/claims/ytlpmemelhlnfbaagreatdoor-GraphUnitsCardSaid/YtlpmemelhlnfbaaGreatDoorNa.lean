/- Walks: rational.Max, graph.run, graph.Values, graph.Pre, graph.Outputs. -/
import Derived.Test.YtlpmemelhlnfbaaGreatDoorUe
set_option linter.all false
set_option linter.all false
set_option maxRecDepth 100000
set_option maxHeartbeats 6400000
namespace Go.Proofs.YtlpmemelhlnfbaaGreatDoor
open Go.RowKit

/-! rational.Max, level 0 -/
theorem pmx_f1 {n : Nat} {a0 : Rat} {a1 : Rat} (B1a : H a0 ≤ 17179869184) (B1b : H a1 ≤ 17179869184) (C2 : 0 ≤ sgR (a0 - a1)) :
    run n 165 [ratV a0, ratV a1] = some (ratV a0) := by
  have K1 := r_cmp (p := a0) (q := a1) B1a B1b
  have K3 := r_canon (p := a0) B1a
  unfold run fnP
  simp +decide [Tryz.f165, K1, C2, K3]
theorem pmx_f2 {n : Nat} {a0 : Rat} {a1 : Rat} (B1a : H a0 ≤ 17179869184) (B1b : H a1 ≤ 17179869184) (C2 : ¬ 0 ≤ sgR (a0 - a1)) :
    run n 165 [ratV a0, ratV a1] = some (ratV a1) := by
  have K1 := r_cmp (p := a0) (q := a1) B1a B1b
  have K3 := r_canon (p := a1) B1b
  unfold run fnP
  simp +decide [Tryz.f165, K1, C2, K3]
/-! graph.run, level 6 -/
noncomputable def grn_C4 : Code := (loopsOf (bodyOf Tryz.f96)).getD 0 .skip
noncomputable def grn_C9 : Code := (loopsOf (bodyOf Tryz.f96)).getD 1 .skip
def grn_h4 (a0 : TGraph) (a1 : List Rat) (out_4 : List Rat) (i_4 : Nat) : St :=
  ⟨[(2, .ptr 0 0), (4, .own 1 out_4.length), (5, .own 2 0), (23, .sl 3 (a1.map ratC)), (24, .lit (.int .i64 (a1.length : Int))), (25, .lit (.int .i64 (i_4 : Int)))],
   [(0, some (.box 38 [.lit (.int .i64 (a0.Inputs)), .sl 4 (a0.Units.map formC), .sl 4 (a0.Outputs.map formC)] false)),
    (1, some (.row 27 3 (out_4.map ratC) 0)),
    (2, some (.row 27 3 [] 0))], 3⟩
def grn_h9 (a0 : TGraph) (out_9 : List Rat) (out2_9 : List Rat) (i_9 : Nat) (fz_9 : Nat) : St :=
  ⟨[(4, .own 0 out_9.length), (5, .own 1 out2_9.length), (36, .sl 4 (a0.Units.map formC)), (37, .lit (.int .i64 (a0.Units.length : Int))), (38, .lit (.int .i64 (i_9 : Int)))],
   [(0, some (.row 27 3 (out_9.map ratC) fz_9)),
    (1, some (.row 27 3 (out2_9.map ratC) 0))], 2⟩
def grn_o4a (a0 : TGraph) (out_4 : List Rat) : St :=
  ⟨[(2, .ptr 0 0), (4, .own 1 out_4.length), (5, .own 2 0)],
   [(0, some (.box 38 [.lit (.int .i64 (a0.Inputs)), .sl 4 (a0.Units.map formC), .sl 4 (a0.Outputs.map formC)] false)),
    (1, some (.row 27 3 (out_4.map ratC) 0)),
    (2, some (.row 27 3 [] 0))], 3⟩
def grn_o9a (out_9 : List Rat) (out2_9 : List Rat) (fz_9 : Nat) : St :=
  ⟨[(4, .own 0 out_9.length), (5, .own 1 out2_9.length)],
   [(0, some (.row 27 3 (out_9.map ratC) fz_9)),
    (1, some (.row 27 3 (out2_9.map ratC) 0))], 2⟩
theorem grn_r4_1 {n : Nat} {a0 : TGraph} {a1 : List Rat} {i_4 : Nat} {x3 : Rat} {out_4 : List Rat} (C1 : (i_4 : Int) < (a1.length : Int)) (E2 : a1[i_4]? = some x3) (B3a : H x3 ≤ 17179869184) (M4 : out_4.length + 1 ≤ 100000000) (W5 : InI ((i_4 : Int) + 1)) :
    Cont 0 (exec Tryz.prog (tab (n + 6)) 0 61 (livesOf 96) big grn_C4) (livesOf 96 4) (grn_h4 a0 a1 out_4 i_4) (grn_h4 a0 a1 (out_4 ++ [x3]) (i_4 + 1)) := by
  have C1_ : i_4 < a1.length := by omega
  obtain ⟨EL2, EG2⟩ := List.getElem?_eq_some_iff.1 E2
  have K3 := r_canon (p := x3) B3a
  have M4_ : ∀ b, b ≤ 10000 → roomy (out_4.length + 1) b = true := fun b hb => roomy_s M4 hb
  have W5_ : IntKind.i64.wrap ((i_4 : Int) + 1) = (i_4 : Int) + 1 := wr64 W5.1 W5.2
  unfold Cont
  simp +decide [grn_h4, loopsOf, Tryz.f96, grn_C4, C1, C1_, EL2, EG2, E2, K3, M4_, W5_]
theorem grn_x4_1 {n : Nat} {a0 : TGraph} {a1 : List Rat} {i_4 : Nat} {out_4 : List Rat} (C1 : ¬ (i_4 : Int) < (a1.length : Int)) :
    Leave 0 (exec Tryz.prog (tab (n + 6)) 0 61 (livesOf 96) big grn_C4) (livesOf 96 (outOf 4)) (grn_h4 a0 a1 out_4 i_4) (.exit 0) (grn_o4a a0 out_4) := by
  have C1_ : ¬ i_4 < a1.length := by omega
  unfold Leave
  simp +decide [grn_h4, loopsOf, Tryz.f96, grn_o4a, grn_C4, C1, C1_]
theorem grn_r9_1 {n : Nat} {a0 : TGraph} {i_9 : Nat} {F3 : List (Int × Rat)} {q3 : Rat} {out_9 : List Rat} {r8 : Rat} {r9 : Int} {out2_9 : List Rat} {r10 : Rat} {fz_9 : Nat} (C1 : (i_9 : Int) < (a0.Units.length : Int)) (E2 : a0.Units[i_9]? = some (F3, q3)) (K3 : run (n + 5) 97 [formV (F3, q3), .sl 3 (out_9.map ratC)] = some (.tup [ratV r8, .lit (.int .i64 r9)])) (M4 : out2_9.length + 1 ≤ 100000000) (K5 : run (n + 5) 165 [.agg [.lit (.bool false), .sl 1 [], .sl 1 []], ratV r8] = some (ratV r10)) (M6 : out_9.length + 1 ≤ 100000000) (W7 : InI ((i_9 : Int) + 1)) :
    Cont 0 (exec Tryz.prog (tab (n + 6)) 0 61 (livesOf 96) big grn_C9) (livesOf 96 9) (grn_h9 a0 out_9 out2_9 i_9 fz_9) (grn_h9 a0 (out_9 ++ [r10]) (out2_9 ++ [r8]) (i_9 + 1) out_9.length) := by
  have C1_ : i_9 < a0.Units.length := by omega
  obtain ⟨EL2, EG2⟩ := List.getElem?_eq_some_iff.1 E2
  simp only [ratV, formV] at K3
  have M4_ : ∀ b, b ≤ 10000 → roomy (out2_9.length + 1) b = true := fun b hb => roomy_s M4 hb
  simp only [ratV] at K5
  have M6_ : ∀ b, b ≤ 10000 → roomy (out_9.length + 1) b = true := fun b hb => roomy_s M6 hb
  have W7_ : IntKind.i64.wrap ((i_9 : Int) + 1) = (i_9 : Int) + 1 := wr64 W7.1 W7.2
  unfold Cont
  simp +decide [grn_h9, loopsOf, Tryz.f96, grn_C9, C1, C1_, EL2, EG2, E2, K3, M4_, K5, M6_, W7_]
theorem grn_x9_1 {n : Nat} {a0 : TGraph} {i_9 : Nat} {out_9 : List Rat} {out2_9 : List Rat} {fz_9 : Nat} (C1 : ¬ (i_9 : Int) < (a0.Units.length : Int)) :
    Leave 0 (exec Tryz.prog (tab (n + 6)) 0 61 (livesOf 96) big grn_C9) (livesOf 96 (outOf 9)) (grn_h9 a0 out_9 out2_9 i_9 fz_9) (.exit 2) (grn_o9a out_9 out2_9 fz_9) := by
  have C1_ : ¬ i_9 < a0.Units.length := by omega
  unfold Leave
  simp +decide [grn_h9, loopsOf, Tryz.f96, grn_o9a, grn_C9, C1, C1_]
theorem grn_f3 {n : Nat} {a0 : TGraph} {a1 : List Rat} {r : Bool} {out_4 : List Rat} {out_9 : List Rat} {out2_9 : List Rat} {fz_9 : Nat} (K1 : run (n + 5) 41 [graphV a0] = some (.lit (.bool r))) (C2 : r = true) (C3 : (a1.length : Int) = a0.Inputs) (L4 : loopG Tryz.prog (tab (n + 6)) 0 61 (livesOf 96) 4 grn_C4 (grn_h4 a0 a1 [] 0) = some (.exit 0, grn_o4a a0 out_4)) (L5 : loopG Tryz.prog (tab (n + 6)) 0 61 (livesOf 96) 9 grn_C9 (grn_h9 a0 out_4 [] 0 0) = some (.exit 2, grn_o9a out_9 out2_9 fz_9)) :
    run (n + 6) 96 [graphV a0, .sl 3 (a1.map ratC)] = some (.tup [.sl 3 (out_9.map ratC), .sl 3 (out2_9.map ratC), .lit (.int .i64 0)]) := by
  simp only [graphV] at K1
  have C3_ : ((a1.length : Int) == a0.Inputs) = true := by rw [C3]; simp
  have C3_n : ((a1.length : Int) != a0.Inputs) = false := by rw [C3]; simp
  unfold run fnP
  simp +decide [Tryz.f96, K1, C2, C3_, C3_n]
  rw [loopX_G (C' := grn_C4) (e := (grn_h4 a0 a1 [] 0)) ?_ ?_, L4]
  rotate_left
  · kernel_rfl
  · simp +decide [grn_h4, K1, C2, C3_, C3_n]
  simp +decide [grn_o4a, K1, C2, C3_, C3_n]
  rw [loopX_G (C' := grn_C9) (e := (grn_h9 a0 out_4 [] 0 0)) ?_ ?_, L5]
  rotate_left
  · kernel_rfl
  · simp +decide [grn_h9, K1, C2, C3_, C3_n]
  simp +decide [grn_o9a, K1, C2, C3_, C3_n]
/-! graph.Values, level 7 -/
theorem gVa_f1 {n : Nat} {a0 : TGraph} {a1 : List Rat} {r : List Rat} {r2 : List Rat} {r3 : Int} (K1 : run (n + 6) 96 [graphV a0, .sl 3 (a1.map ratC)] = some (.tup [.sl 3 (r.map ratC), .sl 3 (r2.map ratC), .lit (.int .i64 r3)])) :
    run (n + 7) 32 [graphV a0, .sl 3 (a1.map ratC)] = some (.tup [.sl 3 (r.map ratC), .lit (.int .i64 r3)]) := by
  simp only [graphV] at K1
  unfold run fnP
  simp +decide [Tryz.f32, K1]
/-! graph.Pre, level 7 -/
theorem gPr_f1 {n : Nat} {a0 : TGraph} {a1 : List Rat} {r : List Rat} {r2 : List Rat} {r3 : Int} (K1 : run (n + 6) 96 [graphV a0, .sl 3 (a1.map ratC)] = some (.tup [.sl 3 (r.map ratC), .sl 3 (r2.map ratC), .lit (.int .i64 r3)])) :
    run (n + 7) 33 [graphV a0, .sl 3 (a1.map ratC)] = some (.tup [.sl 3 (r2.map ratC), .lit (.int .i64 r3)]) := by
  simp only [graphV] at K1
  unfold run fnP
  simp +decide [Tryz.f33, K1]
/-! graph.Outputs, level 7 -/
end Go.Proofs.YtlpmemelhlnfbaaGreatDoor
