/- A term stored into a row of terms. Walks: relucertref15.renamed. Walks: relucertref15.Permute. Walks: graph.Permute$1, graph.rename~1:graph.Permute$1. Walks: graph.Permute$2, graph.each~1:graph.Permute$2. Walks: graph.Permute. The examples of the document of layer 15, run. relucertlaw15.awake as a row of the table. -/
import Derived.Test.YtlpmemelhlnfbaaGreatDoorGA5
set_option linter.all false
set_option linter.all false
namespace Go.Proofs.YtlpmemelhlnfbaaGreatDoor
open Go.RowKit
theorem set_termC (l : List (Int × Rat)) (i : Nat) (v : Int) (q : Rat) : (l.map termC).set i [.lit (.int .i64 v), .lit (.bool (rawQ q).s), natA (rawQ q).l1, natA (rawQ q).l2] = (l.set i (v, q)).map termC := by
  rw [List.map_set]
  simp
end Go.Proofs.YtlpmemelhlnfbaaGreatDoor
set_option linter.all false
set_option maxRecDepth 100000
set_option maxHeartbeats 6400000
namespace Go.Proofs.YtlpmemelhlnfbaaGreatDoor
open Go.RowKit

noncomputable def rnd_C3 : Code := (loopsOf (bodyOf Tryz.f110)).getD 0 .skip
def rnd_h3 (a0 : Form) (a1 : List Int) (out_3 : List (Int × Rat)) (i_3 : Nat) : St :=
  ⟨[(1, .sl 1 (a1.map intI64C)), (2, .ptr 0 0), (4, .ptr 1 0), (5, .own 2 out_3.length), (6, .lit (.int .i64 (i_3 : Int)))],
   [(0, some (.box 29 [.sl 4 (a0.1.map termC), .lit (.bool (rawQ a0.2).s), natA (rawQ a0.2).l1, natA (rawQ a0.2).l2] false)),
    (1, some (.box 29 [.nl 4, .lit (.bool false), .nl 1, .nl 1] false)),
    (2, some (.row 84 4 (out_3.map termC) 0))], 3⟩
def rnd_o3a (a0 : Form) (out_3 : List (Int × Rat)) : St :=
  ⟨[(2, .ptr 0 0), (4, .ptr 1 0), (5, .own 2 out_3.length)],
   [(0, some (.box 29 [.sl 4 (a0.1.map termC), .lit (.bool (rawQ a0.2).s), natA (rawQ a0.2).l1, natA (rawQ a0.2).l2] false)),
    (1, some (.box 29 [.nl 4, .lit (.bool false), .nl 1, .nl 1] false)),
    (2, some (.row 84 4 (out_3.map termC) 0))], 3⟩
theorem rnd_r3_1 {n : Nat} {a0 : Form} {a1 : List Int} {i_3 : Nat} {v3 : Int} {q3 : Rat} {x3 : Int} {out_3 : List (Int × Rat)} (C1 : (i_3 : Int) < (a0.1.length : Int)) (E2 : a0.1[i_3]? = some (v3, q3)) (E3 : a1[v3.toNat]? = some x3) (Z3 : 0 ≤ v3) (M4 : out_3.length + 1 ≤ 100000000) (W5 : InI ((i_3 : Int) + 1)) :
    Cont 0 (exec Tryz.prog (tab (n + 3)) 0 43 (livesOf 110) big rnd_C3) (livesOf 110 3) (rnd_h3 a0 a1 out_3 i_3) (rnd_h3 a0 a1 (out_3 ++ [(x3, q3)]) (i_3 + 1)) := by
  have C1_ : i_3 < a0.1.length := by omega
  obtain ⟨EL2, EG2⟩ := List.getElem?_eq_some_iff.1 E2
  obtain ⟨EL3, EG3⟩ := List.getElem?_eq_some_iff.1 E3
  have M4_ : ∀ b, b ≤ 10000 → roomy (out_3.length + 1) b = true := fun b hb => roomy_s M4 hb
  have W5_ : IntKind.i64.wrap ((i_3 : Int) + 1) = (i_3 : Int) + 1 := wr64 W5.1 W5.2
  unfold Cont
  simp +decide [rnd_h3, loopsOf, Tryz.f110, rnd_C3, C1, C1_, EL2, EG2, E2, EL3, EG3, E3, Z3, M4_, W5_]
theorem rnd_x3_1 {n : Nat} {a0 : Form} {a1 : List Int} {i_3 : Nat} {out_3 : List (Int × Rat)} (C1 : ¬ (i_3 : Int) < (a0.1.length : Int)) :
    Leave 0 (exec Tryz.prog (tab (n + 3)) 0 43 (livesOf 110) big rnd_C3) (livesOf 110 (outOf 3)) (rnd_h3 a0 a1 out_3 i_3) (.exit 0) (rnd_o3a a0 out_3) := by
  have C1_ : ¬ i_3 < a0.1.length := by omega
  unfold Leave
  simp +decide [rnd_h3, loopsOf, Tryz.f110, rnd_o3a, rnd_C3, C1, C1_]
theorem rnd_f1 {n : Nat} {a0 : Form} {a1 : List Int} {out_3 : List (Int × Rat)} {r : Form} {r2 : Int} (L1 : loopG Tryz.prog (tab (n + 3)) 0 43 (livesOf 110) 3 rnd_C3 (rnd_h3 a0 a1 [] 0) = some (.exit 0, rnd_o3a a0 out_3)) (K2 : run (n + 2) 59 [.sl 4 (out_3.map termC), ratV a0.2] = some (.tup [formV r, .lit (.int .i64 r2)])) :
    run (n + 3) 110 [formV a0, .sl 1 (a1.map intI64C)] = some (formV r) := by
  simp only [ratV, formV] at K2
  unfold run fnP
  simp +decide [Tryz.f110, K2]
  rw [loopX_G (C' := rnd_C3) (e := (rnd_h3 a0 a1 [] 0)) ?_ ?_, L1]
  rotate_left
  · kernel_rfl
  · simp +decide [rnd_h3, K2]
  simp +decide [rnd_o3a, K2]
end Go.Proofs.YtlpmemelhlnfbaaGreatDoor
set_option linter.all false
set_option maxRecDepth 100000
set_option maxHeartbeats 6400000
namespace Go.Proofs.YtlpmemelhlnfbaaGreatDoor
open Go.RowKit

noncomputable def fPm_C5 : Code := (loopsOf (bodyOf Tryz.f46)).getD 0 .skip
noncomputable def fPm_C11 : Code := (loopsOf (bodyOf Tryz.f46)).getD 1 .skip
noncomputable def fPm_C18 : Code := (loopsOf (bodyOf Tryz.f46)).getD 2 .skip
noncomputable def fPm_C22 : Code := (loopsOf (bodyOf Tryz.f46)).getD 3 .skip
def fPm_h5 (a0 : TGraph) (a1 : List Int) (out_5 : List Int) (i_5 : Nat) : St :=
  ⟨[(1, .sl 1 (a1.map intI64C)), (2, .ptr 0 0), (4, .ptr 1 0), (6, .own 2 out_5.length), (7, .lit (.int .i64 (i_5 : Int)))],
   [(0, some (.box 38 [.lit (.int .i64 (a0.Inputs)), .sl 4 (a0.Units.map formC), .sl 4 (a0.Outputs.map formC)] false)),
    (1, some (.box 38 [.lit (.int .i64 0), .nl 4, .nl 4] false)),
    (2, some (.row 3 1 (out_5.map intI64C) 0))], 3⟩
def fPm_h11 (a0 : TGraph) (a1 : List Int) (out_11 : List Int) (i_11 : Nat) : St :=
  ⟨[(1, .sl 1 (a1.map intI64C)), (2, .ptr 0 0), (4, .ptr 1 0), (6, .own 2 out_11.length), (8, .lit (.int .i64 (i_11 : Int)))],
   [(0, some (.box 38 [.lit (.int .i64 (a0.Inputs)), .sl 4 (a0.Units.map formC), .sl 4 (a0.Outputs.map formC)] false)),
    (1, some (.box 38 [.lit (.int .i64 0), .nl 4, .nl 4] false)),
    (2, some (.row 3 1 (out_11.map intI64C) 0))], 3⟩
def fPm_h18 (a0 : TGraph) (a1 : List Int) (out_18 : List Int) (i_18 : Nat) (fz_18 : Nat) (out2_18 : List Form) : St :=
  ⟨[(1, .sl 1 (a1.map intI64C)), (2, .ptr 0 0), (4, .ptr 1 0), (6, .own 2 out_18.length), (9, .ptr 3 0), (10, .lit (.int .i64 (i_18 : Int)))],
   [(0, some (.box 38 [.lit (.int .i64 (a0.Inputs)), .sl 4 (a0.Units.map formC), .sl 4 (a0.Outputs.map formC)] false)),
    (1, some (.box 38 [.lit (.int .i64 0), .nl 4, .nl 4] false)),
    (2, some (.row 3 1 (out_18.map intI64C) fz_18)),
    (3, some (.box 38 [.lit (.int .i64 (a0.Inputs)), .own 4 out2_18.length, .nl 4] false)),
    (4, some (.row 29 4 (out2_18.map formC) 0))], 5⟩
def fPm_h22 (a0 : TGraph) (out_22 : List Int) (i_22 : Nat) (fz_22 : Nat) (out2_18 : List Form) (out2_22 : List Form) : St :=
  ⟨[(2, .ptr 0 0), (4, .ptr 1 0), (6, .own 2 out_22.length), (9, .ptr 3 0), (11, .lit (.int .i64 (i_22 : Int)))],
   [(0, some (.box 38 [.lit (.int .i64 (a0.Inputs)), .sl 4 (a0.Units.map formC), .sl 4 (a0.Outputs.map formC)] false)),
    (1, some (.box 38 [.lit (.int .i64 0), .nl 4, .nl 4] false)),
    (2, some (.row 3 1 (out_22.map intI64C) fz_22)),
    (3, some (.box 38 [.lit (.int .i64 (a0.Inputs)), .own 4 out2_18.length, .own 5 out2_22.length] false)),
    (4, some (.row 29 4 (out2_18.map formC) 0)),
    (5, some (.row 29 4 (out2_22.map formC) 0))], 6⟩
def fPm_o5a (a0 : TGraph) (a1 : List Int) (out_5 : List Int) : St :=
  ⟨[(1, .sl 1 (a1.map intI64C)), (2, .ptr 0 0), (4, .ptr 1 0), (6, .own 2 out_5.length)],
   [(0, some (.box 38 [.lit (.int .i64 (a0.Inputs)), .sl 4 (a0.Units.map formC), .sl 4 (a0.Outputs.map formC)] false)),
    (1, some (.box 38 [.lit (.int .i64 0), .nl 4, .nl 4] false)),
    (2, some (.row 3 1 (out_5.map intI64C) 0))], 3⟩
def fPm_o11a (a0 : TGraph) (a1 : List Int) (out_11 : List Int) : St :=
  ⟨[(1, .sl 1 (a1.map intI64C)), (2, .ptr 0 0), (4, .ptr 1 0), (5, .lit (.int .i64 1)), (6, .own 2 out_11.length)],
   [(0, some (.box 38 [.lit (.int .i64 (a0.Inputs)), .sl 4 (a0.Units.map formC), .sl 4 (a0.Outputs.map formC)] false)),
    (1, some (.box 38 [.lit (.int .i64 0), .nl 4, .nl 4] false)),
    (2, some (.row 3 1 (out_11.map intI64C) 0))], 3⟩
def fPm_o11b (a0 : TGraph) (a1 : List Int) (out_11 : List Int) : St :=
  ⟨[(1, .sl 1 (a1.map intI64C)), (2, .ptr 0 0), (4, .ptr 1 0), (5, .any), (6, .own 2 out_11.length)],
   [(0, some (.box 38 [.lit (.int .i64 (a0.Inputs)), .sl 4 (a0.Units.map formC), .sl 4 (a0.Outputs.map formC)] false)),
    (1, some (.box 38 [.lit (.int .i64 0), .nl 4, .nl 4] false)),
    (2, some (.row 3 1 (out_11.map intI64C) 0))], 3⟩
def fPm_o18a (a0 : TGraph) (out_18 : List Int) (fz_18 : Nat) (out2_18 : List Form) : St :=
  ⟨[(2, .ptr 0 0), (4, .ptr 1 0), (6, .own 2 out_18.length), (9, .ptr 3 0)],
   [(0, some (.box 38 [.lit (.int .i64 (a0.Inputs)), .sl 4 (a0.Units.map formC), .sl 4 (a0.Outputs.map formC)] false)),
    (1, some (.box 38 [.lit (.int .i64 0), .nl 4, .nl 4] false)),
    (2, some (.row 3 1 (out_18.map intI64C) fz_18)),
    (3, some (.box 38 [.lit (.int .i64 (a0.Inputs)), .own 4 out2_18.length, .nl 4] false)),
    (4, some (.row 29 4 (out2_18.map formC) 0))], 5⟩
def fPm_o22a (a0 : TGraph) (out2_18 : List Form) (out2_22 : List Form) : St :=
  ⟨[(4, .ptr 0 0), (9, .ptr 1 0)],
   [(0, some (.box 38 [.lit (.int .i64 0), .nl 4, .nl 4] false)),
    (1, some (.box 38 [.lit (.int .i64 (a0.Inputs)), .own 2 out2_18.length, .own 3 out2_22.length] false)),
    (2, some (.row 29 4 (out2_18.map formC) 0)),
    (3, some (.row 29 4 (out2_22.map formC) 0))], 4⟩
theorem fPm_r5_1 {n : Nat} {a0 : TGraph} {a1 : List Int} {i_5 : Nat} {out_5 : List Int} (C1 : (i_5 : Int) < (out_5.length : Int)) (G2 : i_5 < out_5.length) (C4 : a0.Inputs ≤ (i_5 : Int)) (W7 : InI ((i_5 : Int) + 1)) :
    Cont 0 (exec Tryz.prog (tab (n + 4)) 0 144 (livesOf 46) big fPm_C5) (livesOf 46 5) (fPm_h5 a0 a1 out_5 i_5) (fPm_h5 a0 a1 ((out_5.set i_5 (i_5 : Int)).set i_5 (-1)) (i_5 + 1)) := by
  have C1_ : i_5 < out_5.length := by omega
  have W7_ : IntKind.i64.wrap ((i_5 : Int) + 1) = (i_5 : Int) + 1 := wr64 W7.1 W7.2
  unfold Cont
  simp +decide [fPm_h5, loopsOf, Tryz.f46, fPm_C5, C1, C1_, G2, C4, W7_]
theorem fPm_r5_2 {n : Nat} {a0 : TGraph} {a1 : List Int} {i_5 : Nat} {out_5 : List Int} (C1 : (i_5 : Int) < (out_5.length : Int)) (G2 : i_5 < out_5.length) (C4 : ¬ a0.Inputs ≤ (i_5 : Int)) (W5 : InI ((i_5 : Int) + 1)) :
    Cont 0 (exec Tryz.prog (tab (n + 4)) 0 144 (livesOf 46) big fPm_C5) (livesOf 46 5) (fPm_h5 a0 a1 out_5 i_5) (fPm_h5 a0 a1 (out_5.set i_5 (i_5 : Int)) (i_5 + 1)) := by
  have C1_ : i_5 < out_5.length := by omega
  have W5_ : IntKind.i64.wrap ((i_5 : Int) + 1) = (i_5 : Int) + 1 := wr64 W5.1 W5.2
  unfold Cont
  simp +decide [fPm_h5, loopsOf, Tryz.f46, fPm_C5, C1, C1_, G2, C4, W5_]
theorem fPm_x5_1 {n : Nat} {a0 : TGraph} {a1 : List Int} {i_5 : Nat} {out_5 : List Int} (C1 : ¬ (i_5 : Int) < (out_5.length : Int)) :
    Leave 0 (exec Tryz.prog (tab (n + 4)) 0 144 (livesOf 46) big fPm_C5) (livesOf 46 (outOf 5)) (fPm_h5 a0 a1 out_5 i_5) (.exit 0) (fPm_o5a a0 a1 out_5) := by
  have C1_ : ¬ i_5 < out_5.length := by omega
  unfold Leave
  simp +decide [fPm_h5, loopsOf, Tryz.f46, fPm_o5a, fPm_C5, C1, C1_]
theorem fPm_r11_1 {n : Nat} {a0 : TGraph} {a1 : List Int} {i_11 : Nat} {x5 : Int} {out_11 : List Int} {x6 : Int} (C1 : (i_11 : Int) < (a1.length : Int)) (E2 : a1[i_11]? = some x5) (C3 : ¬ x5 < 0) (C4 : ¬ (a0.Units.length : Int) ≤ x5) (W5 : InI (a0.Inputs + x5)) (G6 : (a0.Inputs + x5).toNat < out_11.length) (Z6 : 0 ≤ a0.Inputs + x5) (E7 : out_11[(a0.Inputs + x5).toNat]? = some x6) (Z7 : 0 ≤ a0.Inputs + x5) (C8 : ¬ 0 ≤ x6) (W10 : InI (a0.Inputs + (i_11 : Int))) (W13 : InI ((i_11 : Int) + 1)) :
    Cont 0 (exec Tryz.prog (tab (n + 4)) 0 144 (livesOf 46) big fPm_C11) (livesOf 46 11) (fPm_h11 a0 a1 out_11 i_11) (fPm_h11 a0 a1 (out_11.set ((a0.Inputs + x5).toNat) ((a0.Inputs + (i_11 : Int)))) (i_11 + 1)) := by
  have C1_ : i_11 < a1.length := by omega
  obtain ⟨EL2, EG2⟩ := List.getElem?_eq_some_iff.1 E2
  have W5_ : IntKind.i64.wrap (a0.Inputs + x5) = a0.Inputs + x5 := wr64 W5.1 W5.2
  obtain ⟨EL7, EG7⟩ := List.getElem?_eq_some_iff.1 E7
  have W10_ : IntKind.i64.wrap (a0.Inputs + (i_11 : Int)) = a0.Inputs + (i_11 : Int) := wr64 W10.1 W10.2
  have W13_ : IntKind.i64.wrap ((i_11 : Int) + 1) = (i_11 : Int) + 1 := wr64 W13.1 W13.2
  unfold Cont
  simp +decide [fPm_h11, loopsOf, Tryz.f46, fPm_C11, C1, C1_, EL2, EG2, E2, C3, C4, W5_, G6, Z6, EL7, EG7, E7, Z7, C8, W10_, W13_]
theorem fPm_x11_1 {n : Nat} {a0 : TGraph} {a1 : List Int} {i_11 : Nat} {x5 : Int} {out_11 : List Int} (C1 : (i_11 : Int) < (a1.length : Int)) (E2 : a1[i_11]? = some x5) (C3 : x5 < 0) :
    Leave 0 (exec Tryz.prog (tab (n + 4)) 0 144 (livesOf 46) big fPm_C11) (livesOf 46 (outOf 11)) (fPm_h11 a0 a1 out_11 i_11) (.ret) (fPm_o11a a0 a1 out_11) := by
  have C1_ : i_11 < a1.length := by omega
  obtain ⟨EL2, EG2⟩ := List.getElem?_eq_some_iff.1 E2
  unfold Leave
  simp +decide [fPm_h11, loopsOf, Tryz.f46, fPm_o11a, fPm_C11, C1, C1_, EL2, EG2, E2, C3]
theorem fPm_x11_2 {n : Nat} {a0 : TGraph} {a1 : List Int} {i_11 : Nat} {x5 : Int} {out_11 : List Int} (C1 : (i_11 : Int) < (a1.length : Int)) (E2 : a1[i_11]? = some x5) (C3 : ¬ x5 < 0) (C4 : (a0.Units.length : Int) ≤ x5) :
    Leave 0 (exec Tryz.prog (tab (n + 4)) 0 144 (livesOf 46) big fPm_C11) (livesOf 46 (outOf 11)) (fPm_h11 a0 a1 out_11 i_11) (.ret) (fPm_o11a a0 a1 out_11) := by
  have C1_ : i_11 < a1.length := by omega
  obtain ⟨EL2, EG2⟩ := List.getElem?_eq_some_iff.1 E2
  unfold Leave
  simp +decide [fPm_h11, loopsOf, Tryz.f46, fPm_o11a, fPm_C11, C1, C1_, EL2, EG2, E2, C3, C4]
theorem fPm_x11_3 {n : Nat} {a0 : TGraph} {a1 : List Int} {i_11 : Nat} {x5 : Int} {out_11 : List Int} {x6 : Int} (C1 : (i_11 : Int) < (a1.length : Int)) (E2 : a1[i_11]? = some x5) (C3 : ¬ x5 < 0) (C4 : ¬ (a0.Units.length : Int) ≤ x5) (W5 : InI (a0.Inputs + x5)) (G6 : (a0.Inputs + x5).toNat < out_11.length) (Z6 : 0 ≤ a0.Inputs + x5) (E7 : out_11[(a0.Inputs + x5).toNat]? = some x6) (Z7 : 0 ≤ a0.Inputs + x5) (C8 : 0 ≤ x6) :
    Leave 0 (exec Tryz.prog (tab (n + 4)) 0 144 (livesOf 46) big fPm_C11) (livesOf 46 (outOf 11)) (fPm_h11 a0 a1 out_11 i_11) (.ret) (fPm_o11a a0 a1 out_11) := by
  have C1_ : i_11 < a1.length := by omega
  obtain ⟨EL2, EG2⟩ := List.getElem?_eq_some_iff.1 E2
  have W5_ : IntKind.i64.wrap (a0.Inputs + x5) = a0.Inputs + x5 := wr64 W5.1 W5.2
  obtain ⟨EL7, EG7⟩ := List.getElem?_eq_some_iff.1 E7
  unfold Leave
  simp +decide [fPm_h11, loopsOf, Tryz.f46, fPm_o11a, fPm_C11, C1, C1_, EL2, EG2, E2, C3, C4, W5_, G6, Z6, EL7, EG7, E7, Z7, C8]
theorem fPm_x11_4 {n : Nat} {a0 : TGraph} {a1 : List Int} {i_11 : Nat} {out_11 : List Int} (C1 : ¬ (i_11 : Int) < (a1.length : Int)) :
    Leave 0 (exec Tryz.prog (tab (n + 4)) 0 144 (livesOf 46) big fPm_C11) (livesOf 46 (outOf 11)) (fPm_h11 a0 a1 out_11 i_11) (.exit 2) (fPm_o11b a0 a1 out_11) := by
  have C1_ : ¬ i_11 < a1.length := by omega
  unfold Leave
  simp +decide [fPm_h11, loopsOf, Tryz.f46, fPm_o11b, fPm_C11, C1, C1_]
theorem fPm_r18_1 {n : Nat} {a0 : TGraph} {a1 : List Int} {i_18 : Nat} {x9 : Int} {F3 : List (Int × Rat)} {q3 : Rat} {out_18 : List Int} {r4 : Form} {out2_18 : List Form} {fz_18 : Nat} (C1 : (i_18 : Int) < (a1.length : Int)) (E2 : a1[i_18]? = some x9) (E3 : a0.Units[x9.toNat]? = some (F3, q3)) (Z3 : 0 ≤ x9) (K4 : run (n + 3) 110 [formV (F3, q3), .sl 1 (out_18.map intI64C)] = some (formV r4)) (M5 : out2_18.length + 1 ≤ 100000000) (W6 : InI ((i_18 : Int) + 1)) :
    Cont 0 (exec Tryz.prog (tab (n + 4)) 0 144 (livesOf 46) big fPm_C18) (livesOf 46 18) (fPm_h18 a0 a1 out_18 i_18 fz_18 out2_18) (fPm_h18 a0 a1 out_18 (i_18 + 1) out_18.length (out2_18 ++ [r4])) := by
  have C1_ : i_18 < a1.length := by omega
  obtain ⟨EL2, EG2⟩ := List.getElem?_eq_some_iff.1 E2
  obtain ⟨EL3, EG3⟩ := List.getElem?_eq_some_iff.1 E3
  simp only [formV] at K4
  have M5_ : ∀ b, b ≤ 10000 → roomy (out2_18.length + 1) b = true := fun b hb => roomy_s M5 hb
  have W6_ : IntKind.i64.wrap ((i_18 : Int) + 1) = (i_18 : Int) + 1 := wr64 W6.1 W6.2
  unfold Cont
  simp +decide [fPm_h18, loopsOf, Tryz.f46, fPm_C18, C1, C1_, EL2, EG2, E2, EL3, EG3, E3, Z3, K4, M5_, W6_]
theorem fPm_x18_1 {n : Nat} {a0 : TGraph} {a1 : List Int} {i_18 : Nat} {out_18 : List Int} {fz_18 : Nat} {out2_18 : List Form} (C1 : ¬ (i_18 : Int) < (a1.length : Int)) :
    Leave 0 (exec Tryz.prog (tab (n + 4)) 0 144 (livesOf 46) big fPm_C18) (livesOf 46 (outOf 18)) (fPm_h18 a0 a1 out_18 i_18 fz_18 out2_18) (.exit 4) (fPm_o18a a0 out_18 fz_18 out2_18) := by
  have C1_ : ¬ i_18 < a1.length := by omega
  unfold Leave
  simp +decide [fPm_h18, loopsOf, Tryz.f46, fPm_o18a, fPm_C18, C1, C1_]
theorem fPm_r22_1 {n : Nat} {a0 : TGraph} {i_22 : Nat} {F6 : List (Int × Rat)} {q6 : Rat} {out_22 : List Int} {r7 : Form} {out2_22 : List Form} {fz_22 : Nat} {out2_18 : List Form} (C1 : (i_22 : Int) < (a0.Outputs.length : Int)) (E2 : a0.Outputs[i_22]? = some (F6, q6)) (K3 : run (n + 3) 110 [formV (F6, q6), .sl 1 (out_22.map intI64C)] = some (formV r7)) (M4 : out2_22.length + 1 ≤ 100000000) (W5 : InI ((i_22 : Int) + 1)) :
    Cont 0 (exec Tryz.prog (tab (n + 4)) 0 144 (livesOf 46) big fPm_C22) (livesOf 46 22) (fPm_h22 a0 out_22 i_22 fz_22 out2_18 out2_22) (fPm_h22 a0 out_22 (i_22 + 1) out_22.length out2_18 (out2_22 ++ [r7])) := by
  have C1_ : i_22 < a0.Outputs.length := by omega
  obtain ⟨EL2, EG2⟩ := List.getElem?_eq_some_iff.1 E2
  simp only [formV] at K3
  have M4_ : ∀ b, b ≤ 10000 → roomy (out2_22.length + 1) b = true := fun b hb => roomy_s M4 hb
  have W5_ : IntKind.i64.wrap ((i_22 : Int) + 1) = (i_22 : Int) + 1 := wr64 W5.1 W5.2
  unfold Cont
  simp +decide [fPm_h22, loopsOf, Tryz.f46, fPm_C22, C1, C1_, EL2, EG2, E2, K3, M4_, W5_]
theorem fPm_x22_1 {n : Nat} {a0 : TGraph} {i_22 : Nat} {out_22 : List Int} {fz_22 : Nat} {out2_18 : List Form} {out2_22 : List Form} (C1 : ¬ (i_22 : Int) < (a0.Outputs.length : Int)) :
    Leave 0 (exec Tryz.prog (tab (n + 4)) 0 144 (livesOf 46) big fPm_C22) (livesOf 46 (outOf 22)) (fPm_h22 a0 out_22 i_22 fz_22 out2_18 out2_22) (.exit 6) (fPm_o22a a0 out2_18 out2_22) := by
  have C1_ : ¬ i_22 < a0.Outputs.length := by omega
  unfold Leave
  simp +decide [fPm_h22, loopsOf, Tryz.f46, fPm_o22a, fPm_C22, C1, C1_]
theorem fPm_f2 {n : Nat} {a0 : TGraph} {a1 : List Int} {r : Bool} (K1 : run (n + 3) 25 [graphV a0] = some (.lit (.bool r))) (C2 : r = true) (C3 : ¬ (a1.length : Int) = (a0.Units.length : Int)) :
    run (n + 4) 46 [graphV a0, .sl 1 (a1.map intI64C)] = some (.tup [.agg [.lit (.int .i64 0), .sl 4 [], .sl 4 []], .lit (.int .i64 1)]) := by
  simp only [graphV] at K1
  have C3_ : ((a1.length : Int) == (a0.Units.length : Int)) = false := by simpa using C3
  have C3_n : ((a1.length : Int) != (a0.Units.length : Int)) = true := by simpa using C3
  unfold run fnP
  simp +decide [Tryz.f46, K1, C2, C3_, C3_n]
theorem fPm_f3 {n : Nat} {a0 : TGraph} {a1 : List Int} {r : Bool} {out_5 : List Int} {out_11 : List Int} (K1 : run (n + 3) 25 [graphV a0] = some (.lit (.bool r))) (C2 : r = true) (C3 : (a1.length : Int) = (a0.Units.length : Int)) (W4 : InI (a0.Inputs + (a0.Units.length : Int))) (M5 : (a0.Inputs + (a0.Units.length : Int)).toNat ≤ 100000000) (C6 : 0 ≤ a0.Inputs + (a0.Units.length : Int)) (L7 : loopG Tryz.prog (tab (n + 4)) 0 144 (livesOf 46) 5 fPm_C5 (fPm_h5 a0 a1 (List.replicate ((a0.Inputs + (a0.Units.length : Int)).toNat) 0) 0) = some (.exit 0, fPm_o5a a0 a1 out_5)) (L8 : loopG Tryz.prog (tab (n + 4)) 0 144 (livesOf 46) 11 fPm_C11 (fPm_h11 a0 a1 out_5 0) = some (.ret, fPm_o11a a0 a1 out_11)) :
    run (n + 4) 46 [graphV a0, .sl 1 (a1.map intI64C)] = some (.tup [.agg [.lit (.int .i64 0), .sl 4 [], .sl 4 []], .lit (.int .i64 1)]) := by
  simp only [graphV] at K1
  have C3_ : ((a1.length : Int) == (a0.Units.length : Int)) = true := by rw [C3]; simp
  have C3_n : ((a1.length : Int) != (a0.Units.length : Int)) = false := by rw [C3]; simp
  have W4_ : IntKind.i64.wrap (a0.Inputs + (a0.Units.length : Int)) = a0.Inputs + (a0.Units.length : Int) := wr64 W4.1 W4.2
  have M5_ : ∀ b, b ≤ 10000 → roomy ((a0.Inputs + (a0.Units.length : Int)).toNat) b = true := fun b hb => roomy_s M5 hb
  unfold run fnP
  simp +decide [Tryz.f46, K1, C2, C3_, C3_n, W4_, M5_, C6]
  rw [loopX_G (C' := fPm_C5) (e := (fPm_h5 a0 a1 (List.replicate ((a0.Inputs + (a0.Units.length : Int)).toNat) 0) 0)) ?_ ?_, L7]
  rotate_left
  · kernel_rfl
  · simp +decide [fPm_h5, K1, C2, C3_, C3_n, W4_, M5_, C6]
  simp +decide [fPm_o5a, K1, C2, C3_, C3_n, W4_, M5_, C6]
  rw [loopX_G (C' := fPm_C11) (e := (fPm_h11 a0 a1 out_5 0)) ?_ ?_, L8]
  rotate_left
  · kernel_rfl
  · simp +decide [fPm_h11, K1, C2, C3_, C3_n, W4_, M5_, C6]
  simp +decide [fPm_o11a, K1, C2, C3_, C3_n, W4_, M5_, C6]
theorem fPm_f4 {n : Nat} {a0 : TGraph} {a1 : List Int} {r : Bool} {out_5 : List Int} {out_11 : List Int} {out_18 : List Int} {fz_18 : Nat} {out2_18 : List Form} {out2_22 : List Form} {r8 : Bool} (K1 : run (n + 3) 25 [graphV a0] = some (.lit (.bool r))) (C2 : r = true) (C3 : (a1.length : Int) = (a0.Units.length : Int)) (W4 : InI (a0.Inputs + (a0.Units.length : Int))) (M5 : (a0.Inputs + (a0.Units.length : Int)).toNat ≤ 100000000) (C6 : 0 ≤ a0.Inputs + (a0.Units.length : Int)) (L7 : loopG Tryz.prog (tab (n + 4)) 0 144 (livesOf 46) 5 fPm_C5 (fPm_h5 a0 a1 (List.replicate ((a0.Inputs + (a0.Units.length : Int)).toNat) 0) 0) = some (.exit 0, fPm_o5a a0 a1 out_5)) (L8 : loopG Tryz.prog (tab (n + 4)) 0 144 (livesOf 46) 11 fPm_C11 (fPm_h11 a0 a1 out_5 0) = some (.exit 2, fPm_o11b a0 a1 out_11)) (L9 : loopG Tryz.prog (tab (n + 4)) 0 144 (livesOf 46) 18 fPm_C18 (fPm_h18 a0 a1 out_11 0 0 []) = some (.exit 4, fPm_o18a a0 out_18 fz_18 out2_18)) (L10 : loopG Tryz.prog (tab (n + 4)) 0 144 (livesOf 46) 22 fPm_C22 (fPm_h22 a0 out_18 0 fz_18 out2_18 []) = some (.exit 6, fPm_o22a a0 out2_18 out2_22)) (K11 : run (n + 3) 25 [.agg [.lit (.int .i64 (a0.Inputs)), .sl 4 (out2_18.map formC), .sl 4 (out2_22.map formC)]] = some (.lit (.bool r8))) (C12 : r8 = false) :
    run (n + 4) 46 [graphV a0, .sl 1 (a1.map intI64C)] = some (.tup [.agg [.lit (.int .i64 0), .sl 4 [], .sl 4 []], .lit (.int .i64 9)]) := by
  simp only [graphV] at K1
  have C3_ : ((a1.length : Int) == (a0.Units.length : Int)) = true := by rw [C3]; simp
  have C3_n : ((a1.length : Int) != (a0.Units.length : Int)) = false := by rw [C3]; simp
  have W4_ : IntKind.i64.wrap (a0.Inputs + (a0.Units.length : Int)) = a0.Inputs + (a0.Units.length : Int) := wr64 W4.1 W4.2
  have M5_ : ∀ b, b ≤ 10000 → roomy ((a0.Inputs + (a0.Units.length : Int)).toNat) b = true := fun b hb => roomy_s M5 hb
  unfold run fnP
  simp +decide [Tryz.f46, K1, C2, C3_, C3_n, W4_, M5_, C6, K11, C12]
  rw [loopX_G (C' := fPm_C5) (e := (fPm_h5 a0 a1 (List.replicate ((a0.Inputs + (a0.Units.length : Int)).toNat) 0) 0)) ?_ ?_, L7]
  rotate_left
  · kernel_rfl
  · simp +decide [fPm_h5, K1, C2, C3_, C3_n, W4_, M5_, C6, K11, C12]
  simp +decide [fPm_o5a, K1, C2, C3_, C3_n, W4_, M5_, C6, K11, C12]
  rw [loopX_G (C' := fPm_C11) (e := (fPm_h11 a0 a1 out_5 0)) ?_ ?_, L8]
  rotate_left
  · kernel_rfl
  · simp +decide [fPm_h11, K1, C2, C3_, C3_n, W4_, M5_, C6, K11, C12]
  simp +decide [fPm_o11b, K1, C2, C3_, C3_n, W4_, M5_, C6, K11, C12]
  rw [loopX_G (C' := fPm_C18) (e := (fPm_h18 a0 a1 out_11 0 0 [])) ?_ ?_, L9]
  rotate_left
  · kernel_rfl
  · simp +decide [fPm_h18, K1, C2, C3_, C3_n, W4_, M5_, C6, K11, C12]
  simp +decide [fPm_o18a, K1, C2, C3_, C3_n, W4_, M5_, C6, K11, C12]
  rw [loopX_G (C' := fPm_C22) (e := (fPm_h22 a0 out_18 0 fz_18 out2_18 [])) ?_ ?_, L10]
  rotate_left
  · kernel_rfl
  · simp +decide [fPm_h22, K1, C2, C3_, C3_n, W4_, M5_, C6, K11, C12]
  simp +decide [fPm_o22a, K1, C2, C3_, C3_n, W4_, M5_, C6, K11, C12]
theorem fPm_f5 {n : Nat} {a0 : TGraph} {a1 : List Int} {r : Bool} {out_5 : List Int} {out_11 : List Int} {out_18 : List Int} {fz_18 : Nat} {out2_18 : List Form} {out2_22 : List Form} {r8 : Bool} (K1 : run (n + 3) 25 [graphV a0] = some (.lit (.bool r))) (C2 : r = true) (C3 : (a1.length : Int) = (a0.Units.length : Int)) (W4 : InI (a0.Inputs + (a0.Units.length : Int))) (M5 : (a0.Inputs + (a0.Units.length : Int)).toNat ≤ 100000000) (C6 : 0 ≤ a0.Inputs + (a0.Units.length : Int)) (L7 : loopG Tryz.prog (tab (n + 4)) 0 144 (livesOf 46) 5 fPm_C5 (fPm_h5 a0 a1 (List.replicate ((a0.Inputs + (a0.Units.length : Int)).toNat) 0) 0) = some (.exit 0, fPm_o5a a0 a1 out_5)) (L8 : loopG Tryz.prog (tab (n + 4)) 0 144 (livesOf 46) 11 fPm_C11 (fPm_h11 a0 a1 out_5 0) = some (.exit 2, fPm_o11b a0 a1 out_11)) (L9 : loopG Tryz.prog (tab (n + 4)) 0 144 (livesOf 46) 18 fPm_C18 (fPm_h18 a0 a1 out_11 0 0 []) = some (.exit 4, fPm_o18a a0 out_18 fz_18 out2_18)) (L10 : loopG Tryz.prog (tab (n + 4)) 0 144 (livesOf 46) 22 fPm_C22 (fPm_h22 a0 out_18 0 fz_18 out2_18 []) = some (.exit 6, fPm_o22a a0 out2_18 out2_22)) (K11 : run (n + 3) 25 [.agg [.lit (.int .i64 (a0.Inputs)), .sl 4 (out2_18.map formC), .sl 4 (out2_22.map formC)]] = some (.lit (.bool r8))) (C12 : r8 = true) :
    run (n + 4) 46 [graphV a0, .sl 1 (a1.map intI64C)] = some (.tup [.agg [.lit (.int .i64 (a0.Inputs)), .sl 4 (out2_18.map formC), .sl 4 (out2_22.map formC)], .lit (.int .i64 0)]) := by
  simp only [graphV] at K1
  have C3_ : ((a1.length : Int) == (a0.Units.length : Int)) = true := by rw [C3]; simp
  have C3_n : ((a1.length : Int) != (a0.Units.length : Int)) = false := by rw [C3]; simp
  have W4_ : IntKind.i64.wrap (a0.Inputs + (a0.Units.length : Int)) = a0.Inputs + (a0.Units.length : Int) := wr64 W4.1 W4.2
  have M5_ : ∀ b, b ≤ 10000 → roomy ((a0.Inputs + (a0.Units.length : Int)).toNat) b = true := fun b hb => roomy_s M5 hb
  unfold run fnP
  simp +decide [Tryz.f46, K1, C2, C3_, C3_n, W4_, M5_, C6, K11, C12]
  rw [loopX_G (C' := fPm_C5) (e := (fPm_h5 a0 a1 (List.replicate ((a0.Inputs + (a0.Units.length : Int)).toNat) 0) 0)) ?_ ?_, L7]
  rotate_left
  · kernel_rfl
  · simp +decide [fPm_h5, K1, C2, C3_, C3_n, W4_, M5_, C6, K11, C12]
  simp +decide [fPm_o5a, K1, C2, C3_, C3_n, W4_, M5_, C6, K11, C12]
  rw [loopX_G (C' := fPm_C11) (e := (fPm_h11 a0 a1 out_5 0)) ?_ ?_, L8]
  rotate_left
  · kernel_rfl
  · simp +decide [fPm_h11, K1, C2, C3_, C3_n, W4_, M5_, C6, K11, C12]
  simp +decide [fPm_o11b, K1, C2, C3_, C3_n, W4_, M5_, C6, K11, C12]
  rw [loopX_G (C' := fPm_C18) (e := (fPm_h18 a0 a1 out_11 0 0 [])) ?_ ?_, L9]
  rotate_left
  · kernel_rfl
  · simp +decide [fPm_h18, K1, C2, C3_, C3_n, W4_, M5_, C6, K11, C12]
  simp +decide [fPm_o18a, K1, C2, C3_, C3_n, W4_, M5_, C6, K11, C12]
  rw [loopX_G (C' := fPm_C22) (e := (fPm_h22 a0 out_18 0 fz_18 out2_18 [])) ?_ ?_, L10]
  rotate_left
  · kernel_rfl
  · simp +decide [fPm_h22, K1, C2, C3_, C3_n, W4_, M5_, C6, K11, C12]
  simp +decide [fPm_o22a, K1, C2, C3_, C3_n, W4_, M5_, C6, K11, C12]
end Go.Proofs.YtlpmemelhlnfbaaGreatDoor
set_option linter.all false
set_option maxRecDepth 100000
set_option maxHeartbeats 6400000
namespace Go.Proofs.YtlpmemelhlnfbaaGreatDoor
open Go.RowKit

theorem gp1_f1 {n : Nat} {a0 : Int} {c0 : TGraph} {c1 : List Int} (C1 : a0 < c0.Inputs) :
    run n 107 [.lit (.int .i64 a0), .mem (graphC c0), .mem [.sl 1 (c1.map intI64C)]] = some (.lit (.int .i64 a0)) := by
  unfold run fnP
  simp +decide [Tryz.f107, C1]
theorem gp1_f2 {n : Nat} {a0 : Int} {c0 : TGraph} {c1 : List Int} {x : Int} (C1 : ¬ a0 < c0.Inputs) (W2 : InI (a0 - c0.Inputs)) (E3 : c1[(a0 - c0.Inputs).toNat]? = some x) (Z3 : 0 ≤ a0 - c0.Inputs) (W4 : InI (c0.Inputs + x)) :
    run n 107 [.lit (.int .i64 a0), .mem (graphC c0), .mem [.sl 1 (c1.map intI64C)]] = some (.lit (.int .i64 (c0.Inputs + x))) := by
  have W2_ : IntKind.i64.wrap (a0 - c0.Inputs) = a0 - c0.Inputs := wr64 W2.1 W2.2
  obtain ⟨EL3, EG3⟩ := List.getElem?_eq_some_iff.1 E3
  have Z3_0 : c0.Inputs ≤ a0 := by omega
  have W4_ : IntKind.i64.wrap (c0.Inputs + x) = c0.Inputs + x := wr64 W4.1 W4.2
  unfold run fnP
  simp +decide [Tryz.f107, C1, W2_, EL3, EG3, E3, Z3, Z3_0, W4_]
noncomputable def grp_C3 : Code := (loopsOf (bodyOf Tryz.f108)).getD 0 .skip
def grp_h3 (a0 : Form) (c0 : TGraph) (c1 : List Int) (out_3 : List (Int × Rat)) (i_3 : Nat) : St :=
  ⟨[(1, .clo 107 [.mem (graphC c0), .mem [.sl 1 (c1.map intI64C)]]), (2, .ptr 0 0), (4, .ptr 1 0), (5, .own 2 out_3.length), (11, .sl 4 (a0.1.map termC)), (12, .lit (.int .i64 (a0.1.length : Int))), (13, .lit (.int .i64 (i_3 : Int)))],
   [(0, some (.box 29 [.sl 4 (a0.1.map termC), .lit (.bool (rawQ a0.2).s), natA (rawQ a0.2).l1, natA (rawQ a0.2).l2] false)),
    (1, some (.box 29 [.nl 4, .lit (.bool false), .nl 1, .nl 1] false)),
    (2, some (.row 84 4 (out_3.map termC) 0))], 3⟩
def grp_o3a (a0 : Form) (out_3 : List (Int × Rat)) : St :=
  ⟨[(2, .ptr 0 0), (4, .ptr 1 0), (5, .own 2 out_3.length)],
   [(0, some (.box 29 [.sl 4 (a0.1.map termC), .lit (.bool (rawQ a0.2).s), natA (rawQ a0.2).l1, natA (rawQ a0.2).l2] false)),
    (1, some (.box 29 [.nl 4, .lit (.bool false), .nl 1, .nl 1] false)),
    (2, some (.row 84 4 (out_3.map termC) 0))], 3⟩
theorem grp_r3_1 {n : Nat} {a0 : Form} {c0 : TGraph} {c1 : List Int} {i_3 : Nat} {v3 : Int} {q3 : Rat} {r3 : Int} {out_3 : List (Int × Rat)} (C1 : (i_3 : Int) < (a0.1.length : Int)) (E2 : a0.1[i_3]? = some (v3, q3)) (K3 : run (n + 45) 107 [.lit (.int .i64 v3), .mem (graphC c0), .mem [.sl 1 (c1.map intI64C)]] = some (.lit (.int .i64 r3))) (M4 : out_3.length + 1 ≤ 100000000) (W5 : InI ((i_3 : Int) + 1)) :
    Cont 0 (exec Tryz.prog (tab (n + 46)) 0 36 (livesOf 108) big grp_C3) (livesOf 108 3) (grp_h3 a0 c0 c1 out_3 i_3) (grp_h3 a0 c0 c1 (out_3 ++ [(r3, q3)]) (i_3 + 1)) := by
  have C1_ : i_3 < a0.1.length := by omega
  obtain ⟨EL2, EG2⟩ := List.getElem?_eq_some_iff.1 E2
  simp only [graphC] at K3
  have M4_ : ∀ b, b ≤ 10000 → roomy (out_3.length + 1) b = true := fun b hb => roomy_s M4 hb
  have W5_ : IntKind.i64.wrap ((i_3 : Int) + 1) = (i_3 : Int) + 1 := wr64 W5.1 W5.2
  unfold Cont
  simp +decide [grp_h3, loopsOf, Tryz.f108, grp_C3, C1, C1_, EL2, EG2, E2, K3, M4_, W5_]
theorem grp_x3_1 {n : Nat} {a0 : Form} {c0 : TGraph} {c1 : List Int} {i_3 : Nat} {out_3 : List (Int × Rat)} (C1 : ¬ (i_3 : Int) < (a0.1.length : Int)) :
    Leave 0 (exec Tryz.prog (tab (n + 46)) 0 36 (livesOf 108) big grp_C3) (livesOf 108 (outOf 3)) (grp_h3 a0 c0 c1 out_3 i_3) (.exit 0) (grp_o3a a0 out_3) := by
  have C1_ : ¬ i_3 < a0.1.length := by omega
  unfold Leave
  simp +decide [grp_h3, loopsOf, Tryz.f108, grp_o3a, grp_C3, C1, C1_]
theorem grp_f1 {n : Nat} {a0 : Form} {c0 : TGraph} {c1 : List Int} {out_3 : List (Int × Rat)} {r4 : Form} {r5 : Int} (L1 : loopG Tryz.prog (tab (n + 46)) 0 36 (livesOf 108) 3 grp_C3 (grp_h3 a0 c0 c1 [] 0) = some (.exit 0, grp_o3a a0 out_3)) (K2 : run (n + 45) 58 [.sl 4 (out_3.map termC), ratV a0.2] = some (.tup [formV r4, .lit (.int .i64 r5)])) :
    run (n + 46) 108 [formV a0, .clo 107 [.mem (graphC c0), .mem [.sl 1 (c1.map intI64C)]]] = some (formV r4) := by
  simp only [ratV, formV] at K2
  unfold run fnP
  simp +decide [Tryz.f108, K2]
  rw [loopX_G (C' := grp_C3) (e := (grp_h3 a0 c0 c1 [] 0)) ?_ ?_, L1]
  rotate_left
  · kernel_rfl
  · simp +decide [grp_h3, K2]
  simp +decide [grp_o3a, K2]
end Go.Proofs.YtlpmemelhlnfbaaGreatDoor
set_option linter.all false
set_option maxRecDepth 100000
set_option maxHeartbeats 6400000
namespace Go.Proofs.YtlpmemelhlnfbaaGreatDoor
open Go.RowKit

theorem gp2_f1 {n : Nat} {a0 : Form} {g : TGraph} {P : List Int} {r : Form} (K1 : run (n + 45) 108 [formV a0, (.clo 107 [.mem (graphC g), .mem [.sl 1 (P.map intI64C)]])] = some (formV r)) :
    run (n + 46) 109 [formV a0, .mem [(.clo 107 [.mem (graphC g), .mem [.sl 1 (P.map intI64C)]])]] = some (formV r) := by
  simp only [formV, graphC] at K1
  unfold run fnP
  simp +decide [Tryz.f109, K1]
noncomputable def gep_C3 : Code := (loopsOf (bodyOf Tryz.f83)).getD 0 .skip
def gep_h3 (a0 : List Form) (c0 : AV) (out_3 : List Form) (i_3 : Nat) : St :=
  ⟨[(1, .clo 109 [.mem [c0]]), (5, .own 0 out_3.length), (8, .sl 4 (a0.map formC)), (9, .lit (.int .i64 (a0.length : Int))), (10, .lit (.int .i64 (i_3 : Int)))],
   [(0, some (.row 29 4 (out_3.map formC) 0))], 1⟩
def gep_o3a (out_3 : List Form) : St :=
  ⟨[(5, .own 0 out_3.length)],
   [(0, some (.row 29 4 (out_3.map formC) 0))], 1⟩
theorem gep_r3_1 {n : Nat} {a0 : List Form} {c0 : AV} {i_3 : Nat} {F3 : List (Int × Rat)} {q3 : Rat} {r3 : Form} {out_3 : List Form} (C1 : (i_3 : Int) < (a0.length : Int)) (E2 : a0[i_3]? = some (F3, q3)) (K3 : run (n + 46) 109 [formV (F3, q3), .mem [c0]] = some (formV r3)) (M4 : out_3.length + 1 ≤ 100000000) (W5 : InI ((i_3 : Int) + 1)) :
    Cont 0 (exec Tryz.prog (tab (n + 47)) 0 22 (livesOf 83) big gep_C3) (livesOf 83 3) (gep_h3 a0 c0 out_3 i_3) (gep_h3 a0 c0 (out_3 ++ [r3]) (i_3 + 1)) := by
  have C1_ : i_3 < a0.length := by omega
  obtain ⟨EL2, EG2⟩ := List.getElem?_eq_some_iff.1 E2
  simp only [formV] at K3
  have M4_ : ∀ b, b ≤ 10000 → roomy (out_3.length + 1) b = true := fun b hb => roomy_s M4 hb
  have W5_ : IntKind.i64.wrap ((i_3 : Int) + 1) = (i_3 : Int) + 1 := wr64 W5.1 W5.2
  unfold Cont
  simp +decide [gep_h3, loopsOf, Tryz.f83, gep_C3, C1, C1_, EL2, EG2, E2, K3, M4_, W5_]
theorem gep_x3_1 {n : Nat} {a0 : List Form} {c0 : AV} {i_3 : Nat} {out_3 : List Form} (C1 : ¬ (i_3 : Int) < (a0.length : Int)) :
    Leave 0 (exec Tryz.prog (tab (n + 47)) 0 22 (livesOf 83) big gep_C3) (livesOf 83 (outOf 3)) (gep_h3 a0 c0 out_3 i_3) (.exit 0) (gep_o3a out_3) := by
  have C1_ : ¬ i_3 < a0.length := by omega
  unfold Leave
  simp +decide [gep_h3, loopsOf, Tryz.f83, gep_o3a, gep_C3, C1, C1_]
theorem gep_f1 {n : Nat} {a0 : List Form} {c0 : AV} {out_3 : List Form} (L1 : loopG Tryz.prog (tab (n + 47)) 0 22 (livesOf 83) 3 gep_C3 (gep_h3 a0 c0 [] 0) = some (.exit 0, gep_o3a out_3)) :
    runL (n + 47) 83 [.sl 4 (a0.map formC), .clo 109 [.mem [c0]]] [] = some (.own 0 out_3.length, [(0, .row 29 4 (out_3.map formC) 0)]) := by
  unfold runL fnL
  simp +decide [Tryz.f83]
  rw [loopX_G (C' := gep_C3) (e := (gep_h3 a0 c0 [] 0)) ?_ ?_, L1]
  rotate_left
  · kernel_rfl
  · simp +decide [gep_h3]
  simp +decide [gep_o3a]
end Go.Proofs.YtlpmemelhlnfbaaGreatDoor
set_option linter.all false
set_option maxRecDepth 100000
set_option maxHeartbeats 6400000
namespace Go.Proofs.YtlpmemelhlnfbaaGreatDoor
open Go.RowKit

@[simp] theorem z_fun : zeroOf Tryz.prog 123 = some [Value.nilFunc] := by kernel_rfl
@[simp] theorem zav_fun : zAV Tryz.prog 123 [Value.nilFunc] = [.lit (Value.nilFunc)] := by kernel_rfl
noncomputable def gPm_C5 : Code := (loopsOf (bodyOf Tryz.f45)).getD 0 .skip
noncomputable def gPm_C10 : Code := (loopsOf (bodyOf Tryz.f45)).getD 1 .skip
noncomputable def gPm_C19 : Code := (loopsOf (bodyOf Tryz.f45)).getD 2 .skip
def gPm_h5 (a0 : TGraph) (a1 : List Int) (i_5 : Nat) (out_5 : List Int) : St :=
  ⟨[(1, .sl 1 (a1.map intI64C)), (2, .ptr 0 0), (4, .ptr 1 0), (6, .ptr 2 0), (31, .lit (.int .i64 (a1.length : Int))), (32, .lit (.int .i64 (i_5 : Int)))],
   [(0, some (.box 38 [.lit (.int .i64 (a0.Inputs)), .sl 4 (a0.Units.map formC), .sl 4 (a0.Outputs.map formC)] false)),
    (1, some (.box 38 [.lit (.int .i64 0), .nl 4, .nl 4] false)),
    (2, some (.box 60 [.own 3 out_5.length] false)),
    (3, some (.row 3 1 (out_5.map intI64C) 0))], 4⟩
def gPm_h10 (a0 : TGraph) (a1 : List Int) (i_10 : Nat) (out_10 : List Int) : St :=
  ⟨[(1, .sl 1 (a1.map intI64C)), (2, .ptr 0 0), (4, .ptr 1 0), (6, .ptr 2 0), (39, .sl 1 (a1.map intI64C)), (40, .lit (.int .i64 (a1.length : Int))), (41, .lit (.int .i64 (i_10 : Int)))],
   [(0, some (.box 38 [.lit (.int .i64 (a0.Inputs)), .sl 4 (a0.Units.map formC), .sl 4 (a0.Outputs.map formC)] false)),
    (1, some (.box 38 [.lit (.int .i64 0), .nl 4, .nl 4] false)),
    (2, some (.box 60 [.own 3 out_10.length] false)),
    (3, some (.row 3 1 (out_10.map intI64C) 0))], 4⟩
def gPm_h19 (a0 : TGraph) (a1 : List Int) (i_19 : Nat) (out_10 : List Int) (out_19 : List Form) : St :=
  ⟨[(2, .ptr 0 0), (4, .ptr 1 0), (10, .ptr 2 0), (11, .ptr 3 0), (71, .sl 1 (a1.map intI64C)), (72, .lit (.int .i64 (a1.length : Int))), (73, .lit (.int .i64 (i_19 : Int)))],
   [(0, some (.box 38 [.lit (.int .i64 (a0.Inputs)), .sl 4 (a0.Units.map formC), .sl 4 (a0.Outputs.map formC)] true)),
    (1, some (.box 38 [.lit (.int .i64 0), .nl 4, .nl 4] false)),
    (2, some (.box 123 [.clo 107 [.mem (graphC a0), .mem [.sl 1 (out_10.map intI64C)]]] false)),
    (3, some (.box 38 [.lit (.int .i64 (a0.Inputs)), .own 4 out_19.length, .nl 4] false)),
    (4, some (.row 29 4 (out_19.map formC) 0))], 5⟩
def gPm_o5a (a0 : TGraph) (a1 : List Int) (out_5 : List Int) : St :=
  ⟨[(1, .sl 1 (a1.map intI64C)), (2, .ptr 0 0), (4, .ptr 1 0), (6, .ptr 2 0)],
   [(0, some (.box 38 [.lit (.int .i64 (a0.Inputs)), .sl 4 (a0.Units.map formC), .sl 4 (a0.Outputs.map formC)] false)),
    (1, some (.box 38 [.lit (.int .i64 0), .nl 4, .nl 4] false)),
    (2, some (.box 60 [.own 3 out_5.length] false)),
    (3, some (.row 3 1 (out_5.map intI64C) 0))], 4⟩
def gPm_o10a (a0 : TGraph) (a1 : List Int) (out_10 : List Int) : St :=
  ⟨[(1, .sl 1 (a1.map intI64C)), (2, .ptr 0 0), (4, .ptr 1 0), (5, .lit (.int .i64 1)), (6, .ptr 2 0)],
   [(0, some (.box 38 [.lit (.int .i64 (a0.Inputs)), .sl 4 (a0.Units.map formC), .sl 4 (a0.Outputs.map formC)] false)),
    (1, some (.box 38 [.lit (.int .i64 0), .nl 4, .nl 4] false)),
    (2, some (.box 60 [.own 3 out_10.length] false)),
    (3, some (.row 3 1 (out_10.map intI64C) 0))], 4⟩
def gPm_o10b (a0 : TGraph) (a1 : List Int) (out_10 : List Int) : St :=
  ⟨[(1, .sl 1 (a1.map intI64C)), (2, .ptr 0 0), (4, .ptr 1 0), (5, .any), (6, .ptr 2 0)],
   [(0, some (.box 38 [.lit (.int .i64 (a0.Inputs)), .sl 4 (a0.Units.map formC), .sl 4 (a0.Outputs.map formC)] false)),
    (1, some (.box 38 [.lit (.int .i64 0), .nl 4, .nl 4] false)),
    (2, some (.box 60 [.own 3 out_10.length] false)),
    (3, some (.row 3 1 (out_10.map intI64C) 0))], 4⟩
def gPm_o19a (a0 : TGraph) (out_10 : List Int) (out_19 : List Form) : St :=
  ⟨[(2, .ptr 0 0), (4, .ptr 1 0), (5, .lit (.int .i64 9)), (10, .ptr 2 0), (11, .ptr 3 0)],
   [(0, some (.box 38 [.lit (.int .i64 (a0.Inputs)), .sl 4 (a0.Units.map formC), .sl 4 (a0.Outputs.map formC)] true)),
    (1, some (.box 38 [.lit (.int .i64 0), .nl 4, .nl 4] false)),
    (2, some (.box 123 [.clo 107 [.mem (graphC a0), .mem [.sl 1 (out_10.map intI64C)]]] false)),
    (3, some (.box 38 [.lit (.int .i64 (a0.Inputs)), .own 4 out_19.length, .nl 4] false)),
    (4, some (.row 29 4 (out_19.map formC) 0))], 5⟩
def gPm_o19b (a0 : TGraph) (out_10 : List Int) (out_19 : List Form) : St :=
  ⟨[(2, .ptr 0 0), (4, .ptr 1 0), (5, .any), (10, .ptr 2 0), (11, .ptr 3 0)],
   [(0, some (.box 38 [.lit (.int .i64 (a0.Inputs)), .sl 4 (a0.Units.map formC), .sl 4 (a0.Outputs.map formC)] true)),
    (1, some (.box 38 [.lit (.int .i64 0), .nl 4, .nl 4] false)),
    (2, some (.box 123 [.clo 107 [.mem (graphC a0), .mem [.sl 1 (out_10.map intI64C)]]] false)),
    (3, some (.box 38 [.lit (.int .i64 (a0.Inputs)), .own 4 out_19.length, .nl 4] false)),
    (4, some (.row 29 4 (out_19.map formC) 0))], 5⟩
theorem gPm_r5_1 {n : Nat} {a0 : TGraph} {a1 : List Int} {i_5 : Nat} {out_5 : List Int} (C1 : (i_5 : Int) < (a1.length : Int)) (G2 : i_5 < out_5.length) (W4 : InI ((i_5 : Int) + 1)) :
    Cont 0 (exec Tryz.prog (tab (n + 93)) 0 106 (livesOf 45) big gPm_C5) (livesOf 45 5) (gPm_h5 a0 a1 i_5 out_5) (gPm_h5 a0 a1 (i_5 + 1) (out_5.set i_5 (-1))) := by
  have C1_ : i_5 < a1.length := by omega
  have W4_ : IntKind.i64.wrap ((i_5 : Int) + 1) = (i_5 : Int) + 1 := wr64 W4.1 W4.2
  unfold Cont
  simp +decide [gPm_h5, loopsOf, Tryz.f45, gPm_C5, C1, C1_, G2, W4_]
theorem gPm_x5_1 {n : Nat} {a0 : TGraph} {a1 : List Int} {i_5 : Nat} {out_5 : List Int} (C1 : ¬ (i_5 : Int) < (a1.length : Int)) :
    Leave 0 (exec Tryz.prog (tab (n + 93)) 0 106 (livesOf 45) big gPm_C5) (livesOf 45 (outOf 5)) (gPm_h5 a0 a1 i_5 out_5) (.exit 0) (gPm_o5a a0 a1 out_5) := by
  have C1_ : ¬ i_5 < a1.length := by omega
  unfold Leave
  simp +decide [gPm_h5, loopsOf, Tryz.f45, gPm_o5a, gPm_C5, C1, C1_]
theorem gPm_r10_1 {n : Nat} {a0 : TGraph} {a1 : List Int} {i_10 : Nat} {x5 : Int} {out_10 : List Int} {x6 : Int} (C1 : (i_10 : Int) < (a1.length : Int)) (E2 : a1[i_10]? = some x5) (C3 : ¬ x5 < 0) (C4 : ¬ (a1.length : Int) ≤ x5) (G5 : x5.toNat < out_10.length) (Z5 : 0 ≤ x5) (E6 : out_10[x5.toNat]? = some x6) (Z6 : 0 ≤ x5) (C7 : ¬ 0 ≤ x6) (W10 : InI ((i_10 : Int) + 1)) :
    Cont 0 (exec Tryz.prog (tab (n + 93)) 0 106 (livesOf 45) big gPm_C10) (livesOf 45 10) (gPm_h10 a0 a1 i_10 out_10) (gPm_h10 a0 a1 (i_10 + 1) (out_10.set x5.toNat (i_10 : Int))) := by
  have C1_ : i_10 < a1.length := by omega
  obtain ⟨EL2, EG2⟩ := List.getElem?_eq_some_iff.1 E2
  obtain ⟨EL6, EG6⟩ := List.getElem?_eq_some_iff.1 E6
  have W10_ : IntKind.i64.wrap ((i_10 : Int) + 1) = (i_10 : Int) + 1 := wr64 W10.1 W10.2
  unfold Cont
  simp +decide [gPm_h10, loopsOf, Tryz.f45, gPm_C10, C1, C1_, EL2, EG2, E2, C3, C4, G5, Z5, EL6, EG6, E6, Z6, C7, W10_]
theorem gPm_x10_1 {n : Nat} {a0 : TGraph} {a1 : List Int} {i_10 : Nat} {x5 : Int} {out_10 : List Int} (C1 : (i_10 : Int) < (a1.length : Int)) (E2 : a1[i_10]? = some x5) (C3 : x5 < 0) :
    Leave 0 (exec Tryz.prog (tab (n + 93)) 0 106 (livesOf 45) big gPm_C10) (livesOf 45 (outOf 10)) (gPm_h10 a0 a1 i_10 out_10) (.ret) (gPm_o10a a0 a1 out_10) := by
  have C1_ : i_10 < a1.length := by omega
  obtain ⟨EL2, EG2⟩ := List.getElem?_eq_some_iff.1 E2
  unfold Leave
  simp +decide [gPm_h10, loopsOf, Tryz.f45, gPm_o10a, gPm_C10, C1, C1_, EL2, EG2, E2, C3]
theorem gPm_x10_2 {n : Nat} {a0 : TGraph} {a1 : List Int} {i_10 : Nat} {x5 : Int} {out_10 : List Int} (C1 : (i_10 : Int) < (a1.length : Int)) (E2 : a1[i_10]? = some x5) (C3 : ¬ x5 < 0) (C4 : (a1.length : Int) ≤ x5) :
    Leave 0 (exec Tryz.prog (tab (n + 93)) 0 106 (livesOf 45) big gPm_C10) (livesOf 45 (outOf 10)) (gPm_h10 a0 a1 i_10 out_10) (.ret) (gPm_o10a a0 a1 out_10) := by
  have C1_ : i_10 < a1.length := by omega
  obtain ⟨EL2, EG2⟩ := List.getElem?_eq_some_iff.1 E2
  unfold Leave
  simp +decide [gPm_h10, loopsOf, Tryz.f45, gPm_o10a, gPm_C10, C1, C1_, EL2, EG2, E2, C3, C4]
theorem gPm_x10_3 {n : Nat} {a0 : TGraph} {a1 : List Int} {i_10 : Nat} {x5 : Int} {out_10 : List Int} {x6 : Int} (C1 : (i_10 : Int) < (a1.length : Int)) (E2 : a1[i_10]? = some x5) (C3 : ¬ x5 < 0) (C4 : ¬ (a1.length : Int) ≤ x5) (G5 : x5.toNat < out_10.length) (Z5 : 0 ≤ x5) (E6 : out_10[x5.toNat]? = some x6) (Z6 : 0 ≤ x5) (C7 : 0 ≤ x6) :
    Leave 0 (exec Tryz.prog (tab (n + 93)) 0 106 (livesOf 45) big gPm_C10) (livesOf 45 (outOf 10)) (gPm_h10 a0 a1 i_10 out_10) (.ret) (gPm_o10a a0 a1 out_10) := by
  have C1_ : i_10 < a1.length := by omega
  obtain ⟨EL2, EG2⟩ := List.getElem?_eq_some_iff.1 E2
  obtain ⟨EL6, EG6⟩ := List.getElem?_eq_some_iff.1 E6
  unfold Leave
  simp +decide [gPm_h10, loopsOf, Tryz.f45, gPm_o10a, gPm_C10, C1, C1_, EL2, EG2, E2, C3, C4, G5, Z5, EL6, EG6, E6, Z6, C7]
theorem gPm_x10_4 {n : Nat} {a0 : TGraph} {a1 : List Int} {i_10 : Nat} {out_10 : List Int} (C1 : ¬ (i_10 : Int) < (a1.length : Int)) :
    Leave 0 (exec Tryz.prog (tab (n + 93)) 0 106 (livesOf 45) big gPm_C10) (livesOf 45 (outOf 10)) (gPm_h10 a0 a1 i_10 out_10) (.exit 2) (gPm_o10b a0 a1 out_10) := by
  have C1_ : ¬ i_10 < a1.length := by omega
  unfold Leave
  simp +decide [gPm_h10, loopsOf, Tryz.f45, gPm_o10b, gPm_C10, C1, C1_]
theorem gPm_r19_1 {n : Nat} {a0 : TGraph} {a1 : List Int} {i_19 : Nat} {x9 : Int} {F3 : List (Int × Rat)} {q3 : Rat} {out_10 : List Int} {r6 : Form} {r7 : Bool} {out_19 : List Form} (C1 : (i_19 : Int) < (a1.length : Int)) (E2 : a1[i_19]? = some x9) (E3 : a0.Units[x9.toNat]? = some (F3, q3)) (Z3 : 0 ≤ x9) (K4 : run (n + 92) 108 [formV (F3, q3), .clo 107 [.mem (graphC a0), .mem [.sl 1 (out_10.map intI64C)]]] = some (formV r6)) (W5 : InI (a0.Inputs + (i_19 : Int))) (K6 : run (n + 92) 60 [formV r6, .lit (.int .i64 (a0.Inputs + (i_19 : Int)))] = some (.lit (.bool r7))) (C7 : r7 = true) (M8 : out_19.length + 1 ≤ 100000000) (W9 : InI ((i_19 : Int) + 1)) :
    Cont 0 (exec Tryz.prog (tab (n + 93)) 0 106 (livesOf 45) big gPm_C19) (livesOf 45 19) (gPm_h19 a0 a1 i_19 out_10 out_19) (gPm_h19 a0 a1 (i_19 + 1) out_10 (out_19 ++ [r6])) := by
  have C1_ : i_19 < a1.length := by omega
  obtain ⟨EL2, EG2⟩ := List.getElem?_eq_some_iff.1 E2
  obtain ⟨EL3, EG3⟩ := List.getElem?_eq_some_iff.1 E3
  simp only [formV, graphC] at K4
  have W5_ : IntKind.i64.wrap (a0.Inputs + (i_19 : Int)) = a0.Inputs + (i_19 : Int) := wr64 W5.1 W5.2
  simp only [formV] at K6
  have M8_ : ∀ b, b ≤ 10000 → roomy (out_19.length + 1) b = true := fun b hb => roomy_s M8 hb
  have W9_ : IntKind.i64.wrap ((i_19 : Int) + 1) = (i_19 : Int) + 1 := wr64 W9.1 W9.2
  unfold Cont
  simp +decide [gPm_h19, loopsOf, Tryz.f45, gPm_C19, C1, C1_, EL2, EG2, E2, EL3, EG3, E3, Z3, K4, W5_, K6, C7, M8_, W9_]
theorem gPm_x19_1 {n : Nat} {a0 : TGraph} {a1 : List Int} {i_19 : Nat} {x9 : Int} {F3 : List (Int × Rat)} {q3 : Rat} {out_10 : List Int} {r6 : Form} {r7 : Bool} {out_19 : List Form} (C1 : (i_19 : Int) < (a1.length : Int)) (E2 : a1[i_19]? = some x9) (E3 : a0.Units[x9.toNat]? = some (F3, q3)) (Z3 : 0 ≤ x9) (K4 : run (n + 92) 108 [formV (F3, q3), .clo 107 [.mem (graphC a0), .mem [.sl 1 (out_10.map intI64C)]]] = some (formV r6)) (W5 : InI (a0.Inputs + (i_19 : Int))) (K6 : run (n + 92) 60 [formV r6, .lit (.int .i64 (a0.Inputs + (i_19 : Int)))] = some (.lit (.bool r7))) (C7 : r7 = false) :
    Leave 0 (exec Tryz.prog (tab (n + 93)) 0 106 (livesOf 45) big gPm_C19) (livesOf 45 (outOf 19)) (gPm_h19 a0 a1 i_19 out_10 out_19) (.ret) (gPm_o19a a0 out_10 out_19) := by
  have C1_ : i_19 < a1.length := by omega
  obtain ⟨EL2, EG2⟩ := List.getElem?_eq_some_iff.1 E2
  obtain ⟨EL3, EG3⟩ := List.getElem?_eq_some_iff.1 E3
  simp only [formV, graphC] at K4
  have W5_ : IntKind.i64.wrap (a0.Inputs + (i_19 : Int)) = a0.Inputs + (i_19 : Int) := wr64 W5.1 W5.2
  simp only [formV] at K6
  unfold Leave
  simp +decide [gPm_h19, loopsOf, Tryz.f45, gPm_o19a, gPm_C19, C1, C1_, EL2, EG2, E2, EL3, EG3, E3, Z3, K4, W5_, K6, C7]
theorem gPm_x19_2 {n : Nat} {a0 : TGraph} {a1 : List Int} {i_19 : Nat} {out_10 : List Int} {out_19 : List Form} (C1 : ¬ (i_19 : Int) < (a1.length : Int)) :
    Leave 0 (exec Tryz.prog (tab (n + 93)) 0 106 (livesOf 45) big gPm_C19) (livesOf 45 (outOf 19)) (gPm_h19 a0 a1 i_19 out_10 out_19) (.exit 4) (gPm_o19b a0 out_10 out_19) := by
  have C1_ : ¬ i_19 < a1.length := by omega
  unfold Leave
  simp +decide [gPm_h19, loopsOf, Tryz.f45, gPm_o19b, gPm_C19, C1, C1_]
theorem gPm_f2 {n : Nat} {a0 : TGraph} {a1 : List Int} {r : Bool} (K1 : run (n + 92) 41 [graphV a0] = some (.lit (.bool r))) (C2 : r = true) (C3 : ¬ (a1.length : Int) = (a0.Units.length : Int)) :
    run (n + 93) 45 [graphV a0, .sl 1 (a1.map intI64C)] = some (.tup [.agg [.lit (.int .i64 0), .sl 4 [], .sl 4 []], .lit (.int .i64 1)]) := by
  simp only [graphV] at K1
  have C3_ : ((a1.length : Int) == (a0.Units.length : Int)) = false := by simpa using C3
  have C3_n : ((a1.length : Int) != (a0.Units.length : Int)) = true := by simpa using C3
  unfold run fnP
  simp +decide [Tryz.f45, K1, C2, C3_, C3_n]
theorem gPm_f3 {n : Nat} {a0 : TGraph} {a1 : List Int} {r : Bool} {out_5 : List Int} {out_10 : List Int} (K1 : run (n + 92) 41 [graphV a0] = some (.lit (.bool r))) (C2 : r = true) (C3 : (a1.length : Int) = (a0.Units.length : Int)) (M4 : a1.length ≤ 100000000) (L5 : loopG Tryz.prog (tab (n + 93)) 0 106 (livesOf 45) 5 gPm_C5 (gPm_h5 a0 a1 0 (List.replicate a1.length 0)) = some (.exit 0, gPm_o5a a0 a1 out_5)) (L6 : loopG Tryz.prog (tab (n + 93)) 0 106 (livesOf 45) 10 gPm_C10 (gPm_h10 a0 a1 0 out_5) = some (.ret, gPm_o10a a0 a1 out_10)) :
    run (n + 93) 45 [graphV a0, .sl 1 (a1.map intI64C)] = some (.tup [.agg [.lit (.int .i64 0), .sl 4 [], .sl 4 []], .lit (.int .i64 1)]) := by
  simp only [graphV] at K1
  have C3_ : ((a1.length : Int) == (a0.Units.length : Int)) = true := by rw [C3]; simp
  have C3_n : ((a1.length : Int) != (a0.Units.length : Int)) = false := by rw [C3]; simp
  have M4_ : ∀ b, b ≤ 10000 → roomy (a1.length) b = true := fun b hb => roomy_s M4 hb
  unfold run fnP
  simp +decide [Tryz.f45, K1, C2, C3_, C3_n, M4_]
  rw [loopX_G (C' := gPm_C5) (e := (gPm_h5 a0 a1 0 (List.replicate a1.length 0))) ?_ ?_, L5]
  rotate_left
  · kernel_rfl
  · simp +decide [gPm_h5, K1, C2, C3_, C3_n, M4_]
  simp +decide [gPm_o5a, K1, C2, C3_, C3_n, M4_]
  rw [loopX_G (C' := gPm_C10) (e := (gPm_h10 a0 a1 0 out_5)) ?_ ?_, L6]
  rotate_left
  · kernel_rfl
  · simp +decide [gPm_h10, K1, C2, C3_, C3_n, M4_]
  simp +decide [gPm_o10a, K1, C2, C3_, C3_n, M4_]
theorem gPm_f4 {n : Nat} {a0 : TGraph} {a1 : List Int} {r : Bool} {out_5 : List Int} {out_10 : List Int} {out_19 : List Form} (K1 : run (n + 92) 41 [graphV a0] = some (.lit (.bool r))) (C2 : r = true) (C3 : (a1.length : Int) = (a0.Units.length : Int)) (M4 : a1.length ≤ 100000000) (L5 : loopG Tryz.prog (tab (n + 93)) 0 106 (livesOf 45) 5 gPm_C5 (gPm_h5 a0 a1 0 (List.replicate a1.length 0)) = some (.exit 0, gPm_o5a a0 a1 out_5)) (L6 : loopG Tryz.prog (tab (n + 93)) 0 106 (livesOf 45) 10 gPm_C10 (gPm_h10 a0 a1 0 out_5) = some (.exit 2, gPm_o10b a0 a1 out_10)) (L7 : loopG Tryz.prog (tab (n + 93)) 0 106 (livesOf 45) 19 gPm_C19 (gPm_h19 a0 a1 0 out_10 []) = some (.ret, gPm_o19a a0 out_10 out_19)) :
    run (n + 93) 45 [graphV a0, .sl 1 (a1.map intI64C)] = some (.tup [.agg [.lit (.int .i64 0), .sl 4 [], .sl 4 []], .lit (.int .i64 9)]) := by
  simp only [graphV] at K1
  have C3_ : ((a1.length : Int) == (a0.Units.length : Int)) = true := by rw [C3]; simp
  have C3_n : ((a1.length : Int) != (a0.Units.length : Int)) = false := by rw [C3]; simp
  have M4_ : ∀ b, b ≤ 10000 → roomy (a1.length) b = true := fun b hb => roomy_s M4 hb
  unfold run fnP
  simp +decide [Tryz.f45, K1, C2, C3_, C3_n, M4_]
  rw [loopX_G (C' := gPm_C5) (e := (gPm_h5 a0 a1 0 (List.replicate a1.length 0))) ?_ ?_, L5]
  rotate_left
  · kernel_rfl
  · simp +decide [gPm_h5, K1, C2, C3_, C3_n, M4_]
  simp +decide [gPm_o5a, K1, C2, C3_, C3_n, M4_]
  rw [loopX_G (C' := gPm_C10) (e := (gPm_h10 a0 a1 0 out_5)) ?_ ?_, L6]
  rotate_left
  · kernel_rfl
  · simp +decide [gPm_h10, K1, C2, C3_, C3_n, M4_]
  simp +decide [gPm_o10b, K1, C2, C3_, C3_n, M4_]
  rw [loopX_G (C' := gPm_C19) (e := (gPm_h19 a0 a1 0 out_10 [])) ?_ ?_, L7]
  rotate_left
  · kernel_rfl
  · simp +decide [gPm_h19, K1, C2, C3_, C3_n, M4_]
  simp +decide [gPm_o19a, K1, C2, C3_, C3_n, M4_]
theorem gPm_f5 {n : Nat} {a0 : TGraph} {a1 : List Int} {r : Bool} {out_5 : List Int} {out_10 : List Int} {out_19 : List Form} {R : List Form} (K1 : run (n + 92) 41 [graphV a0] = some (.lit (.bool r))) (C2 : r = true) (C3 : (a1.length : Int) = (a0.Units.length : Int)) (M4 : a1.length ≤ 100000000) (L5 : loopG Tryz.prog (tab (n + 93)) 0 106 (livesOf 45) 5 gPm_C5 (gPm_h5 a0 a1 0 (List.replicate a1.length 0)) = some (.exit 0, gPm_o5a a0 a1 out_5)) (L6 : loopG Tryz.prog (tab (n + 93)) 0 106 (livesOf 45) 10 gPm_C10 (gPm_h10 a0 a1 0 out_5) = some (.exit 2, gPm_o10b a0 a1 out_10)) (L7 : loopG Tryz.prog (tab (n + 93)) 0 106 (livesOf 45) 19 gPm_C19 (gPm_h19 a0 a1 0 out_10 []) = some (.exit 4, gPm_o19b a0 out_10 out_19)) (K8 : runL (n + 92) 83 [.sl 4 (a0.Outputs.map formC), .clo 109 [.mem [.clo 107 [.mem (graphC a0), .mem [.sl 1 (out_10.map intI64C)]]]]] [] = some (.own 0 R.length, [(0, .row 29 4 (R.map formC) 0)])) :
    run (n + 93) 45 [graphV a0, .sl 1 (a1.map intI64C)] = some (.tup [.agg [.lit (.int .i64 (a0.Inputs)), .sl 4 (out_19.map formC), .sl 4 (R.map formC)], .lit (.int .i64 0)]) := by
  simp only [graphV] at K1
  have C3_ : ((a1.length : Int) == (a0.Units.length : Int)) = true := by rw [C3]; simp
  have C3_n : ((a1.length : Int) != (a0.Units.length : Int)) = false := by rw [C3]; simp
  have M4_ : ∀ b, b ≤ 10000 → roomy (a1.length) b = true := fun b hb => roomy_s M4 hb
  simp only [graphC] at K8
  unfold run fnP
  simp +decide [Tryz.f45, K1, C2, C3_, C3_n, M4_, K8]
  rw [loopX_G (C' := gPm_C5) (e := (gPm_h5 a0 a1 0 (List.replicate a1.length 0))) ?_ ?_, L5]
  rotate_left
  · kernel_rfl
  · simp +decide [gPm_h5, K1, C2, C3_, C3_n, M4_, K8]
  simp +decide [gPm_o5a, K1, C2, C3_, C3_n, M4_, K8]
  rw [loopX_G (C' := gPm_C10) (e := (gPm_h10 a0 a1 0 out_5)) ?_ ?_, L6]
  rotate_left
  · kernel_rfl
  · simp +decide [gPm_h10, K1, C2, C3_, C3_n, M4_, K8]
  simp +decide [gPm_o10b, K1, C2, C3_, C3_n, M4_, K8]
  rw [loopX_G (C' := gPm_C19) (e := (gPm_h19 a0 a1 0 out_10 [])) ?_ ?_, L7]
  rotate_left
  · kernel_rfl
  · simp +decide [gPm_h19, K1, C2, C3_, C3_n, M4_, K8]
  simp +decide [gPm_o19b, K1, C2, C3_, C3_n, M4_, K8]
end Go.Proofs.YtlpmemelhlnfbaaGreatDoor
set_option linter.all false
set_option maxRecDepth 100000
namespace Go.Proofs.YtlpmemelhlnfbaaGreatDoor
open Go.RowKit
theorem awake15_c {n : Nat} : run 16 18 [] = some (.lit (.bool true)) := by kernel_rfl
end Go.Proofs.YtlpmemelhlnfbaaGreatDoor
set_option linter.all false
namespace Go.Proofs.YtlpmemelhlnfbaaGreatDoor
open Go.RowKit

def awG (args : List AV) : Option AV := match args with | [] => some (.lit (.bool true)) | _ => none
theorem con_awake : ∀ args r, awG args = some r → Con Tryz.prog 18 args r := fun args r hr => by
  unfold awG at hr
  split at hr
  · cases hr
    exact ((tab_ok 17).pure _ _ (tb_18 16)).2 _ _ (awake15_c (n := 0))
  · cases hr
end Go.Proofs.YtlpmemelhlnfbaaGreatDoor
