/- Walks: relucertref15.unit, relucertref15.substituted, relucertref15.Scale@2. Walks: graph.check, graph.variable, graph.Scale$1, graph.each~1:graph.Scale$1, graph.Scale@2. Walks: rational.Div@1, relucertref03.Div@1. Walks: relucertref07.Scale@1. -/
import Derived.Test.YtlpmemelhlnfbaaGreatDoorGA5
set_option linter.all false
set_option linter.all false
set_option maxRecDepth 100000
set_option maxHeartbeats 6400000
namespace Go.Proofs.YtlpmemelhlnfbaaGreatDoor
open Go.RowKit

/-! relucertref15.unit, level 3 -/
theorem unt_f2 {n : Nat} {a0 : TGraph} {a1 : Int} {r : Bool} (K1 : run (n + 2) 25 [graphV a0] = some (.lit (.bool r))) (C2 : r = true) (C3 : a1 < 0) :
    run (n + 3) 85 [graphV a0, .lit (.int .i64 a1)] = some (.lit (.int .i64 2)) := by
  simp only [graphV] at K1
  unfold run fnP
  simp +decide [Tryz.f85, K1, C2, C3]
theorem unt_f3 {n : Nat} {a0 : TGraph} {a1 : Int} {r : Bool} (K1 : run (n + 2) 25 [graphV a0] = some (.lit (.bool r))) (C2 : r = true) (C3 : ¬ a1 < 0) (C4 : (a0.Units.length : Int) ≤ a1) :
    run (n + 3) 85 [graphV a0, .lit (.int .i64 a1)] = some (.lit (.int .i64 2)) := by
  simp only [graphV] at K1
  unfold run fnP
  simp +decide [Tryz.f85, K1, C2, C3, C4]
theorem unt_f4 {n : Nat} {a0 : TGraph} {a1 : Int} {r : Bool} (K1 : run (n + 2) 25 [graphV a0] = some (.lit (.bool r))) (C2 : r = true) (C3 : ¬ a1 < 0) (C4 : ¬ (a0.Units.length : Int) ≤ a1) :
    run (n + 3) 85 [graphV a0, .lit (.int .i64 a1)] = some (.lit (.int .i64 0)) := by
  simp only [graphV] at K1
  unfold run fnP
  simp +decide [Tryz.f85, K1, C2, C3, C4]
/-! relucertref15.substituted, level 4 -/
noncomputable def sbt_C3 : Code := (loopsOf (bodyOf Tryz.f89)).getD 0 .skip
def sbt_h3 (a0 : List Form) (a1 : Int) (a2 : Form) (out_3 : List Form) (i_3 : Nat) : St :=
  ⟨[(0, .sl 4 (a0.map formC)), (1, .lit (.int .i64 a1)), (5, .ptr 0 0), (7, .own 1 out_3.length), (8, .lit (.int .i64 (i_3 : Int)))],
   [(0, some (.box 29 [.sl 4 (a2.1.map termC), .lit (.bool (rawQ a2.2).s), natA (rawQ a2.2).l1, natA (rawQ a2.2).l2] false)),
    (1, some (.row 29 4 (out_3.map formC) 0))], 2⟩
def sbt_o3a (out_3 : List Form) : St :=
  ⟨[(7, .own 0 out_3.length)],
   [(0, some (.row 29 4 (out_3.map formC) 0))], 1⟩
theorem sbt_r3_1 {n : Nat} {a0 : List Form} {a1 : Int} {a2 : Form} {i_3 : Nat} {F3 : List (Int × Rat)} {q3 : Rat} {r3 : Form} {out_3 : List Form} (C1 : (i_3 : Int) < (a0.length : Int)) (E2 : a0[i_3]? = some (F3, q3)) (K3 : run (n + 3) 117 [formV (F3, q3), .lit (.int .i64 a1), formV a2] = some (formV r3)) (M4 : out_3.length + 1 ≤ 100000000) (W5 : InI ((i_3 : Int) + 1)) :
    Cont 0 (exec Tryz.prog (tab (n + 4)) 0 26 (livesOf 89) big sbt_C3) (livesOf 89 3) (sbt_h3 a0 a1 a2 out_3 i_3) (sbt_h3 a0 a1 a2 (out_3 ++ [r3]) (i_3 + 1)) := by
  have C1_ : i_3 < a0.length := by omega
  obtain ⟨EL2, EG2⟩ := List.getElem?_eq_some_iff.1 E2
  simp only [formV] at K3
  have M4_ : ∀ b, b ≤ 10000 → roomy (out_3.length + 1) b = true := fun b hb => roomy_s M4 hb
  have W5_ : IntKind.i64.wrap ((i_3 : Int) + 1) = (i_3 : Int) + 1 := wr64 W5.1 W5.2
  unfold Cont
  simp +decide [sbt_h3, loopsOf, Tryz.f89, sbt_C3, C1, C1_, EL2, EG2, E2, K3, M4_, W5_]
theorem sbt_x3_1 {n : Nat} {a0 : List Form} {a1 : Int} {a2 : Form} {i_3 : Nat} {out_3 : List Form} (C1 : ¬ (i_3 : Int) < (a0.length : Int)) :
    Leave 0 (exec Tryz.prog (tab (n + 4)) 0 26 (livesOf 89) big sbt_C3) (livesOf 89 (outOf 3)) (sbt_h3 a0 a1 a2 out_3 i_3) (.exit 0) (sbt_o3a out_3) := by
  have C1_ : ¬ i_3 < a0.length := by omega
  unfold Leave
  simp +decide [sbt_h3, loopsOf, Tryz.f89, sbt_o3a, sbt_C3, C1, C1_]
theorem sbt_f1 {n : Nat} {a0 : List Form} {a1 : Int} {a2 : Form} {out_3 : List Form} (L1 : loopG Tryz.prog (tab (n + 4)) 0 26 (livesOf 89) 3 sbt_C3 (sbt_h3 a0 a1 a2 [] 0) = some (.exit 0, sbt_o3a out_3)) :
    runL (n + 4) 89 [.sl 4 (a0.map formC), .lit (.int .i64 a1), formV a2] [] = some (.own 0 out_3.length, [(0, .row 29 4 (out_3.map formC) 0)]) := by
  unfold runL fnL
  simp +decide [Tryz.f89]
  rw [loopX_G (C' := sbt_C3) (e := (sbt_h3 a0 a1 a2 [] 0)) ?_ ?_, L1]
  rotate_left
  · kernel_rfl
  · simp +decide [sbt_h3]
  simp +decide [sbt_o3a]
/-! relucertref15.Scale, level 7 -/
theorem fSc_f2 {n : Nat} {a0 : TGraph} {a1 : Int} {a2 : Raw} {r : Bool} (K1 : run (n + 6) 25 [graphV a0] = some (.lit (.bool r))) (C2 : r = true) (B3a : RawB a2) (C4 : sgR a2.q ≤ 0) :
    run (n + 7) 23 [graphV a0, .lit (.int .i64 a1), .agg [.lit (.bool a2.s), natA a2.l1, natA a2.l2]] = some (.tup [.agg [.lit (.int .i64 0), .sl 4 [], .sl 4 []], .lit (.int .i64 1)]) := by
  simp only [graphV] at K1
  have K3 := rr_sign B3a
  unfold run fnP
  simp +decide [Tryz.f23, K1, C2, K3, C4]
theorem fSc_f3 {n : Nat} {a0 : TGraph} {a1 : Int} {a2 : Raw} {r : Bool} {r2 : Int} (K1 : run (n + 6) 25 [graphV a0] = some (.lit (.bool r))) (C2 : r = true) (B3a : RawB a2) (C4 : ¬ sgR a2.q ≤ 0) (K5 : run (n + 6) 85 [graphV a0, .lit (.int .i64 a1)] = some (.lit (.int .i64 r2))) (C6 : ¬ r2 = 0) :
    run (n + 7) 23 [graphV a0, .lit (.int .i64 a1), .agg [.lit (.bool a2.s), natA a2.l1, natA a2.l2]] = some (.tup [.agg [.lit (.int .i64 0), .sl 4 [], .sl 4 []], .lit (.int .i64 r2)]) := by
  simp only [graphV] at K1
  have K3 := rr_sign B3a
  simp only [graphV] at K5
  have C6_ : (r2 == 0) = false := by simpa using C6
  have C6_n : (r2 != 0) = true := by simpa using C6
  unfold run fnP
  simp +decide [Tryz.f23, K1, C2, K3, C4, K5, C6_, C6_n]
theorem fSc_f4 {n : Nat} {a0 : TGraph} {a1 : Int} {a2 : Raw} {r : Bool} {r2 : Int} {r3 : Rat} {r4 : Int} {r5 : Form} {r6 : Form} {R : List Form} {R2 : List Form} {F : List (Int × Rat)} {q : Rat} {r7 : Form} (K1 : run (n + 6) 25 [graphV a0] = some (.lit (.bool r))) (C2 : r = true) (B3a : RawB a2) (C4 : ¬ sgR a2.q ≤ 0) (K5 : run (n + 6) 85 [graphV a0, .lit (.int .i64 a1)] = some (.lit (.int .i64 r2))) (C6 : r2 = 0) (K8 : run (n + 6) 86 [ratV (ofQ 1), .agg [.lit (.bool a2.s), natA a2.l1, natA a2.l2]] = some (.tup [ratV r3, .lit (.int .i64 r4)])) (W9 : InI (a0.Inputs + a1)) (K10 : run (n + 6) 88 [.lit (.int .i64 (a0.Inputs + a1))] = some (formV r5)) (K11 : run (n + 6) 87 [formV r5, ratV r3] = some (formV r6)) (K13 : runL (n + 6) 89 [.sl 4 (a0.Units.map formC), .lit (.int .i64 (a0.Inputs + a1)), formV r6] [] = some (.own 0 R.length, [(0, .row 29 4 (R.map formC) 0)])) (K15 : runL (n + 6) 89 [.sl 4 (a0.Outputs.map formC), .lit (.int .i64 (a0.Inputs + a1)), formV r6] [] = some (.own 0 R2.length, [(0, .row 29 4 (R2.map formC) 0)])) (E16 : a0.Units[a1.toNat]? = some (F, q)) (Z16 : 0 ≤ a1) (K17 : run (n + 6) 87 [formV (F, q), .agg [.lit (.bool a2.s), natA a2.l1, natA a2.l2]] = some (formV r7)) (G18 : a1.toNat < R.length) (Z18 : 0 ≤ a1) :
    run (n + 7) 23 [graphV a0, .lit (.int .i64 a1), .agg [.lit (.bool a2.s), natA a2.l1, natA a2.l2]] = some (.tup [.agg [.lit (.int .i64 (a0.Inputs)), .sl 4 ((R.set a1.toNat r7).map formC), .sl 4 (R2.map formC)], .lit (.int .i64 0)]) := by
  simp only [graphV] at K1
  have K3 := rr_sign B3a
  simp only [graphV] at K5
  have C6_ : (r2 == 0) = true := by rw [C6]; simp
  have C6_n : (r2 != 0) = false := by rw [C6]; simp
  have K7 := r_ofq (z := 1) (by omega) (by omega)
  simp only [ratV] at K8
  have W9_ : IntKind.i64.wrap (a0.Inputs + a1) = a0.Inputs + a1 := wr64 W9.1 W9.2
  simp only [formV] at K10
  simp only [ratV, formV] at K11
  simp only [formV] at K13
  simp only [formV] at K15
  obtain ⟨EL16, EG16⟩ := List.getElem?_eq_some_iff.1 E16
  simp only [formV] at K17
  unfold run fnP
  simp +decide [Tryz.f23, K1, C2, K3, C4, K5, C6_, C6_n, K7, K8, W9_, K10, K11, K13, K15, EL16, EG16, E16, Z16, K17, G18, Z18]
end Go.Proofs.YtlpmemelhlnfbaaGreatDoor
set_option linter.all false
set_option maxRecDepth 100000
set_option maxHeartbeats 6400000
namespace Go.Proofs.YtlpmemelhlnfbaaGreatDoor
open Go.RowKit

/-! graph.check, level 6 -/
theorem gck_f1 {n : Nat} {a0 : TGraph} {a1 : Int} {a2 : Bool} {r : Bool} (K1 : run (n + 5) 41 [graphV a0] = some (.lit (.bool r))) (C2 : r = false) :
    run (n + 6) 76 [graphV a0, .lit (.int .i64 a1), .lit (.bool a2)] = some (.lit (.int .i64 1)) := by
  simp only [graphV] at K1
  unfold run fnP
  simp +decide [Tryz.f76, K1, C2]
theorem gck_f2 {n : Nat} {a0 : TGraph} {a1 : Int} {a2 : Bool} {r : Bool} (K1 : run (n + 5) 41 [graphV a0] = some (.lit (.bool r))) (C2 : r = true) (C3 : a2 = false) :
    run (n + 6) 76 [graphV a0, .lit (.int .i64 a1), .lit (.bool a2)] = some (.lit (.int .i64 1)) := by
  simp only [graphV] at K1
  unfold run fnP
  simp +decide [Tryz.f76, K1, C2, C3]
theorem gck_f3 {n : Nat} {a0 : TGraph} {a1 : Int} {a2 : Bool} {r : Bool} (K1 : run (n + 5) 41 [graphV a0] = some (.lit (.bool r))) (C2 : r = true) (C3 : a2 = true) (C4 : a1 < 0) :
    run (n + 6) 76 [graphV a0, .lit (.int .i64 a1), .lit (.bool a2)] = some (.lit (.int .i64 2)) := by
  simp only [graphV] at K1
  unfold run fnP
  simp +decide [Tryz.f76, K1, C2, C3, C4]
theorem gck_f4 {n : Nat} {a0 : TGraph} {a1 : Int} {a2 : Bool} {r : Bool} (K1 : run (n + 5) 41 [graphV a0] = some (.lit (.bool r))) (C2 : r = true) (C3 : a2 = true) (C4 : ¬ a1 < 0) (C5 : (a0.Units.length : Int) ≤ a1) :
    run (n + 6) 76 [graphV a0, .lit (.int .i64 a1), .lit (.bool a2)] = some (.lit (.int .i64 2)) := by
  simp only [graphV] at K1
  unfold run fnP
  simp +decide [Tryz.f76, K1, C2, C3, C4, C5]
theorem gck_f5 {n : Nat} {a0 : TGraph} {a1 : Int} {a2 : Bool} {r : Bool} (K1 : run (n + 5) 41 [graphV a0] = some (.lit (.bool r))) (C2 : r = true) (C3 : a2 = true) (C4 : ¬ a1 < 0) (C5 : ¬ (a0.Units.length : Int) ≤ a1) :
    run (n + 6) 76 [graphV a0, .lit (.int .i64 a1), .lit (.bool a2)] = some (.lit (.int .i64 0)) := by
  simp only [graphV] at K1
  unfold run fnP
  simp +decide [Tryz.f76, K1, C2, C3, C4, C5]
/-! graph.variable, level 0 -/
theorem gvr_f1 {n : Nat} {a0 : Int} {a1 : Rat}  :
    run n 82 [.lit (.int .i64 a0), ratV a1] = some (.agg [.sl 4 [[.lit (.int .i64 a0), .lit (.bool (rawQ a1).s), natA (rawQ a1).l1, natA (rawQ a1).l2]], .lit (.bool false), .sl 1 [], .sl 1 []]) := by
  unfold run fnP
  simp +decide [Tryz.f82]
/-! graph.Scale$1, level 3 -/
theorem gsc_f1 {n : Nat} {a0 : Form} {c0 : Int} {c1 : Rat} {r : Form} {r2 : Form} (K1 : run (n + 2) 82 [.lit (.int .i64 c0), ratV c1] = some (formV r)) (K2 : run (n + 2) 81 [formV a0, .lit (.int .i64 c0), formV r] = some (formV r2)) :
    run (n + 3) 80 [formV a0, .mem [.lit (.int .i64 c0)], .mem [.lit (.bool (rawQ c1).s), natA (rawQ c1).l1, natA (rawQ c1).l2]] = some (formV r2) := by
  simp only [ratV, formV] at K1
  simp only [formV] at K2
  unfold run fnP
  simp +decide [Tryz.f80, K1, K2]
/-! graph.each, level 4 -/
noncomputable def each_C3 : Code := (loopsOf (bodyOf Tryz.f83)).getD 0 .skip
def each_h3 (a0 : List Form) (c0 : Int) (c1 : Rat) (out_3 : List Form) (i_3 : Nat) : St :=
  ⟨[(1, .clo 80 [.mem [.lit (.int .i64 c0)], .mem [.lit (.bool (rawQ c1).s), natA (rawQ c1).l1, natA (rawQ c1).l2]]), (5, .own 0 out_3.length), (8, .sl 4 (a0.map formC)), (9, .lit (.int .i64 (a0.length : Int))), (10, .lit (.int .i64 (i_3 : Int)))],
   [(0, some (.row 29 4 (out_3.map formC) 0))], 1⟩
def each_o3a (out_3 : List Form) : St :=
  ⟨[(5, .own 0 out_3.length)],
   [(0, some (.row 29 4 (out_3.map formC) 0))], 1⟩
theorem each_r3_1 {n : Nat} {a0 : List Form} {c0 : Int} {c1 : Rat} {i_3 : Nat} {F3 : List (Int × Rat)} {q3 : Rat} {r3 : Form} {out_3 : List Form} (C1 : (i_3 : Int) < (a0.length : Int)) (E2 : a0[i_3]? = some (F3, q3)) (K3 : run (n + 3) 80 [formV (F3, q3), .mem [.lit (.int .i64 c0)], .mem [.lit (.bool (rawQ c1).s), natA (rawQ c1).l1, natA (rawQ c1).l2]] = some (formV r3)) (M4 : out_3.length + 1 ≤ 100000000) (W5 : InI ((i_3 : Int) + 1)) :
    Cont 0 (exec Tryz.prog (tab (n + 4)) 0 22 (livesOf 83) big each_C3) (livesOf 83 3) (each_h3 a0 c0 c1 out_3 i_3) (each_h3 a0 c0 c1 (out_3 ++ [r3]) (i_3 + 1)) := by
  have C1_ : i_3 < a0.length := by omega
  obtain ⟨EL2, EG2⟩ := List.getElem?_eq_some_iff.1 E2
  simp only [formV] at K3
  have M4_ : ∀ b, b ≤ 10000 → roomy (out_3.length + 1) b = true := fun b hb => roomy_s M4 hb
  have W5_ : IntKind.i64.wrap ((i_3 : Int) + 1) = (i_3 : Int) + 1 := wr64 W5.1 W5.2
  unfold Cont
  simp +decide [each_h3, loopsOf, Tryz.f83, each_C3, C1, C1_, EL2, EG2, E2, K3, M4_, W5_]
theorem each_x3_1 {n : Nat} {a0 : List Form} {c0 : Int} {c1 : Rat} {i_3 : Nat} {out_3 : List Form} (C1 : ¬ (i_3 : Int) < (a0.length : Int)) :
    Leave 0 (exec Tryz.prog (tab (n + 4)) 0 22 (livesOf 83) big each_C3) (livesOf 83 (outOf 3)) (each_h3 a0 c0 c1 out_3 i_3) (.exit 0) (each_o3a out_3) := by
  have C1_ : ¬ i_3 < a0.length := by omega
  unfold Leave
  simp +decide [each_h3, loopsOf, Tryz.f83, each_o3a, each_C3, C1, C1_]
theorem each_f1 {n : Nat} {a0 : List Form} {c0 : Int} {c1 : Rat} {out_3 : List Form} (L1 : loopG Tryz.prog (tab (n + 4)) 0 22 (livesOf 83) 3 each_C3 (each_h3 a0 c0 c1 [] 0) = some (.exit 0, each_o3a out_3)) :
    runL (n + 4) 83 [.sl 4 (a0.map formC), .clo 80 [.mem [.lit (.int .i64 c0)], .mem [.lit (.bool (rawQ c1).s), natA (rawQ c1).l1, natA (rawQ c1).l2]]] [] = some (.own 0 out_3.length, [(0, .row 29 4 (out_3.map formC) 0)]) := by
  unfold runL fnL
  simp +decide [Tryz.f83]
  rw [loopX_G (C' := each_C3) (e := (each_h3 a0 c0 c1 [] 0)) ?_ ?_, L1]
  rotate_left
  · kernel_rfl
  · simp +decide [each_h3]
  simp +decide [each_o3a]
/-! graph.Scale, level 7 -/
theorem gSc_f1 {n : Nat} {a0 : TGraph} {a1 : Int} {a2 : Raw} {r : Int} (B1a : RawB a2) (K2 : run (n + 6) 76 [graphV a0, .lit (.int .i64 a1), .lit (.bool (decide (0 < sgR a2.q)))] = some (.lit (.int .i64 r))) (C3 : ¬ r = 0) :
    run (n + 7) 21 [graphV a0, .lit (.int .i64 a1), .agg [.lit (.bool a2.s), natA a2.l1, natA a2.l2]] = some (.tup [.agg [.lit (.int .i64 0), .sl 4 [], .sl 4 []], .lit (.int .i64 r)]) := by
  have K1 := rr_sign B1a
  simp only [graphV] at K2
  have C3_ : (r == 0) = false := by simpa using C3
  have C3_n : (r != 0) = true := by simpa using C3
  unfold run fnP
  simp +decide [Tryz.f21, K1, K2, C3_, C3_n]
theorem gSc_f2 {n : Nat} {a0 : TGraph} {a1 : Int} {a2 : Raw} {r : Int} {r2 : Rat} {r3 : Int} {R : List Form} {R2 : List Form} {F : List (Int × Rat)} {q : Rat} {r4 : Form} (B1a : RawB a2) (K2 : run (n + 6) 76 [graphV a0, .lit (.int .i64 a1), .lit (.bool (decide (0 < sgR a2.q)))] = some (.lit (.int .i64 r))) (C3 : r = 0) (W4 : InI (a0.Inputs + a1)) (K6 : run (n + 6) 78 [ratV (ofQ 1), .agg [.lit (.bool a2.s), natA a2.l1, natA a2.l2]] = some (.tup [ratV r2, .lit (.int .i64 r3)])) (K7 : runL (n + 6) 83 [.sl 4 (a0.Units.map formC), .clo 80 [.mem [.lit (.int .i64 (a0.Inputs + a1))], .mem [.lit (.bool (rawQ r2).s), natA (rawQ r2).l1, natA (rawQ r2).l2]]] [] = some (.own 0 R.length, [(0, .row 29 4 (R.map formC) 0)])) (K8 : runL (n + 6) 83 [.sl 4 (a0.Outputs.map formC), .clo 80 [.mem [.lit (.int .i64 (a0.Inputs + a1))], .mem [.lit (.bool (rawQ r2).s), natA (rawQ r2).l1, natA (rawQ r2).l2]]] [] = some (.own 0 R2.length, [(0, .row 29 4 (R2.map formC) 0)])) (E9 : a0.Units[a1.toNat]? = some (F, q)) (Z9 : 0 ≤ a1) (K10 : run (n + 6) 84 [formV (F, q), .agg [.lit (.bool a2.s), natA a2.l1, natA a2.l2]] = some (formV r4)) (G11 : a1.toNat < R.length) (Z11 : 0 ≤ a1) :
    run (n + 7) 21 [graphV a0, .lit (.int .i64 a1), .agg [.lit (.bool a2.s), natA a2.l1, natA a2.l2]] = some (.tup [.agg [.lit (.int .i64 (a0.Inputs)), .sl 4 ((R.set a1.toNat r4).map formC), .sl 4 (R2.map formC)], .lit (.int .i64 0)]) := by
  have K1 := rr_sign B1a
  simp only [graphV] at K2
  have C3_ : (r == 0) = true := by rw [C3]; simp
  have C3_n : (r != 0) = false := by rw [C3]; simp
  have W4_ : IntKind.i64.wrap (a0.Inputs + a1) = a0.Inputs + a1 := wr64 W4.1 W4.2
  have K5 := r_ofq (z := 1) (by omega) (by omega)
  simp only [ratV] at K6
  obtain ⟨EL9, EG9⟩ := List.getElem?_eq_some_iff.1 E9
  simp only [formV] at K10
  unfold run fnP
  simp +decide [Tryz.f21, K1, K2, C3_, C3_n, W4_, K5, K6, K7, K8, EL9, EG9, E9, Z9, K10, G11, Z11]
end Go.Proofs.YtlpmemelhlnfbaaGreatDoor
set_option linter.all false
set_option maxRecDepth 100000
set_option maxHeartbeats 6400000
namespace Go.Proofs.YtlpmemelhlnfbaaGreatDoor
open Go.RowKit

/-! rational.Div, level 6 -/
theorem dvR_f2 {n : Nat} {a0 : Rat} {a1 : Raw} {r : List Nat} {r2 : List Nat} {r3 : List Nat} {r4 : List Nat} {r5 : Rat} (B1a : RawB a1) (C2 : ¬ sgR a1.q = 0) (K3 : (o1 fun x => natA (unL x.l2)) [.agg [.lit (.bool a1.s), natA a1.l1, natA a1.l2]] = some (natA r)) (K4 : (oN2 fun x y => natA (lmb (val x * val y))) [natA (rawQ a0).l1, natA r] = some (natA r2)) (K5 : (o1 fun x => natA (unL x.l2)) [ratV a0] = some (natA r3)) (K6 : (oN2 fun x y => natA (lmb (val x * val y))) [natA r3, natA a1.l1] = some (natA r4)) (K7 : (oQt) [.lit (.bool (!(((rawQ a0).s) == a1.s))), natA r2, natA r4] = some (ratV r5)) :
    run (n + 6) 78 [ratV a0, .agg [.lit (.bool a1.s), natA a1.l1, natA a1.l2]] = some (.tup [ratV r5, .lit (.int .i64 0)]) := by
  have K1 := rr_sign B1a
  have C2_ : (sgR a1.q == 0) = false := by simpa using C2
  have C2_n : (sgR a1.q != 0) = true := by simpa using C2
  simp only [ratV] at K5
  simp only [ratV] at K7
  unfold run fnP
  simp +decide [Tryz.f78, K1, C2_, C2_n, K3, K4, K5, K6, K7]
/-! relucertref03.Div, level 6 -/
theorem fdR_f2 {n : Nat} {a0 : Rat} {a1 : Raw} {r : List Nat} {r2 : List Nat} {r3 : List Nat} {r4 : List Nat} {r5 : Rat} (B1a : RawB a1) (C2 : ¬ sgR a1.q = 0) (K3 : (oN1 (fun _ => true) fun x => natA (lmb (dn x))) [natA a1.l2] = some (natA r)) (K4 : (oN2 fun x y => natA (lmb (val x * val y))) [natA (rawQ a0).l1, natA r] = some (natA r2)) (K5 : (oN1 (fun _ => true) fun x => natA (lmb (dn x))) [natA (rawQ a0).l2] = some (natA r3)) (K6 : (oN2 fun x y => natA (lmb (val x * val y))) [natA r3, natA a1.l1] = some (natA r4)) (K7 : (oQt) [.lit (.bool (!(((rawQ a0).s) == a1.s))), natA r2, natA r4] = some (ratV r5)) :
    run (n + 6) 86 [ratV a0, .agg [.lit (.bool a1.s), natA a1.l1, natA a1.l2]] = some (.tup [ratV r5, .lit (.int .i64 0)]) := by
  have K1 := rr_sign B1a
  have C2_ : (sgR a1.q == 0) = false := by simpa using C2
  have C2_n : (sgR a1.q != 0) = true := by simpa using C2
  simp only [ratV] at K7
  unfold run fnP
  simp +decide [Tryz.f86, K1, C2_, C2_n, K3, K4, K5, K6, K7]
end Go.Proofs.YtlpmemelhlnfbaaGreatDoor
set_option linter.all false
set_option maxRecDepth 100000
set_option maxHeartbeats 6400000
namespace Go.Proofs.YtlpmemelhlnfbaaGreatDoor
open Go.RowKit

/-! relucertref07.Scale, level 1 -/
noncomputable def scR_C3 : Code := (loopsOf (bodyOf Tryz.f87)).getD 0 .skip
def scR_h3 (a0 : Form) (a1 : Raw) (i_3 : Nat) (out_3 : List (Int × Rat)) : St :=
  ⟨[(2, .ptr 0 0), (3, .ptr 1 0), (4, .ptr 2 0), (5, .ptr 3 0), (6, .lit (.int .i64 (i_3 : Int)))],
   [(0, some (.box 29 [.sl 4 (a0.1.map termC), .lit (.bool (rawQ a0.2).s), natA (rawQ a0.2).l1, natA (rawQ a0.2).l2] false)),
    (1, some (.box 27 [.lit (.bool a1.s), natA a1.l1, natA a1.l2] false)),
    (2, some (.box 29 [.nl 4, .lit (.bool false), .nl 1, .nl 1] false)),
    (3, some (.box 29 [.own 4 out_3.length, .lit (.bool (rawQ (a0.2 * a1.q)).s), natA (rawQ (a0.2 * a1.q)).l1, natA (rawQ (a0.2 * a1.q)).l2] false)),
    (4, some (.row 84 4 (out_3.map termC) 0))], 5⟩
def scR_o3a (a0 : Form) (a1 : Raw) (out_3 : List (Int × Rat)) : St :=
  ⟨[(4, .ptr 0 0), (5, .ptr 1 0)],
   [(0, some (.box 29 [.nl 4, .lit (.bool false), .nl 1, .nl 1] false)),
    (1, some (.box 29 [.own 2 out_3.length, .lit (.bool (rawQ (a0.2 * a1.q)).s), natA (rawQ (a0.2 * a1.q)).l1, natA (rawQ (a0.2 * a1.q)).l2] false)),
    (2, some (.row 84 4 (out_3.map termC) 0))], 3⟩
theorem scR_r3_1 {n : Nat} {a0 : Form} {a1 : Raw} {i_3 : Nat} {v3 : Int} {q3 : Rat} {out_3 : List (Int × Rat)} (C1 : (i_3 : Int) < (a0.1.length : Int)) (E2 : a0.1[i_3]? = some (v3, q3)) (B3aH : H q3 ≤ 17179869184) (B3b : RawB a1) (K4 : runL n 163 [.own 0 out_3.length, .agg [.lit (.int .i64 v3), .lit (.bool (rawQ (q3 * a1.q)).s), natA (rawQ (q3 * a1.q)).l1, natA (rawQ (q3 * a1.q)).l2]] [.row 84 4 (out_3.map termC) 0] = some (.own 0 out_3.length, [(0, .row 84 4 (out_3.map termC) 0)])) (W5 : InI ((i_3 : Int) + 1)) :
    Cont 0 (exec Tryz.prog (tab (n + 1)) 0 39 (livesOf 87) big scR_C3) (livesOf 87 3) (scR_h3 a0 a1 i_3 out_3) (scR_h3 a0 a1 (i_3 + 1) out_3) := by
  have C1_ : i_3 < a0.1.length := by omega
  obtain ⟨EL2, EG2⟩ := List.getElem?_eq_some_iff.1 E2
  have B3a := rawB_q B3aH
  have K3 := rr_mul B3a B3b
  simp only [rawQ_q] at K3
  have W5_ : IntKind.i64.wrap ((i_3 : Int) + 1) = (i_3 : Int) + 1 := wr64 W5.1 W5.2
  unfold Cont
  simp +decide [scR_h3, loopsOf, Tryz.f87, scR_C3, C1, C1_, EL2, EG2, E2, K3, K4, W5_]
theorem scR_r3_2 {n : Nat} {a0 : Form} {a1 : Raw} {i_3 : Nat} {v3 : Int} {q3 : Rat} {out_3 : List (Int × Rat)} {R3 : List (Int × Rat)} (C1 : (i_3 : Int) < (a0.1.length : Int)) (E2 : a0.1[i_3]? = some (v3, q3)) (B3aH : H q3 ≤ 17179869184) (B3b : RawB a1) (K4 : runL n 163 [.own 0 out_3.length, .agg [.lit (.int .i64 v3), .lit (.bool (rawQ (q3 * a1.q)).s), natA (rawQ (q3 * a1.q)).l1, natA (rawQ (q3 * a1.q)).l2]] [.row 84 4 (out_3.map termC) 0] = some (.own 3 R3.length, [(3, .row 84 4 (R3.map termC) 0)])) (W5 : InI ((i_3 : Int) + 1)) :
    Cont 0 (exec Tryz.prog (tab (n + 1)) 0 39 (livesOf 87) big scR_C3) (livesOf 87 3) (scR_h3 a0 a1 i_3 out_3) (scR_h3 a0 a1 (i_3 + 1) R3) := by
  have C1_ : i_3 < a0.1.length := by omega
  obtain ⟨EL2, EG2⟩ := List.getElem?_eq_some_iff.1 E2
  have B3a := rawB_q B3aH
  have K3 := rr_mul B3a B3b
  simp only [rawQ_q] at K3
  have W5_ : IntKind.i64.wrap ((i_3 : Int) + 1) = (i_3 : Int) + 1 := wr64 W5.1 W5.2
  unfold Cont
  simp +decide [scR_h3, loopsOf, Tryz.f87, scR_C3, C1, C1_, EL2, EG2, E2, K3, K4, W5_]
theorem scR_x3_1 {n : Nat} {a0 : Form} {a1 : Raw} {i_3 : Nat} {out_3 : List (Int × Rat)} (C1 : ¬ (i_3 : Int) < (a0.1.length : Int)) :
    Leave 0 (exec Tryz.prog (tab (n + 1)) 0 39 (livesOf 87) big scR_C3) (livesOf 87 (outOf 3)) (scR_h3 a0 a1 i_3 out_3) (.exit 0) (scR_o3a a0 a1 out_3) := by
  have C1_ : ¬ i_3 < a0.1.length := by omega
  unfold Leave
  simp +decide [scR_h3, loopsOf, Tryz.f87, scR_o3a, scR_C3, C1, C1_]
theorem scR_f1 {n : Nat} {a0 : Form} {a1 : Raw} {out_3 : List (Int × Rat)} (B1aH : H a0.2 ≤ 17179869184) (B1b : RawB a1) (L2 : loopG Tryz.prog (tab (n + 1)) 0 39 (livesOf 87) 3 scR_C3 (scR_h3 a0 a1 0 []) = some (.exit 0, scR_o3a a0 a1 out_3)) :
    run (n + 1) 87 [formV a0, .agg [.lit (.bool a1.s), natA a1.l1, natA a1.l2]] = some (formV (out_3, a0.2 * a1.q)) := by
  have B1a := rawB_q B1aH
  have K1 := rr_mul B1a B1b
  simp only [rawQ_q] at K1
  unfold run fnP
  simp +decide [Tryz.f87, K1]
  rw [loopX_G (C' := scR_C3) (e := (scR_h3 a0 a1 0 [])) ?_ ?_, L2]
  rotate_left
  · kernel_rfl
  · simp +decide [scR_h3, K1]
  simp +decide [scR_o3a, K1]
end Go.Proofs.YtlpmemelhlnfbaaGreatDoor
