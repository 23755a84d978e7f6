import Derived.Test.YtlpmemelhlnfbaaGreatDoorGA16
set_option linter.all false
set_option maxRecDepth 100000
set_option maxHeartbeats 6400000
namespace Go.Proofs.YtlpmemelhlnfbaaGreatDoor
open Go.RowKit
noncomputable def fHv_C8 : Code := (loopsOf (bodyOf Tryz.f48)).getD 0 .skip
noncomputable def fHv_C19 : Code := (loopsOf (bodyOf Tryz.f48)).getD 1 .skip
noncomputable def fHv_C23 : Code := (loopsOf (bodyOf Tryz.f48)).getD 2 .skip
def fHv_h8 (a0 : TGraph) (a1 : Int) (out_8 : List Int) (i_8 : Nat) : St :=
  ⟨[(1, .lit (.int .i64 a1)), (2, .ptr 0 0), (4, .ptr 1 0), (7, .own 2 out_8.length), (8, .lit (.int .i64 (i_8 : Int)))],
   [(0, some (.box 38 [.lit (.int .i64 (a0.Inputs)), .sl 4 (a0.Units.map formC), .sl 4 (a0.Outputs.map formC)] false)),
    (1, some (.box 38 [.lit (.int .i64 0), .nl 4, .nl 4] false)),
    (2, some (.row 3 1 (out_8.map intI64C) 0))], 3⟩
def fHv_h19 (a0 : TGraph) (a1 : Int) (out_19 : List Int) (i_19 : Int) (fz_19 : Nat) (r4 : Form) (out2_19 : List Form) : St :=
  ⟨[(1, .lit (.int .i64 a1)), (2, .ptr 0 0), (4, .ptr 1 0), (7, .own 2 out_19.length), (9, .ptr 3 0), (13, .ptr 4 0), (14, .lit (.int .i64 i_19))],
   [(0, some (.box 38 [.lit (.int .i64 (a0.Inputs)), .sl 4 (a0.Units.map formC), .sl 4 (a0.Outputs.map formC)] false)),
    (1, some (.box 38 [.lit (.int .i64 0), .nl 4, .nl 4] false)),
    (2, some (.row 3 1 (out_19.map intI64C) fz_19)),
    (3, some (.box 29 [.sl 4 (r4.1.map termC), .lit (.bool (rawQ r4.2).s), natA (rawQ r4.2).l1, natA (rawQ r4.2).l2] false)),
    (4, some (.box 38 [.lit (.int .i64 (a0.Inputs)), .own 5 out2_19.length, .nl 4] false)),
    (5, some (.row 29 4 (out2_19.map formC) 0))], 6⟩
def fHv_h23 (a0 : TGraph) (a1 : Int) (out_23 : List Int) (i_23 : Nat) (fz_23 : Nat) (r4 : Form) (out2_19 : List Form) (out2_23 : List Form) : St :=
  ⟨[(1, .lit (.int .i64 a1)), (2, .ptr 0 0), (4, .ptr 1 0), (7, .own 2 out_23.length), (9, .ptr 3 0), (13, .ptr 4 0), (15, .lit (.int .i64 (i_23 : Int)))],
   [(0, some (.box 38 [.lit (.int .i64 (a0.Inputs)), .sl 4 (a0.Units.map formC), .sl 4 (a0.Outputs.map formC)] false)),
    (1, some (.box 38 [.lit (.int .i64 0), .nl 4, .nl 4] false)),
    (2, some (.row 3 1 (out_23.map intI64C) fz_23)),
    (3, some (.box 29 [.sl 4 (r4.1.map termC), .lit (.bool (rawQ r4.2).s), natA (rawQ r4.2).l1, natA (rawQ r4.2).l2] false)),
    (4, some (.box 38 [.lit (.int .i64 (a0.Inputs)), .own 5 out2_19.length, .own 6 out2_23.length] false)),
    (5, some (.row 29 4 (out2_19.map formC) 0)),
    (6, some (.row 29 4 (out2_23.map formC) 0))], 7⟩
def fHv_o8a (a0 : TGraph) (a1 : Int) (out_8 : List Int) : St :=
  ⟨[(1, .lit (.int .i64 a1)), (2, .ptr 0 0), (4, .ptr 1 0), (7, .own 2 out_8.length)],
   [(0, some (.box 38 [.lit (.int .i64 (a0.Inputs)), .sl 4 (a0.Units.map formC), .sl 4 (a0.Outputs.map formC)] false)),
    (1, some (.box 38 [.lit (.int .i64 0), .nl 4, .nl 4] false)),
    (2, some (.row 3 1 (out_8.map intI64C) 0))], 3⟩
def fHv_o19a (a0 : TGraph) (a1 : Int) (out_19 : List Int) (fz_19 : Nat) (r4 : Form) (out2_19 : List Form) : St :=
  ⟨[(1, .lit (.int .i64 a1)), (2, .ptr 0 0), (4, .ptr 1 0), (7, .own 2 out_19.length), (9, .ptr 3 0), (13, .ptr 4 0)],
   [(0, some (.box 38 [.lit (.int .i64 (a0.Inputs)), .sl 4 (a0.Units.map formC), .sl 4 (a0.Outputs.map formC)] false)),
    (1, some (.box 38 [.lit (.int .i64 0), .nl 4, .nl 4] false)),
    (2, some (.row 3 1 (out_19.map intI64C) fz_19)),
    (3, some (.box 29 [.sl 4 (r4.1.map termC), .lit (.bool (rawQ r4.2).s), natA (rawQ r4.2).l1, natA (rawQ r4.2).l2] false)),
    (4, some (.box 38 [.lit (.int .i64 (a0.Inputs)), .own 5 out2_19.length, .nl 4] false)),
    (5, some (.row 29 4 (out2_19.map formC) 0))], 6⟩
def fHv_o23a (a0 : TGraph) (out2_19 : List Form) (out2_23 : List Form) : St :=
  ⟨[(4, .ptr 0 0), (13, .ptr 1 0)],
   [(0, some (.box 38 [.lit (.int .i64 0), .nl 4, .nl 4] false)),
    (1, some (.box 38 [.lit (.int .i64 (a0.Inputs)), .own 2 out2_19.length, .own 3 out2_23.length] false)),
    (2, some (.row 29 4 (out2_19.map formC) 0)),
    (3, some (.row 29 4 (out2_23.map formC) 0))], 4⟩
section
variable {a1 : Int} {out_8 : List Int} {a0 : TGraph} {i_8 : Nat} {n : Nat} {F4 : List (Int × Rat)} {out2_19 : List Form} {fz_19 : Nat} {r11 : Form} {q4 : Rat} {out_19 : List Int} {r10 : Form} {r4 : Form} {i_19 : Int} {out_23 : List Int} {q7 : Rat} {r16 : Form} {i_23 : Nat} {F7 : List (Int × Rat)} {r17 : Form} {out2_23 : List Form} {fz_23 : Nat} {r : Int} {r3 : Form} {r2 : Form} {r5 : Form} {F : List (Int × Rat)} {q : Rat}
theorem fHv_r8_1 (C1 : (i_8 : Int) < (out_8.length : Int)) (G2 : i_8 < out_8.length) (W4 : InI (a0.Inputs + a1)) (C5 : a0.Inputs + a1 < (i_8 : Int)) (W6 : InI ((i_8 : Int) + 1)) :
    Cont 0 (exec Tryz.prog (tab (n + 4)) 0 148 (livesOf 48) big fHv_C8) (livesOf 48 8) (fHv_h8 a0 a1 out_8 i_8) (fHv_h8 a0 a1 ((out_8.set i_8 (i_8 : Int)).set i_8 (((i_8 : Int) + 1))) (i_8 + 1)) := by
  have C1_ : i_8 < out_8.length := by omega
  have W4_ : IntKind.i64.wrap (a0.Inputs + a1) = a0.Inputs + a1 := wr64 W4.1 W4.2
  have W6_ : IntKind.i64.wrap ((i_8 : Int) + 1) = (i_8 : Int) + 1 := wr64 W6.1 W6.2
  unfold Cont
  simp +decide [fHv_h8, loopsOf, Tryz.f48, fHv_C8, C1, C1_, G2, W4_, C5, W6_]
theorem fHv_r8_2 (C1 : (i_8 : Int) < (out_8.length : Int)) (G2 : i_8 < out_8.length) (W4 : InI (a0.Inputs + a1)) (C5 : ¬ a0.Inputs + a1 < (i_8 : Int)) (W6 : InI ((i_8 : Int) + 1)) :
    Cont 0 (exec Tryz.prog (tab (n + 4)) 0 148 (livesOf 48) big fHv_C8) (livesOf 48 8) (fHv_h8 a0 a1 out_8 i_8) (fHv_h8 a0 a1 (out_8.set i_8 (i_8 : Int)) (i_8 + 1)) := by
  have C1_ : i_8 < out_8.length := by omega
  have W4_ : IntKind.i64.wrap (a0.Inputs + a1) = a0.Inputs + a1 := wr64 W4.1 W4.2
  have W6_ : IntKind.i64.wrap ((i_8 : Int) + 1) = (i_8 : Int) + 1 := wr64 W6.1 W6.2
  unfold Cont
  simp +decide [fHv_h8, loopsOf, Tryz.f48, fHv_C8, C1, C1_, G2, W4_, C5, W6_]
theorem fHv_x8_1 (C1 : ¬ (i_8 : Int) < (out_8.length : Int)) :
    Leave 0 (exec Tryz.prog (tab (n + 4)) 0 148 (livesOf 48) big fHv_C8) (livesOf 48 (outOf 8)) (fHv_h8 a0 a1 out_8 i_8) (.exit 0) (fHv_o8a a0 a1 out_8) := by
  have C1_ : ¬ i_8 < out_8.length := by omega
  unfold Leave
  simp +decide [fHv_h8, loopsOf, Tryz.f48, fHv_o8a, fHv_C8, C1, C1_]
theorem fHv_r19_1 (C1 : i_19 < (a0.Units.length : Int)) (E2 : a0.Units[i_19.toNat]? = some (F4, q4)) (Z2 : 0 ≤ i_19) (K3 : run (n + 3) 110 [formV (F4, q4), .sl 1 (out_19.map intI64C)] = some (formV r10)) (W4 : InI (a0.Inputs + a1)) (K5 : run (n + 3) 117 [formV r10, .lit (.int .i64 (a0.Inputs + a1)), formV r4] = some (formV r11)) (M6 : out2_19.length + 1 ≤ 100000000) (W7 : InI (i_19 + 1)) :
    Cont 0 (exec Tryz.prog (tab (n + 4)) 0 148 (livesOf 48) big fHv_C19) (livesOf 48 19) (fHv_h19 a0 a1 out_19 i_19 fz_19 r4 out2_19) (fHv_h19 a0 a1 out_19 (i_19 + 1) out_19.length r4 (out2_19 ++ [r11])) := by
  obtain ⟨EL2, EG2⟩ := List.getElem?_eq_some_iff.1 E2
  simp only [formV] at K3
  have W4_ : IntKind.i64.wrap (a0.Inputs + a1) = a0.Inputs + a1 := wr64 W4.1 W4.2
  simp only [formV] at K5
  have M6_ : ∀ b, b ≤ 10000 → roomy (out2_19.length + 1) b = true := fun b hb => roomy_s M6 hb
  have W7_ : IntKind.i64.wrap (i_19 + 1) = i_19 + 1 := wr64 W7.1 W7.2
  unfold Cont
  simp +decide [fHv_h19, loopsOf, Tryz.f48, fHv_C19, C1, EL2, EG2, E2, Z2, K3, W4_, K5, M6_, W7_]
theorem fHv_x19_1 (C1 : ¬ i_19 < (a0.Units.length : Int)) :
    Leave 0 (exec Tryz.prog (tab (n + 4)) 0 148 (livesOf 48) big fHv_C19) (livesOf 48 (outOf 19)) (fHv_h19 a0 a1 out_19 i_19 fz_19 r4 out2_19) (.exit 2) (fHv_o19a a0 a1 out_19 fz_19 r4 out2_19) := by
  unfold Leave
  simp +decide [fHv_h19, loopsOf, Tryz.f48, fHv_o19a, fHv_C19, C1]
theorem fHv_r23_1 (C1 : (i_23 : Int) < (a0.Outputs.length : Int)) (E2 : a0.Outputs[i_23]? = some (F7, q7)) (K3 : run (n + 3) 110 [formV (F7, q7), .sl 1 (out_23.map intI64C)] = some (formV r16)) (W4 : InI (a0.Inputs + a1)) (K5 : run (n + 3) 117 [formV r16, .lit (.int .i64 (a0.Inputs + a1)), formV r4] = some (formV r17)) (M6 : out2_23.length + 1 ≤ 100000000) (W7 : InI ((i_23 : Int) + 1)) :
    Cont 0 (exec Tryz.prog (tab (n + 4)) 0 148 (livesOf 48) big fHv_C23) (livesOf 48 23) (fHv_h23 a0 a1 out_23 i_23 fz_23 r4 out2_19 out2_23) (fHv_h23 a0 a1 out_23 (i_23 + 1) out_23.length r4 out2_19 (out2_23 ++ [r17])) := by
  have C1_ : i_23 < a0.Outputs.length := by omega
  obtain ⟨EL2, EG2⟩ := List.getElem?_eq_some_iff.1 E2
  simp only [formV] at K3
  have W4_ : IntKind.i64.wrap (a0.Inputs + a1) = a0.Inputs + a1 := wr64 W4.1 W4.2
  simp only [formV] at K5
  have M6_ : ∀ b, b ≤ 10000 → roomy (out2_23.length + 1) b = true := fun b hb => roomy_s M6 hb
  have W7_ : IntKind.i64.wrap ((i_23 : Int) + 1) = (i_23 : Int) + 1 := wr64 W7.1 W7.2
  unfold Cont
  simp +decide [fHv_h23, loopsOf, Tryz.f48, fHv_C23, C1, C1_, EL2, EG2, E2, K3, W4_, K5, M6_, W7_]
theorem fHv_x23_1 (C1 : ¬ (i_23 : Int) < (a0.Outputs.length : Int)) :
    Leave 0 (exec Tryz.prog (tab (n + 4)) 0 148 (livesOf 48) big fHv_C23) (livesOf 48 (outOf 23)) (fHv_h23 a0 a1 out_23 i_23 fz_23 r4 out2_19 out2_23) (.exit 4) (fHv_o23a a0 out2_19 out2_23) := by
  have C1_ : ¬ i_23 < a0.Outputs.length := by omega
  unfold Leave
  simp +decide [fHv_h23, loopsOf, Tryz.f48, fHv_o23a, fHv_C23, C1, C1_]
theorem fHv_f1 (K1 : run (n + 3) 85 [graphV a0, .lit (.int .i64 a1)] = some (.lit (.int .i64 r))) (C2 : ¬ r = 0) :
    run (n + 4) 48 [graphV a0, .lit (.int .i64 a1)] = some (.tup [.agg [.lit (.int .i64 0), .sl 4 [], .sl 4 []], .lit (.int .i64 r)]) := by
  simp only [graphV] at K1
  have C2_ : (r == 0) = false := by simpa using C2
  have C2_n : (r != 0) = true := by simpa using C2
  unfold run fnP
  simp +decide [Tryz.f48, K1, C2_, C2_n]
theorem fHv_f3 (K1 : run (n + 3) 85 [graphV a0, .lit (.int .i64 a1)] = some (.lit (.int .i64 r))) (C2 : r = 0) (C3 : ¬ (a0.Units.length : Int) = 1024) (W4 : InI (a0.Inputs + (a0.Units.length : Int))) (M5 : (a0.Inputs + (a0.Units.length : Int)).toNat ≤ 100000000) (C6 : 0 ≤ a0.Inputs + (a0.Units.length : Int)) (L7 : loopG Tryz.prog (tab (n + 4)) 0 148 (livesOf 48) 8 fHv_C8 (fHv_h8 a0 a1 (List.replicate ((a0.Inputs + (a0.Units.length : Int)).toNat) 0) 0) = some (.exit 0, fHv_o8a a0 a1 out_8)) (W8 : InI (a0.Inputs + a1)) (K9 : run (n + 3) 88 [.lit (.int .i64 (a0.Inputs + a1))] = some (formV r2)) (W11 : InI ((a0.Inputs + a1) + 1)) (K12 : run (n + 3) 88 [.lit (.int .i64 ((a0.Inputs + a1) + 1))] = some (formV r3)) (K13 : run (n + 3) 115 [formV r2, formV r3] = some (formV r4)) (E15 : a0.Units[a1.toNat]? = some (F, q)) (Z15 : 0 ≤ a1) (K16 : run (n + 3) 87 [formV (F, q), ratV (fracQ 1 2)] = some (formV r5)) (U17 : 0 ≤ 0 ∧ 0 ≤ a1 ∧ a1 ≤ (a0.Units.length : Int)) (M18 : (a0.Units.take a1.toNat).length ≤ 100000000) (M19 : (a0.Units.take a1.toNat).length + 2 ≤ 100000000) (W20 : InI (a1 + 1)) (L21 : loopG Tryz.prog (tab (n + 4)) 0 148 (livesOf 48) 19 fHv_C19 (fHv_h19 a0 a1 out_8 (a1 + 1) 0 r4 (a0.Units.take a1.toNat ++ [r5, r5])) = some (.exit 2, fHv_o19a a0 a1 out_19 fz_19 r4 out2_19)) (L22 : loopG Tryz.prog (tab (n + 4)) 0 148 (livesOf 48) 23 fHv_C23 (fHv_h23 a0 a1 out_19 0 fz_19 r4 out2_19 []) = some (.exit 4, fHv_o23a a0 out2_19 out2_23)) :
    run (n + 4) 48 [graphV a0, .lit (.int .i64 a1)] = some (.tup [.agg [.lit (.int .i64 (a0.Inputs)), .sl 4 (out2_19.map formC), .sl 4 (out2_23.map formC)], .lit (.int .i64 0)]) := by
  simp only [graphV] at K1
  have C2_ : (r == 0) = true := by rw [C2]; simp
  have C2_n : (r != 0) = false := by rw [C2]; simp
  have C3_ : ((a0.Units.length : Int) == 1024) = false := by simpa using C3
  have C3_n : ((a0.Units.length : Int) != 1024) = true := by simpa using C3
  have W4_ : IntKind.i64.wrap (a0.Inputs + (a0.Units.length : Int)) = a0.Inputs + (a0.Units.length : Int) := wr64 W4.1 W4.2
  have M5_ : ∀ b, b ≤ 10000 → roomy ((a0.Inputs + (a0.Units.length : Int)).toNat) b = true := fun b hb => roomy_s M5 hb
  have W8_ : IntKind.i64.wrap (a0.Inputs + a1) = a0.Inputs + a1 := wr64 W8.1 W8.2
  simp only [formV] at K9
  have W11_ : IntKind.i64.wrap ((a0.Inputs + a1) + 1) = (a0.Inputs + a1) + 1 := wr64 W11.1 W11.2
  simp only [formV] at K12
  simp only [formV] at K13
  have K14 := r_frac (x := 1) (y := 2) (by omega) (by omega) (by omega)
  obtain ⟨EL15, EG15⟩ := List.getElem?_eq_some_iff.1 E15
  simp only [ratV, formV] at K16
  have M18_ : ∀ b, b ≤ 10000 → roomy ((a0.Units.take a1.toNat).length) b = true := fun b hb => roomy_s M18 hb
  have M19_ : ∀ b, b ≤ 10000 → roomy ((a0.Units.take a1.toNat).length + 2) b = true := fun b hb => roomy_s M19 hb
  have W20_ : IntKind.i64.wrap (a1 + 1) = a1 + 1 := wr64 W20.1 W20.2
  unfold run fnP
  simp +decide [-List.map_take, -List.length_take, ← List.map_take, Tryz.f48, K1, C2_, C2_n, C3_, C3_n, W4_, M5_, C6, W8_, K9, W11_, K12, K13, K14, EL15, EG15, E15, Z15, K16, U17, M18_, M19_, W20_]
  rw [loopX_G (C' := fHv_C8) (e := (fHv_h8 a0 a1 (List.replicate ((a0.Inputs + (a0.Units.length : Int)).toNat) 0) 0)) ?_ ?_, L7]
  rotate_left
  · kernel_rfl
  · simp +decide [-List.map_take, -List.length_take, ← List.map_take, fHv_h8, K1, C2_, C2_n, C3_, C3_n, W4_, M5_, C6, W8_, K9, W11_, K12, K13, K14, EL15, EG15, E15, Z15, K16, U17, M18_, M19_, W20_]
  simp +decide [-List.map_take, -List.length_take, ← List.map_take, fHv_o8a, K1, C2_, C2_n, C3_, C3_n, W4_, M5_, C6, W8_, K9, W11_, K12, K13, K14, EL15, EG15, E15, Z15, K16, U17, M18_, M19_, W20_]
  rw [loopX_G (C' := fHv_C19) (e := (fHv_h19 a0 a1 out_8 (a1 + 1) 0 r4 (a0.Units.take a1.toNat ++ [r5, r5]))) ?_ ?_, L21]
  rotate_left
  · kernel_rfl
  · simp +decide [-List.map_take, -List.length_take, ← List.map_take, fHv_h19, K1, C2_, C2_n, C3_, C3_n, W4_, M5_, C6, W8_, K9, W11_, K12, K13, K14, EL15, EG15, E15, Z15, K16, U17, M18_, M19_, W20_]
  simp +decide [-List.map_take, -List.length_take, ← List.map_take, fHv_o19a, K1, C2_, C2_n, C3_, C3_n, W4_, M5_, C6, W8_, K9, W11_, K12, K13, K14, EL15, EG15, E15, Z15, K16, U17, M18_, M19_, W20_]
  rw [loopX_G (C' := fHv_C23) (e := (fHv_h23 a0 a1 out_19 0 fz_19 r4 out2_19 [])) ?_ ?_, L22]
  rotate_left
  · kernel_rfl
  · simp +decide [-List.map_take, -List.length_take, ← List.map_take, fHv_h23, K1, C2_, C2_n, C3_, C3_n, W4_, M5_, C6, W8_, K9, W11_, K12, K13, K14, EL15, EG15, E15, Z15, K16, U17, M18_, M19_, W20_]
  simp +decide [-List.map_take, -List.length_take, ← List.map_take, fHv_o23a, K1, C2_, C2_n, C3_, C3_n, W4_, M5_, C6, W8_, K9, W11_, K12, K13, K14, EL15, EG15, E15, Z15, K16, U17, M18_, M19_, W20_]
end
end Go.Proofs.YtlpmemelhlnfbaaGreatDoor
set_option linter.all false
set_option maxRecDepth 100000
set_option maxHeartbeats 6400000
namespace Go.Proofs.YtlpmemelhlnfbaaGreatDoor
open Go.RowKit
section
variable {a0 : Int} {c0 : Int} {n : Nat}
theorem gh2_f1 (C1 : c0 < a0) (W2 : InI (a0 + 1)) :
    run n 112 [.lit (.int .i64 a0), .mem [.lit (.int .i64 c0)]] = some (.lit (.int .i64 (a0 + 1))) := by
  have W2_ : IntKind.i64.wrap (a0 + 1) = a0 + 1 := wr64 W2.1 W2.2
  unfold run fnP
  simp +decide [Tryz.f112, C1, W2_]
theorem gh2_f2 (C1 : ¬ c0 < a0) :
    run n 112 [.lit (.int .i64 a0), .mem [.lit (.int .i64 c0)]] = some (.lit (.int .i64 a0)) := by
  unfold run fnP
  simp +decide [Tryz.f112, C1]
end
noncomputable def grh_C3 : Code := (loopsOf (bodyOf Tryz.f108)).getD 0 .skip
def grh_h3 (a0 : Form) (c0 : Int) (out_3 : List (Int × Rat)) (i_3 : Nat) : St :=
  ⟨[(1, .clo 112 [.mem [.lit (.int .i64 c0)]]), (2, .ptr 0 0), (4, .ptr 1 0), (5, .own 2 out_3.length), (11, .sl 4 (a0.1.map termC)), (12, .lit (.int .i64 (a0.1.length : Int))), (13, .lit (.int .i64 (i_3 : Int)))],
   [(0, some (.box 29 [.sl 4 (a0.1.map termC), .lit (.bool (rawQ a0.2).s), natA (rawQ a0.2).l1, natA (rawQ a0.2).l2] false)),
    (1, some (.box 29 [.nl 4, .lit (.bool false), .nl 1, .nl 1] false)),
    (2, some (.row 84 4 (out_3.map termC) 0))], 3⟩
def grh_o3a (a0 : Form) (out_3 : List (Int × Rat)) : St :=
  ⟨[(2, .ptr 0 0), (4, .ptr 1 0), (5, .own 2 out_3.length)],
   [(0, some (.box 29 [.sl 4 (a0.1.map termC), .lit (.bool (rawQ a0.2).s), natA (rawQ a0.2).l1, natA (rawQ a0.2).l2] false)),
    (1, some (.box 29 [.nl 4, .lit (.bool false), .nl 1, .nl 1] false)),
    (2, some (.row 84 4 (out_3.map termC) 0))], 3⟩
section
variable {r3 : Int} {v3 : Int} {q3 : Rat} {out_3 : List (Int × Rat)} {a0 : Form} {c0 : Int} {i_3 : Nat} {n : Nat} {r4 : Form} {r5 : Int}
theorem grh_r3_1 (C1 : (i_3 : Int) < (a0.1.length : Int)) (E2 : a0.1[i_3]? = some (v3, q3)) (K3 : run (n + 45) 112 [.lit (.int .i64 v3), .mem [.lit (.int .i64 c0)]] = some (.lit (.int .i64 r3))) (M4 : out_3.length + 1 ≤ 100000000) (W5 : InI ((i_3 : Int) + 1)) :
    Cont 0 (exec Tryz.prog (tab (n + 46)) 0 36 (livesOf 108) big grh_C3) (livesOf 108 3) (grh_h3 a0 c0 out_3 i_3) (grh_h3 a0 c0 (out_3 ++ [(r3, q3)]) (i_3 + 1)) := by
  have C1_ : i_3 < a0.1.length := by omega
  obtain ⟨EL2, EG2⟩ := List.getElem?_eq_some_iff.1 E2
  have M4_ : ∀ b, b ≤ 10000 → roomy (out_3.length + 1) b = true := fun b hb => roomy_s M4 hb
  have W5_ : IntKind.i64.wrap ((i_3 : Int) + 1) = (i_3 : Int) + 1 := wr64 W5.1 W5.2
  unfold Cont
  simp +decide [grh_h3, loopsOf, Tryz.f108, grh_C3, C1, C1_, EL2, EG2, E2, K3, M4_, W5_]
theorem grh_x3_1 (C1 : ¬ (i_3 : Int) < (a0.1.length : Int)) :
    Leave 0 (exec Tryz.prog (tab (n + 46)) 0 36 (livesOf 108) big grh_C3) (livesOf 108 (outOf 3)) (grh_h3 a0 c0 out_3 i_3) (.exit 0) (grh_o3a a0 out_3) := by
  have C1_ : ¬ i_3 < a0.1.length := by omega
  unfold Leave
  simp +decide [grh_h3, loopsOf, Tryz.f108, grh_o3a, grh_C3, C1, C1_]
theorem grh_f1 (L1 : loopG Tryz.prog (tab (n + 46)) 0 36 (livesOf 108) 3 grh_C3 (grh_h3 a0 c0 [] 0) = some (.exit 0, grh_o3a a0 out_3)) (K2 : run (n + 45) 58 [.sl 4 (out_3.map termC), ratV a0.2] = some (.tup [formV r4, .lit (.int .i64 r5)])) :
    run (n + 46) 108 [formV a0, .clo 112 [.mem [.lit (.int .i64 c0)]]] = some (formV r4) := by
  simp only [ratV, formV] at K2
  unfold run fnP
  simp +decide [Tryz.f108, K2]
  rw [loopX_G (C' := grh_C3) (e := (grh_h3 a0 c0 [] 0)) ?_ ?_, L1]
  rotate_left
  · kernel_rfl
  · simp +decide [grh_h3, K2]
  simp +decide [grh_o3a, K2]
end
end Go.Proofs.YtlpmemelhlnfbaaGreatDoor
set_option linter.all false
set_option maxRecDepth 100000
set_option maxHeartbeats 6400000
namespace Go.Proofs.YtlpmemelhlnfbaaGreatDoor
open Go.RowKit
theorem gh1_f1 {n : Nat} {a0 : Form} {c0 : Int} {r : Form} {r2 : Form} {r3 : Form} {r4 : Form} {r5 : Form} (K1 : run (n + 46) 108 [formV a0, .clo 112 [.mem [.lit (.int .i64 c0)]]] = some (formV r)) (K3 : run (n + 46) 82 [.lit (.int .i64 c0), ratV (ofQ 1)] = some (formV r2)) (W4 : InI (c0 + 1)) (K5 : run (n + 46) 82 [.lit (.int .i64 (c0 + 1)), ratV (ofQ 1)] = some (formV r3)) (K6 : run (n + 46) 113 [formV r2, formV r3] = some (formV r4)) (K7 : run (n + 46) 81 [formV r, .lit (.int .i64 c0), formV r4] = some (formV r5)) :
    run (n + 47) 111 [formV a0, .mem [.lit (.int .i64 c0)]] = some (formV r5) := by
  simp only [formV] at K1
  have K2 := r_ofq (z := 1) (by omega) (by omega)
  simp only [ratV, formV] at K3
  have W4_ : IntKind.i64.wrap (c0 + 1) = c0 + 1 := wr64 W4.1 W4.2
  simp only [ratV, formV] at K5
  simp only [formV] at K6
  simp only [formV] at K7
  unfold run fnP
  simp +decide [Tryz.f111, K1, K2, K3, W4_, K5, K6, K7]
noncomputable def geh_C3 : Code := (loopsOf (bodyOf Tryz.f83)).getD 0 .skip
def geh_h3 (a0 : List Form) (c0 : Int) (out_3 : List Form) (i_3 : Nat) : St :=
  ⟨[(1, .clo 111 [.mem [.lit (.int .i64 c0)]]), (5, .own 0 out_3.length), (8, .sl 4 (a0.map formC)), (9, .lit (.int .i64 (a0.length : Int))), (10, .lit (.int .i64 (i_3 : Int)))],
   [(0, some (.row 29 4 (out_3.map formC) 0))], 1⟩
def geh_o3a (out_3 : List Form) : St :=
  ⟨[(5, .own 0 out_3.length)],
   [(0, some (.row 29 4 (out_3.map formC) 0))], 1⟩
section
variable {r3 : Form} {q3 : Rat} {out_3 : List Form} {a0 : List Form} {c0 : Int} {F3 : List (Int × Rat)} {i_3 : Nat} {n : Nat}
theorem geh_r3_1 (C1 : (i_3 : Int) < (a0.length : Int)) (E2 : a0[i_3]? = some (F3, q3)) (K3 : run (n + 47) 111 [formV (F3, q3), .mem [.lit (.int .i64 c0)]] = some (formV r3)) (M4 : out_3.length + 1 ≤ 100000000) (W5 : InI ((i_3 : Int) + 1)) :
    Cont 0 (exec Tryz.prog (tab (n + 48)) 0 22 (livesOf 83) big geh_C3) (livesOf 83 3) (geh_h3 a0 c0 out_3 i_3) (geh_h3 a0 c0 (out_3 ++ [r3]) (i_3 + 1)) := by
  have C1_ : i_3 < a0.length := by omega
  obtain ⟨EL2, EG2⟩ := List.getElem?_eq_some_iff.1 E2
  simp only [formV] at K3
  have M4_ : ∀ b, b ≤ 10000 → roomy (out_3.length + 1) b = true := fun b hb => roomy_s M4 hb
  have W5_ : IntKind.i64.wrap ((i_3 : Int) + 1) = (i_3 : Int) + 1 := wr64 W5.1 W5.2
  unfold Cont
  simp +decide [geh_h3, loopsOf, Tryz.f83, geh_C3, C1, C1_, EL2, EG2, E2, K3, M4_, W5_]
theorem geh_x3_1 (C1 : ¬ (i_3 : Int) < (a0.length : Int)) :
    Leave 0 (exec Tryz.prog (tab (n + 48)) 0 22 (livesOf 83) big geh_C3) (livesOf 83 (outOf 3)) (geh_h3 a0 c0 out_3 i_3) (.exit 0) (geh_o3a out_3) := by
  have C1_ : ¬ i_3 < a0.length := by omega
  unfold Leave
  simp +decide [geh_h3, loopsOf, Tryz.f83, geh_o3a, geh_C3, C1, C1_]
theorem geh_f1 (L1 : loopG Tryz.prog (tab (n + 48)) 0 22 (livesOf 83) 3 geh_C3 (geh_h3 a0 c0 [] 0) = some (.exit 0, geh_o3a out_3)) :
    runL (n + 48) 83 [.sl 4 (a0.map formC), .clo 111 [.mem [.lit (.int .i64 c0)]]] [] = some (.own 0 out_3.length, [(0, .row 29 4 (out_3.map formC) 0)]) := by
  unfold runL fnL
  simp +decide [Tryz.f83]
  rw [loopX_G (C' := geh_C3) (e := (geh_h3 a0 c0 [] 0)) ?_ ?_, L1]
  rotate_left
  · kernel_rfl
  · simp +decide [geh_h3]
  simp +decide [geh_o3a]
end
end Go.Proofs.YtlpmemelhlnfbaaGreatDoor
set_option linter.all false
set_option maxRecDepth 100000
set_option maxHeartbeats 6400000
namespace Go.Proofs.YtlpmemelhlnfbaaGreatDoor
open Go.RowKit
noncomputable def gHv_C12 : Code := (loopsOf (bodyOf Tryz.f47)).getD 0 .skip
def gHv_h12 (a0 : TGraph) (a1 : Int) (i_12 : Nat) (r4 : Form) (out_12 : List Form) : St :=
  ⟨[(1, .lit (.int .i64 a1)), (2, .ptr 0 0), (4, .ptr 1 0), (8, .clo 111 [.mem [.lit (.int .i64 (a0.Inputs + a1))]]), (11, .ptr 2 0), (12, .ptr 3 0), (50, .sl 4 (a0.Units.map formC)), (51, .lit (.int .i64 (a0.Units.length : Int))), (52, .lit (.int .i64 (i_12 : Int)))],
   [(0, some (.box 38 [.lit (.int .i64 (a0.Inputs)), .sl 4 (a0.Units.map formC), .sl 4 (a0.Outputs.map formC)] false)),
    (1, some (.box 38 [.lit (.int .i64 0), .nl 4, .nl 4] false)),
    (2, some (.box 29 [.sl 4 (r4.1.map termC), .lit (.bool (rawQ r4.2).s), natA (rawQ r4.2).l1, natA (rawQ r4.2).l2] false)),
    (3, some (.box 38 [.lit (.int .i64 (a0.Inputs)), .own 4 out_12.length, .nl 4] false)),
    (4, some (.row 29 4 (out_12.map formC) 0))], 5⟩
def gHv_o12a (a0 : TGraph) (a1 : Int) (out_12 : List Form) : St :=
  ⟨[(2, .ptr 0 0), (4, .ptr 1 0), (8, .clo 111 [.mem [.lit (.int .i64 (a0.Inputs + a1))]]), (12, .ptr 2 0)],
   [(0, some (.box 38 [.lit (.int .i64 (a0.Inputs)), .sl 4 (a0.Units.map formC), .sl 4 (a0.Outputs.map formC)] false)),
    (1, some (.box 38 [.lit (.int .i64 0), .nl 4, .nl 4] false)),
    (2, some (.box 38 [.lit (.int .i64 (a0.Inputs)), .own 3 out_12.length, .nl 4] false)),
    (3, some (.row 29 4 (out_12.map formC) 0))], 4⟩
section
variable {a1 : Int} {F4 : List (Int × Rat)} {q4 : Rat} {out_12 : List Form} {a0 : TGraph} {r4 : Form} {r9 : Form} {i_12 : Nat} {n : Nat} {r10 : Form} {r3 : Int} {r2 : Rat} {F : List (Int × Rat)} {q : Rat} {R : List Form} {r : Int}
theorem gHv_r12_1 (C1 : (i_12 : Int) < (a0.Units.length : Int)) (E2 : a0.Units[i_12]? = some (F4, q4)) (C3 : (i_12 : Int) = a1) (K5 : run (n + 48) 84 [formV r4, ratV (ofQ 1)] = some (formV r9)) (M6 : out_12.length + 2 ≤ 100000000) (W7 : InI ((i_12 : Int) + 1)) :
    Cont 0 (exec Tryz.prog (tab (n + 49)) 0 85 (livesOf 47) big gHv_C12) (livesOf 47 12) (gHv_h12 a0 a1 i_12 r4 out_12) (gHv_h12 a0 a1 (i_12 + 1) r4 (out_12 ++ [r4, r9])) := by
  have C1_ : i_12 < a0.Units.length := by omega
  obtain ⟨EL2, EG2⟩ := List.getElem?_eq_some_iff.1 E2
  have C3_ : ((i_12 : Int) == a1) = true := by rw [C3]; simp
  have C3_n : ((i_12 : Int) != a1) = false := by rw [C3]; simp
  have K4 := r_ofq (z := 1) (by omega) (by omega)
  simp only [ratV, formV] at K5
  have M6_ : ∀ b, b ≤ 10000 → roomy (out_12.length + 2) b = true := fun b hb => roomy_s M6 hb
  have W7_ : IntKind.i64.wrap ((i_12 : Int) + 1) = (i_12 : Int) + 1 := wr64 W7.1 W7.2
  unfold Cont
  simp +decide [gHv_h12, loopsOf, Tryz.f47, gHv_C12, C1, C1_, EL2, EG2, E2, C3_, C3_n, K4, K5, M6_, W7_]
theorem gHv_r12_2 (C1 : (i_12 : Int) < (a0.Units.length : Int)) (E2 : a0.Units[i_12]? = some (F4, q4)) (C3 : ¬ (i_12 : Int) = a1) (K4 : run (n + 48) 111 [formV (F4, q4), .mem [.lit (.int .i64 (a0.Inputs + a1))]] = some (formV r10)) (M5 : out_12.length + 1 ≤ 100000000) (W6 : InI ((i_12 : Int) + 1)) :
    Cont 0 (exec Tryz.prog (tab (n + 49)) 0 85 (livesOf 47) big gHv_C12) (livesOf 47 12) (gHv_h12 a0 a1 i_12 r4 out_12) (gHv_h12 a0 a1 (i_12 + 1) r4 (out_12 ++ [r10])) := by
  have C1_ : i_12 < a0.Units.length := by omega
  obtain ⟨EL2, EG2⟩ := List.getElem?_eq_some_iff.1 E2
  have C3_ : ((i_12 : Int) == a1) = false := by simpa using C3
  have C3_n : ((i_12 : Int) != a1) = true := by simpa using C3
  simp only [formV] at K4
  have M5_ : ∀ b, b ≤ 10000 → roomy (out_12.length + 1) b = true := fun b hb => roomy_s M5 hb
  have W6_ : IntKind.i64.wrap ((i_12 : Int) + 1) = (i_12 : Int) + 1 := wr64 W6.1 W6.2
  unfold Cont
  simp +decide [gHv_h12, loopsOf, Tryz.f47, gHv_C12, C1, C1_, EL2, EG2, E2, C3_, C3_n, K4, M5_, W6_]
theorem gHv_x12_1 (C1 : ¬ (i_12 : Int) < (a0.Units.length : Int)) :
    Leave 0 (exec Tryz.prog (tab (n + 49)) 0 85 (livesOf 47) big gHv_C12) (livesOf 47 (outOf 12)) (gHv_h12 a0 a1 i_12 r4 out_12) (.exit 0) (gHv_o12a a0 a1 out_12) := by
  have C1_ : ¬ i_12 < a0.Units.length := by omega
  unfold Leave
  simp +decide [gHv_h12, loopsOf, Tryz.f47, gHv_o12a, gHv_C12, C1, C1_]
theorem gHv_f2 (K1 : run (n + 48) 76 [graphV a0, .lit (.int .i64 a1), .lit (.bool true)] = some (.lit (.int .i64 r))) (C2 : r = 0) (C3 : ¬ 1024 ≤ (a0.Units.length : Int)) (W4 : InI (a0.Inputs + a1)) (K5 : run (n + 48) 114 [.lit (.int .i64 1), .lit (.int .i64 2)] = some (.tup [ratV r2, .lit (.int .i64 r3)])) (E6 : a0.Units[a1.toNat]? = some (F, q)) (Z6 : 0 ≤ a1) (K7 : run (n + 48) 84 [formV (F, q), ratV r2] = some (formV r4)) (L8 : loopG Tryz.prog (tab (n + 49)) 0 85 (livesOf 47) 12 gHv_C12 (gHv_h12 a0 a1 0 r4 []) = some (.exit 0, gHv_o12a a0 a1 out_12)) (K9 : runL (n + 48) 83 [.sl 4 (a0.Outputs.map formC), .clo 111 [.mem [.lit (.int .i64 (a0.Inputs + a1))]]] [] = some (.own 0 R.length, [(0, .row 29 4 (R.map formC) 0)])) :
    run (n + 49) 47 [graphV a0, .lit (.int .i64 a1)] = some (.tup [.agg [.lit (.int .i64 (a0.Inputs)), .sl 4 (out_12.map formC), .sl 4 (R.map formC)], .lit (.int .i64 0)]) := by
  simp only [graphV] at K1
  have C2_ : (r == 0) = true := by rw [C2]; simp
  have C2_n : (r != 0) = false := by rw [C2]; simp
  have C3_ : ¬ 1024 ≤ a0.Units.length := by omega
  have W4_ : IntKind.i64.wrap (a0.Inputs + a1) = a0.Inputs + a1 := wr64 W4.1 W4.2
  simp only [ratV] at K5
  obtain ⟨EL6, EG6⟩ := List.getElem?_eq_some_iff.1 E6
  simp only [ratV, formV] at K7
  unfold run fnP
  simp +decide [Tryz.f47, K1, C2_, C2_n, C3, C3_, W4_, K5, EL6, EG6, E6, Z6, K7, K9]
  rw [loopX_G (C' := gHv_C12) (e := (gHv_h12 a0 a1 0 r4 [])) ?_ ?_, L8]
  rotate_left
  · kernel_rfl
  · simp +decide [gHv_h12, K1, C2_, C2_n, C3, C3_, W4_, K5, EL6, EG6, E6, Z6, K7, K9]
  simp +decide [gHv_o12a, K1, C2_, C2_n, C3, C3_, W4_, K5, EL6, EG6, E6, Z6, K7, K9]
theorem gHv_f3 (K1 : run (n + 48) 76 [graphV a0, .lit (.int .i64 a1), .lit (.bool true)] = some (.lit (.int .i64 r))) (C2 : ¬ r = 0) :
    run (n + 49) 47 [graphV a0, .lit (.int .i64 a1)] = some (.tup [.agg [.lit (.int .i64 0), .sl 4 [], .sl 4 []], .lit (.int .i64 r)]) := by
  simp only [graphV] at K1
  have C2_ : (r == 0) = false := by simpa using C2
  have C2_n : (r != 0) = true := by simpa using C2
  unfold run fnP
  simp +decide [Tryz.f47, K1, C2_, C2_n]
end
end Go.Proofs.YtlpmemelhlnfbaaGreatDoor
set_option linter.all false
set_option maxRecDepth 100000
namespace Go.Proofs.YtlpmemelhlnfbaaGreatDoor
open Go.RowKit
theorem awake15_c {n : Nat} : run 16 18 [] = some (.lit (.bool true)) := by kernel_rfl
end Go.Proofs.YtlpmemelhlnfbaaGreatDoor
set_option linter.all false
namespace Go.Proofs.YtlpmemelhlnfbaaGreatDoor
open Go.RowKit
def awG (args : List AV) : Option AV := match args with | [] => some (.lit (.bool true)) | _ => none
theorem con_awake : ∀ args r, awG args = some r → Con Tryz.prog 18 args r := fun args r hr => by
  unfold awG at hr
  split at hr
  · cases hr
    exact ((tab_ok 17).pure _ _ (tb_18 16)).2 _ _ (awake15_c (n := 0))
  · cases hr
end Go.Proofs.YtlpmemelhlnfbaaGreatDoor
set_option linter.all false
set_option maxRecDepth 100000
set_option maxHeartbeats 6400000
namespace Go.Proofs.YtlpmemelhlnfbaaGreatDoor
open Go.RowKit
noncomputable def ghlT (n : Nat) : FuncId → Option Orc := ext (tab (n + 50)) 18 (.pure awG)
theorem ghlT_ok (n : Nat) : OrcOk Tryz.prog (ghlT n) := (tab_ok (n + 50)).extP (by kernel_rfl) con_awake
noncomputable def ghl (n : Nat) (args : List AV) : Option AV := fnP Tryz.prog (ghlT n) (livesOf 10) big (fnOf 10) args
theorem ghl_con {n : Nat} {args : List AV} {r : AV} (h : ghl n args = some r) : Con Tryz.prog 10 args r :=
  con_of (ghlT_ok n) mixed (plain_fn (by kernel_rfl)) (body_some (by kernel_rfl) (plain_fn (by kernel_rfl))) h
theorem ghl_aw (n : Nat) : ghlT n 18 = some (.pure awG) := by unfold ghlT ext; rw [if_pos rfl]
theorem ghl_l20 (n : Nat) : ghlT n 20 = some (.pure (run (n + 49) 20)) := by unfold ghlT ext; rw [if_neg (by decide)]; exact tb_20 _
theorem ghl_l22 (n : Nat) : ghlT n 22 = some (.pure (run (n + 49) 22)) := by unfold ghlT ext; rw [if_neg (by decide)]; exact tb_22 _
theorem ghl_l24 (n : Nat) : ghlT n 24 = some (.pure (run (n + 49) 24)) := by unfold ghlT ext; rw [if_neg (by decide)]; exact tb_24 _
theorem ghl_l25 (n : Nat) : ghlT n 25 = some (.pure (run (n + 49) 25)) := by unfold ghlT ext; rw [if_neg (by decide)]; exact tb_25 _
theorem ghl_l26 (n : Nat) : ghlT n 26 = some (.pure (run (n + 49) 26)) := by unfold ghlT ext; rw [if_neg (by decide)]; exact tb_26 _
theorem ghl_l27 (n : Nat) : ghlT n 27 = some (.pure (run (n + 49) 27)) := by unfold ghlT ext; rw [if_neg (by decide)]; exact tb_27 _
theorem ghl_l47 (n : Nat) : ghlT n 47 = some (.pure (run (n + 49) 47)) := by unfold ghlT ext; rw [if_neg (by decide)]; exact tb_47 _
theorem ghl_l48 (n : Nat) : ghlT n 48 = some (.pure (run (n + 49) 48)) := by unfold ghlT ext; rw [if_neg (by decide)]; exact tb_48 _
section
variable {a1 : Int} {a2 : List Int} {a0 : List Int} {n : Nat} {r3 : TGraph} {r2 : TGraph} {r5 : TGraph} {r6 : Int} {r7 : Bool} {r4 : Int} {r : TGraph} {r10 : Bool} {r8 : Bool} {r9 : List Rat}
theorem ghl_f1 (C1 : 400 < (a0.length : Int)) :
    ghl n [.sl 1 (a0.map intU8C), .lit (.int .i64 a1), .sl 1 (a2.map intU8C)] = some (.lit (.bool true)) := by
  have C1_ : 400 < a0.length := by omega
  unfold ghl fnP
  simp +decide [Tryz.f10, C1, C1_, ghl_aw, awG, ghl_l20, ghl_l22, ghl_l24, ghl_l25, ghl_l26, ghl_l27, ghl_l47, ghl_l48]
theorem ghl_f2 (C1 : ¬ 400 < (a0.length : Int)) (C2 : 40 < (a2.length : Int)) :
    ghl n [.sl 1 (a0.map intU8C), .lit (.int .i64 a1), .sl 1 (a2.map intU8C)] = some (.lit (.bool true)) := by
  have C1_ : ¬ 400 < a0.length := by omega
  have C2_ : 40 < a2.length := by omega
  unfold ghl fnP
  simp +decide [Tryz.f10, C1, C1_, C2, C2_, ghl_aw, awG, ghl_l20, ghl_l22, ghl_l24, ghl_l25, ghl_l26, ghl_l27, ghl_l47, ghl_l48]
theorem ghl_f5 (C1 : ¬ 400 < (a0.length : Int)) (C2 : ¬ 40 < (a2.length : Int)) (K3 : run (n + 49) 20 [.sl 1 (a0.map intU8C)] = some (graphV r)) (K4 : run (n + 49) 22 [graphV r] = some (graphV r2)) (K5 : run (n + 49) 47 [graphV r2, .lit (.int .i64 a1)] = some (.tup [graphV r3, .lit (.int .i64 r4)])) (K6 : run (n + 49) 48 [graphV r, .lit (.int .i64 a1)] = some (.tup [graphV r5, .lit (.int .i64 r6)])) (C7 : r4 = r6) (K8 : run (n + 49) 24 [graphV r3, graphV r5] = some (.lit (.bool r7))) (C9 : r7 = true) (C10 : ¬ r4 = 0) :
    ghl n [.sl 1 (a0.map intU8C), .lit (.int .i64 a1), .sl 1 (a2.map intU8C)] = some (.lit (.bool true)) := by
  have C1_ : ¬ 400 < a0.length := by omega
  have C2_ : ¬ 40 < a2.length := by omega
  simp only [graphV] at K3
  simp only [graphV] at K4
  simp only [graphV] at K5
  simp only [graphV] at K6
  have C7_ : (r4 == r6) = true := by rw [C7]; simp
  have C7_n : (r4 != r6) = false := by rw [C7]; simp
  simp only [graphV] at K8
  have C10_ : (r4 == 0) = false := by simpa using C10
  have C10_n : (r4 != 0) = true := by simpa using C10
  unfold ghl fnP
  simp +decide [Tryz.f10, C1, C1_, C2, C2_, K3, K4, K5, K6, C7_, C7_n, K8, C9, C10_, C10_n, ghl_aw, awG, ghl_l20, ghl_l22, ghl_l24, ghl_l25, ghl_l26, ghl_l27, ghl_l47, ghl_l48]
theorem ghl_f6 (C1 : ¬ 400 < (a0.length : Int)) (C2 : ¬ 40 < (a2.length : Int)) (K3 : run (n + 49) 20 [.sl 1 (a0.map intU8C)] = some (graphV r)) (K4 : run (n + 49) 22 [graphV r] = some (graphV r2)) (K5 : run (n + 49) 47 [graphV r2, .lit (.int .i64 a1)] = some (.tup [graphV r3, .lit (.int .i64 r4)])) (K6 : run (n + 49) 48 [graphV r, .lit (.int .i64 a1)] = some (.tup [graphV r5, .lit (.int .i64 r6)])) (C7 : r4 = r6) (K8 : run (n + 49) 24 [graphV r3, graphV r5] = some (.lit (.bool r7))) (C9 : r7 = true) (C10 : r4 = 0) (K11 : run (n + 49) 25 [graphV r3] = some (.lit (.bool r8))) (C12 : r8 = true) (K13 : run (n + 49) 27 [.sl 1 (a2.map intU8C), .lit (.int .i64 (r.Inputs))] = some (.sl 3 (r9.map ratC))) (K14 : run (n + 49) 26 [graphV r3, graphV r, .sl 3 (r9.map ratC)] = some (.lit (.bool r10))) :
    ghl n [.sl 1 (a0.map intU8C), .lit (.int .i64 a1), .sl 1 (a2.map intU8C)] = some (.lit (.bool r10)) := by
  have C1_ : ¬ 400 < a0.length := by omega
  have C2_ : ¬ 40 < a2.length := by omega
  simp only [graphV] at K3
  simp only [graphV] at K4
  simp only [graphV] at K5
  simp only [graphV] at K6
  have C7_ : (r4 == r6) = true := by rw [C7]; simp
  have C7_n : (r4 != r6) = false := by rw [C7]; simp
  simp only [graphV] at K8
  have C10_ : (r4 == 0) = true := by rw [C10]; simp
  have C10_n : (r4 != 0) = false := by rw [C10]; simp
  simp only [graphV] at K11
  simp only [graphV] at K14
  unfold ghl fnP
  simp +decide [Tryz.f10, C1, C1_, C2, C2_, K3, K4, K5, K6, C7_, C7_n, K8, C9, C10_, C10_n, K11, C12, K13, K14, ghl_aw, awG, ghl_l20, ghl_l22, ghl_l24, ghl_l25, ghl_l26, ghl_l27, ghl_l47, ghl_l48]
end
end Go.Proofs.YtlpmemelhlnfbaaGreatDoor
set_option linter.all false
set_option maxRecDepth 100000
namespace Go.Proofs.YtlpmemelhlnfbaaGreatDoor
open Go.RowKit
theorem pfr_half {n : Nat} : run (n + 10) 114 [.lit (.int .i64 1), .lit (.int .i64 2)] = some (.tup [ratV (fracQ 1 2), .lit (.int .i64 0)]) := by kernel_rfl
end Go.Proofs.YtlpmemelhlnfbaaGreatDoor
set_option linter.all false
namespace Go.Proofs.YtlpmemelhlnfbaaGreatDoor
open Go.RowKit
theorem set_termC (l : List (Int × Rat)) (i : Nat) (v : Int) (q : Rat) : (l.map termC).set i [.lit (.int .i64 v), .lit (.bool (rawQ q).s), natA (rawQ q).l1, natA (rawQ q).l2] = (l.set i (v, q)).map termC := by
  rw [List.map_set]
  simp
end Go.Proofs.YtlpmemelhlnfbaaGreatDoor
set_option linter.all false
set_option maxRecDepth 100000
set_option maxHeartbeats 6400000
namespace Go.Proofs.YtlpmemelhlnfbaaGreatDoor
open Go.RowKit
noncomputable def rnd_C3 : Code := (loopsOf (bodyOf Tryz.f110)).getD 0 .skip
def rnd_h3 (a0 : Form) (a1 : List Int) (out_3 : List (Int × Rat)) (i_3 : Nat) : St :=
  ⟨[(1, .sl 1 (a1.map intI64C)), (2, .ptr 0 0), (4, .ptr 1 0), (5, .own 2 out_3.length), (6, .lit (.int .i64 (i_3 : Int)))],
   [(0, some (.box 29 [.sl 4 (a0.1.map termC), .lit (.bool (rawQ a0.2).s), natA (rawQ a0.2).l1, natA (rawQ a0.2).l2] false)),
    (1, some (.box 29 [.nl 4, .lit (.bool false), .nl 1, .nl 1] false)),
    (2, some (.row 84 4 (out_3.map termC) 0))], 3⟩
def rnd_o3a (a0 : Form) (out_3 : List (Int × Rat)) : St :=
  ⟨[(2, .ptr 0 0), (4, .ptr 1 0), (5, .own 2 out_3.length)],
   [(0, some (.box 29 [.sl 4 (a0.1.map termC), .lit (.bool (rawQ a0.2).s), natA (rawQ a0.2).l1, natA (rawQ a0.2).l2] false)),
    (1, some (.box 29 [.nl 4, .lit (.bool false), .nl 1, .nl 1] false)),
    (2, some (.row 84 4 (out_3.map termC) 0))], 3⟩
section
variable {a1 : List Int} {v3 : Int} {q3 : Rat} {out_3 : List (Int × Rat)} {a0 : Form} {x3 : Int} {i_3 : Nat} {n : Nat} {r2 : Int} {r : Form}
theorem rnd_r3_1 (C1 : (i_3 : Int) < (a0.1.length : Int)) (E2 : a0.1[i_3]? = some (v3, q3)) (E3 : a1[v3.toNat]? = some x3) (Z3 : 0 ≤ v3) (M4 : out_3.length + 1 ≤ 100000000) (W5 : InI ((i_3 : Int) + 1)) :
    Cont 0 (exec Tryz.prog (tab (n + 3)) 0 43 (livesOf 110) big rnd_C3) (livesOf 110 3) (rnd_h3 a0 a1 out_3 i_3) (rnd_h3 a0 a1 (out_3 ++ [(x3, q3)]) (i_3 + 1)) := by
  have C1_ : i_3 < a0.1.length := by omega
  obtain ⟨EL2, EG2⟩ := List.getElem?_eq_some_iff.1 E2
  obtain ⟨EL3, EG3⟩ := List.getElem?_eq_some_iff.1 E3
  have M4_ : ∀ b, b ≤ 10000 → roomy (out_3.length + 1) b = true := fun b hb => roomy_s M4 hb
  have W5_ : IntKind.i64.wrap ((i_3 : Int) + 1) = (i_3 : Int) + 1 := wr64 W5.1 W5.2
  unfold Cont
  simp +decide [rnd_h3, loopsOf, Tryz.f110, rnd_C3, C1, C1_, EL2, EG2, E2, EL3, EG3, E3, Z3, M4_, W5_]
theorem rnd_x3_1 (C1 : ¬ (i_3 : Int) < (a0.1.length : Int)) :
    Leave 0 (exec Tryz.prog (tab (n + 3)) 0 43 (livesOf 110) big rnd_C3) (livesOf 110 (outOf 3)) (rnd_h3 a0 a1 out_3 i_3) (.exit 0) (rnd_o3a a0 out_3) := by
  have C1_ : ¬ i_3 < a0.1.length := by omega
  unfold Leave
  simp +decide [rnd_h3, loopsOf, Tryz.f110, rnd_o3a, rnd_C3, C1, C1_]
theorem rnd_f1 (L1 : loopG Tryz.prog (tab (n + 3)) 0 43 (livesOf 110) 3 rnd_C3 (rnd_h3 a0 a1 [] 0) = some (.exit 0, rnd_o3a a0 out_3)) (K2 : run (n + 2) 59 [.sl 4 (out_3.map termC), ratV a0.2] = some (.tup [formV r, .lit (.int .i64 r2)])) :
    run (n + 3) 110 [formV a0, .sl 1 (a1.map intI64C)] = some (formV r) := by
  simp only [ratV, formV] at K2
  unfold run fnP
  simp +decide [Tryz.f110, K2]
  rw [loopX_G (C' := rnd_C3) (e := (rnd_h3 a0 a1 [] 0)) ?_ ?_, L1]
  rotate_left
  · kernel_rfl
  · simp +decide [rnd_h3, K2]
  simp +decide [rnd_o3a, K2]
end
end Go.Proofs.YtlpmemelhlnfbaaGreatDoor
