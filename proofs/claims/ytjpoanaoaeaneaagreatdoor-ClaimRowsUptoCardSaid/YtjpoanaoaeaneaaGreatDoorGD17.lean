import Derived.Test.YtjpoanaoaeaneaaGreatDoorGD16
set_option linter.all false
set_option maxRecDepth 100000
set_option maxHeartbeats 6400000
namespace Go.Proofs.YtjpoanaoaeaneaaGreatDoor
open Go.RowKit
theorem cva_f1 {n : Nat} {a0 : Int}  :
    run n 102 [.lit (.int .i64 a0)] = some (.agg [.sl 4 [[.lit (.int .i64 a0), .lit (.bool (rawQ (ofQ 1)).s), natA (rawQ (ofQ 1)).l1, natA (rawQ (ofQ 1)).l2]], .lit (.bool false), .sl 1 [], .sl 1 []]) := by
  have K1 := r_ofq (z := 1) (by omega) (by omega)
  unfold run fnP
  simp +decide [Tryz.f102, K1]
noncomputable def cGo_C6 : Code := (loopsOf (bodyOf Tryz.f37)).getD 0 .skip
noncomputable def cGo_C12 : Code := (loopsOf (bodyOf Tryz.f37)).getD 1 .skip
def cGo_h6 (a0 : TClaim) (a1 : Int) (out_6 : List Form) (i_6 : Nat) : St :=
  ⟨[(1, .lit (.int .i64 a1)), (2, .ptr 0 0), (6, .ptr 1 0), (7, .own 2 out_6.length), (19, .sl 4 (a0.Rows.map formC)), (20, .lit (.int .i64 (a0.Rows.length : Int))), (21, .lit (.int .i64 (i_6 : Int)))],
   [(0, some (.box 52 [.lit (.int .i64 (a0.Kind)), .lit (.int .i64 (a0.Target)), .lit (.bool (rawQ a0.Margin).s), natA (rawQ a0.Margin).l1, natA (rawQ a0.Margin).l2, .sl 4 (a0.Rows.map formC)] false)),
    (1, some (.box 28 [.nl 4, .lit (.bool (rawQ a0.Margin).s), natA (rawQ a0.Margin).l1, natA (rawQ a0.Margin).l2] false)),
    (2, some (.row 28 4 (out_6.map formC) 0))], 3⟩
def cGo_h12 (a0 : TClaim) (a1 : Int) (out_12 : List Form) (i_12 : Nat) : St :=
  ⟨[(2, .ptr 0 0), (6, .ptr 1 0), (7, .own 2 out_12.length), (35, .lit (.int .i64 a1)), (36, .lit (.int .i64 (i_12 : Int)))],
   [(0, some (.box 52 [.lit (.int .i64 (a0.Kind)), .lit (.int .i64 (a0.Target)), .lit (.bool (rawQ a0.Margin).s), natA (rawQ a0.Margin).l1, natA (rawQ a0.Margin).l2, .sl 4 (a0.Rows.map formC)] false)),
    (1, some (.box 28 [.nl 4, .lit (.bool (rawQ a0.Margin).s), natA (rawQ a0.Margin).l1, natA (rawQ a0.Margin).l2] false)),
    (2, some (.row 28 4 (out_12.map formC) 0))], 3⟩
def cGo_o6a (a0 : TClaim) (a1 : Int) (out_6 : List Form) : St :=
  ⟨[(1, .lit (.int .i64 a1)), (2, .ptr 0 0), (6, .ptr 1 0), (7, .own 2 out_6.length)],
   [(0, some (.box 52 [.lit (.int .i64 (a0.Kind)), .lit (.int .i64 (a0.Target)), .lit (.bool (rawQ a0.Margin).s), natA (rawQ a0.Margin).l1, natA (rawQ a0.Margin).l2, .sl 4 (a0.Rows.map formC)] false)),
    (1, some (.box 28 [.nl 4, .lit (.bool (rawQ a0.Margin).s), natA (rawQ a0.Margin).l1, natA (rawQ a0.Margin).l2] false)),
    (2, some (.row 28 4 (out_6.map formC) 0))], 3⟩
def cGo_o12a (out_12 : List Form) : St :=
  ⟨[(7, .own 0 out_12.length)],
   [(0, some (.row 28 4 (out_12.map formC) 0))], 1⟩
section
variable {out_6 : List Form} {i_6 : Nat} {q3 : Rat} {r4 : Form} {a1 : Int} {F3 : List (Int × Rat)} {a0 : TClaim} {n : Nat} {r14 : Form} {i_12 : Nat} {r13 : Form} {r15 : Form} {r16 : Form} {out_12 : List Form} {r : Bool}
theorem cGo_r6_1 (C1 : (i_6 : Int) < (a0.Rows.length : Int)) (E2 : a0.Rows[i_6]? = some (F3, q3)) (K3 : run (n + 4) 101 [formV (F3, q3), .agg [.sl 4 [], .lit (.bool (rawQ a0.Margin).s), natA (rawQ a0.Margin).l1, natA (rawQ a0.Margin).l2]] = some (formV r4)) (M4 : out_6.length + 1 ≤ 100000000) (W5 : InI ((i_6 : Int) + 1)) :
    Cont 0 (exec Tryz.prog (tab (n + 5)) 0 56 (livesOf 37) big cGo_C6) (livesOf 37 6) (cGo_h6 a0 a1 out_6 i_6) (cGo_h6 a0 a1 (out_6 ++ [r4]) (i_6 + 1)) := by
  have C1_ : i_6 < a0.Rows.length := by omega
  obtain ⟨EL2, EG2⟩ := List.getElem?_eq_some_iff.1 E2
  simp only [formV] at K3
  have M4_ : ∀ b, b ≤ 10000 → roomy (out_6.length + 1) b = true := fun b hb => roomy_s M4 hb
  have W5_ : IntKind.i64.wrap ((i_6 : Int) + 1) = (i_6 : Int) + 1 := wr64 W5.1 W5.2
  unfold Cont
  simp +decide [cGo_h6, loopsOf, Tryz.f37, cGo_C6, C1, C1_, EL2, EG2, E2, K3, M4_, W5_]
theorem cGo_x6_1 (C1 : ¬ (i_6 : Int) < (a0.Rows.length : Int)) :
    Leave 0 (exec Tryz.prog (tab (n + 5)) 0 56 (livesOf 37) big cGo_C6) (livesOf 37 (outOf 6)) (cGo_h6 a0 a1 out_6 i_6) (.exit 0) (cGo_o6a a0 a1 out_6) := by
  have C1_ : ¬ i_6 < a0.Rows.length := by omega
  unfold Leave
  simp +decide [cGo_h6, loopsOf, Tryz.f37, cGo_o6a, cGo_C6, C1, C1_]
theorem cGo_r12_1 (C1 : (i_12 : Int) < a1) (C2 : ¬ (i_12 : Int) = a0.Target) (K3 : run (n + 4) 102 [.lit (.int .i64 (a0.Target))] = some (formV r13)) (K4 : run (n + 4) 102 [.lit (.int .i64 (i_12 : Int))] = some (formV r14)) (K5 : run (n + 4) 101 [formV r13, formV r14] = some (formV r15)) (K6 : run (n + 4) 101 [formV r15, .agg [.sl 4 [], .lit (.bool (rawQ a0.Margin).s), natA (rawQ a0.Margin).l1, natA (rawQ a0.Margin).l2]] = some (formV r16)) (M7 : out_12.length + 1 ≤ 100000000) (W8 : InI ((i_12 : Int) + 1)) :
    Cont 0 (exec Tryz.prog (tab (n + 5)) 0 56 (livesOf 37) big cGo_C12) (livesOf 37 12) (cGo_h12 a0 a1 out_12 i_12) (cGo_h12 a0 a1 (out_12 ++ [r16]) (i_12 + 1)) := by
  have C2_ : ((i_12 : Int) == a0.Target) = false := by simpa using C2
  have C2_n : ((i_12 : Int) != a0.Target) = true := by simpa using C2
  simp only [formV] at K3
  simp only [formV] at K4
  simp only [formV] at K5
  simp only [formV] at K6
  have M7_ : ∀ b, b ≤ 10000 → roomy (out_12.length + 1) b = true := fun b hb => roomy_s M7 hb
  have W8_ : IntKind.i64.wrap ((i_12 : Int) + 1) = (i_12 : Int) + 1 := wr64 W8.1 W8.2
  unfold Cont
  simp +decide [cGo_h12, loopsOf, Tryz.f37, cGo_C12, C1, C2_, C2_n, K3, K4, K5, K6, M7_, W8_]
theorem cGo_r12_2 (C1 : (i_12 : Int) < a1) (C2 : (i_12 : Int) = a0.Target) (W3 : InI ((i_12 : Int) + 1)) :
    Cont 0 (exec Tryz.prog (tab (n + 5)) 0 56 (livesOf 37) big cGo_C12) (livesOf 37 12) (cGo_h12 a0 a1 out_12 i_12) (cGo_h12 a0 a1 out_12 (i_12 + 1)) := by
  have C2_ : ((i_12 : Int) == a0.Target) = true := by rw [C2]; simp
  have C2_n : ((i_12 : Int) != a0.Target) = false := by rw [C2]; simp
  have W3_ : IntKind.i64.wrap ((i_12 : Int) + 1) = (i_12 : Int) + 1 := wr64 W3.1 W3.2
  unfold Cont
  simp +decide [cGo_h12, loopsOf, Tryz.f37, cGo_C12, C1, C2_, C2_n, W3_]
theorem cGo_x12_1 (C1 : ¬ (i_12 : Int) < a1) :
    Leave 0 (exec Tryz.prog (tab (n + 5)) 0 56 (livesOf 37) big cGo_C12) (livesOf 37 (outOf 12)) (cGo_h12 a0 a1 out_12 i_12) (.exit 2) (cGo_o12a out_12) := by
  unfold Leave
  simp +decide [cGo_h12, loopsOf, Tryz.f37, cGo_o12a, cGo_C12, C1]
theorem cGo_f2 (K1 : run (n + 4) 40 [claimV a0, .lit (.int .i64 a1)] = some (.lit (.bool r))) (C2 : r = true) (L3 : loopG Tryz.prog (tab (n + 5)) 0 56 (livesOf 37) 6 cGo_C6 (cGo_h6 a0 a1 [] 0) = some (.exit 0, cGo_o6a a0 a1 out_6)) (C4 : a0.Kind = 1) (L5 : loopG Tryz.prog (tab (n + 5)) 0 56 (livesOf 37) 12 cGo_C12 (cGo_h12 a0 a1 out_6 0) = some (.exit 2, cGo_o12a out_12)) :
    run (n + 5) 37 [claimV a0, .lit (.int .i64 a1)] = some (.tup [.sl 4 (out_12.map formC), .lit (.int .i64 0)]) := by
  simp only [claimV] at K1
  have C4_ : (a0.Kind == 1) = true := by rw [C4]; simp
  have C4_n : (a0.Kind != 1) = false := by rw [C4]; simp
  unfold run fnP
  simp +decide [Tryz.f37, K1, C2, C4_, C4_n]
  rw [loopX_G (C' := cGo_C6) (e := (cGo_h6 a0 a1 [] 0)) ?_ ?_, L3]
  rotate_left
  · kernel_rfl
  · simp +decide [cGo_h6, K1, C2, C4_, C4_n]
  simp +decide [cGo_o6a, K1, C2, C4_, C4_n]
  rw [loopX_G (C' := cGo_C12) (e := (cGo_h12 a0 a1 out_6 0)) ?_ ?_, L5]
  rotate_left
  · kernel_rfl
  · simp +decide [cGo_h12, K1, C2, C4_, C4_n]
  simp +decide [cGo_o12a, K1, C2, C4_, C4_n]
theorem cGo_f3 (K1 : run (n + 4) 40 [claimV a0, .lit (.int .i64 a1)] = some (.lit (.bool r))) (C2 : r = true) (L3 : loopG Tryz.prog (tab (n + 5)) 0 56 (livesOf 37) 6 cGo_C6 (cGo_h6 a0 a1 [] 0) = some (.exit 0, cGo_o6a a0 a1 out_6)) (C4 : ¬ a0.Kind = 1) :
    run (n + 5) 37 [claimV a0, .lit (.int .i64 a1)] = some (.tup [.sl 4 (out_6.map formC), .lit (.int .i64 0)]) := by
  simp only [claimV] at K1
  have C4_ : (a0.Kind == 1) = false := by simpa using C4
  have C4_n : (a0.Kind != 1) = true := by simpa using C4
  unfold run fnP
  simp +decide [Tryz.f37, K1, C2, C4_, C4_n]
  rw [loopX_G (C' := cGo_C6) (e := (cGo_h6 a0 a1 [] 0)) ?_ ?_, L3]
  rotate_left
  · kernel_rfl
  · simp +decide [cGo_h6, K1, C2, C4_, C4_n]
  simp +decide [cGo_o6a, K1, C2, C4_, C4_n]
end
end Go.Proofs.YtjpoanaoaeaneaaGreatDoor
set_option linter.all false
set_option maxRecDepth 100000
set_option maxHeartbeats 6400000
namespace Go.Proofs.YtjpoanaoaeaneaaGreatDoor
open Go.RowKit
theorem nbr_f1 {n : Nat} {a0 : Rat}  :
    run n 103 [ratV a0] = some (.agg [.sl 4 [], .lit (.bool (rawQ a0).s), natA (rawQ a0).l1, natA (rawQ a0).l2]) := by
  unfold run fnP
  simp +decide [Tryz.f103]
theorem vr_f1 {n : Nat} {a0 : Int}  :
    run n 105 [.lit (.int .i64 a0)] = some (.agg [.sl 4 [[.lit (.int .i64 a0), .lit (.bool (rawQ (ofQ 1)).s), natA (rawQ (ofQ 1)).l1, natA (rawQ (ofQ 1)).l2]], .lit (.bool false), .sl 1 [], .sl 1 []]) := by
  have K1 := r_ofq (z := 1) (by omega) (by omega)
  unfold run fnP
  simp +decide [Tryz.f105, K1]
theorem fsu_f1 {n : Nat} {a0 : Form} {a1 : Form} {r : Form} {r2 : Form} (K2 : run (n + 2) 180 [formV a1, ratV (ofQ (-1))] = some (formV r)) (K3 : run (n + 2) 179 [formV a0, formV r] = some (formV r2)) :
    run (n + 3) 104 [formV a0, formV a1] = some (formV r2) := by
  have K1 := r_ofq (z := (-1)) (by omega) (by omega)
  simp only [ratV, formV] at K2
  simp only [formV] at K3
  unfold run fnP
  simp +decide [Tryz.f104, K1, K2, K3]
noncomputable def fGo_C7 : Code := (loopsOf (bodyOf Tryz.f39)).getD 0 .skip
noncomputable def fGo_C12 : Code := (loopsOf (bodyOf Tryz.f39)).getD 1 .skip
def fGo_h7 (a0 : TClaim) (out_7 : List Form) (i_7 : Nat) (r2 : Form) : St :=
  ⟨[(2, .ptr 0 0), (6, .own 1 out_7.length), (7, .ptr 2 0), (8, .lit (.int .i64 (i_7 : Int)))],
   [(0, some (.box 52 [.lit (.int .i64 (a0.Kind)), .lit (.int .i64 (a0.Target)), .lit (.bool (rawQ a0.Margin).s), natA (rawQ a0.Margin).l1, natA (rawQ a0.Margin).l2, .sl 4 (a0.Rows.map formC)] false)),
    (1, some (.row 28 4 (out_7.map formC) 0)),
    (2, some (.box 28 [.sl 4 (r2.1.map termC), .lit (.bool (rawQ r2.2).s), natA (rawQ r2.2).l1, natA (rawQ r2.2).l2] false))], 3⟩
def fGo_h12 (a0 : TClaim) (a1 : Int) (out_12 : List Form) (i_12 : Nat) (r2 : Form) : St :=
  ⟨[(1, .lit (.int .i64 a1)), (2, .ptr 0 0), (6, .own 1 out_12.length), (7, .ptr 2 0), (9, .lit (.int .i64 (i_12 : Int)))],
   [(0, some (.box 52 [.lit (.int .i64 (a0.Kind)), .lit (.int .i64 (a0.Target)), .lit (.bool (rawQ a0.Margin).s), natA (rawQ a0.Margin).l1, natA (rawQ a0.Margin).l2, .sl 4 (a0.Rows.map formC)] false)),
    (1, some (.row 28 4 (out_12.map formC) 0)),
    (2, some (.box 28 [.sl 4 (r2.1.map termC), .lit (.bool (rawQ r2.2).s), natA (rawQ r2.2).l1, natA (rawQ r2.2).l2] false))], 3⟩
def fGo_o7a (out_7 : List Form) : St :=
  ⟨[(6, .own 0 out_7.length)],
   [(0, some (.row 28 4 (out_7.map formC) 0))], 1⟩
def fGo_o12a (out_12 : List Form) : St :=
  ⟨[(6, .own 0 out_12.length)],
   [(0, some (.row 28 4 (out_12.map formC) 0))], 1⟩
section
variable {out_7 : List Form} {i_7 : Nat} {r5 : Form} {r2 : Form} {q3 : Rat} {F3 : List (Int × Rat)} {a0 : TClaim} {n : Nat} {r14 : Form} {i_12 : Nat} {r15 : Form} {r17 : Form} {r16 : Form} {a1 : Int} {out_12 : List Form} {r : Bool}
theorem fGo_r7_1 (C1 : (i_7 : Int) < (a0.Rows.length : Int)) (E2 : a0.Rows[i_7]? = some (F3, q3)) (K3 : run (n + 3) 104 [formV (F3, q3), formV r2] = some (formV r5)) (M4 : out_7.length + 1 ≤ 100000000) (W5 : InI ((i_7 : Int) + 1)) :
    Cont 0 (exec Tryz.prog (tab (n + 4)) 0 59 (livesOf 39) big fGo_C7) (livesOf 39 7) (fGo_h7 a0 out_7 i_7 r2) (fGo_h7 a0 (out_7 ++ [r5]) (i_7 + 1) r2) := by
  have C1_ : i_7 < a0.Rows.length := by omega
  obtain ⟨EL2, EG2⟩ := List.getElem?_eq_some_iff.1 E2
  simp only [formV] at K3
  have M4_ : ∀ b, b ≤ 10000 → roomy (out_7.length + 1) b = true := fun b hb => roomy_s M4 hb
  have W5_ : IntKind.i64.wrap ((i_7 : Int) + 1) = (i_7 : Int) + 1 := wr64 W5.1 W5.2
  unfold Cont
  simp +decide [fGo_h7, loopsOf, Tryz.f39, fGo_C7, C1, C1_, EL2, EG2, E2, K3, M4_, W5_]
theorem fGo_x7_1 (C1 : ¬ (i_7 : Int) < (a0.Rows.length : Int)) :
    Leave 0 (exec Tryz.prog (tab (n + 4)) 0 59 (livesOf 39) big fGo_C7) (livesOf 39 (outOf 7)) (fGo_h7 a0 out_7 i_7 r2) (.exit 0) (fGo_o7a out_7) := by
  have C1_ : ¬ i_7 < a0.Rows.length := by omega
  unfold Leave
  simp +decide [fGo_h7, loopsOf, Tryz.f39, fGo_o7a, fGo_C7, C1, C1_]
theorem fGo_r12_1 (C1 : (i_12 : Int) < a1) (C2 : ¬ (i_12 : Int) = a0.Target) (K3 : run (n + 3) 105 [.lit (.int .i64 (a0.Target))] = some (formV r14)) (K4 : run (n + 3) 105 [.lit (.int .i64 (i_12 : Int))] = some (formV r15)) (K5 : run (n + 3) 104 [formV r14, formV r15] = some (formV r16)) (K6 : run (n + 3) 104 [formV r16, formV r2] = some (formV r17)) (M7 : out_12.length + 1 ≤ 100000000) (W8 : InI ((i_12 : Int) + 1)) :
    Cont 0 (exec Tryz.prog (tab (n + 4)) 0 59 (livesOf 39) big fGo_C12) (livesOf 39 12) (fGo_h12 a0 a1 out_12 i_12 r2) (fGo_h12 a0 a1 (out_12 ++ [r17]) (i_12 + 1) r2) := by
  have C2_ : ((i_12 : Int) == a0.Target) = false := by simpa using C2
  have C2_n : ((i_12 : Int) != a0.Target) = true := by simpa using C2
  simp only [formV] at K3
  simp only [formV] at K4
  simp only [formV] at K5
  simp only [formV] at K6
  have M7_ : ∀ b, b ≤ 10000 → roomy (out_12.length + 1) b = true := fun b hb => roomy_s M7 hb
  have W8_ : IntKind.i64.wrap ((i_12 : Int) + 1) = (i_12 : Int) + 1 := wr64 W8.1 W8.2
  unfold Cont
  simp +decide [fGo_h12, loopsOf, Tryz.f39, fGo_C12, C1, C2_, C2_n, K3, K4, K5, K6, M7_, W8_]
theorem fGo_r12_2 (C1 : (i_12 : Int) < a1) (C2 : (i_12 : Int) = a0.Target) (W3 : InI ((i_12 : Int) + 1)) :
    Cont 0 (exec Tryz.prog (tab (n + 4)) 0 59 (livesOf 39) big fGo_C12) (livesOf 39 12) (fGo_h12 a0 a1 out_12 i_12 r2) (fGo_h12 a0 a1 out_12 (i_12 + 1) r2) := by
  have C2_ : ((i_12 : Int) == a0.Target) = true := by rw [C2]; simp
  have C2_n : ((i_12 : Int) != a0.Target) = false := by rw [C2]; simp
  have W3_ : IntKind.i64.wrap ((i_12 : Int) + 1) = (i_12 : Int) + 1 := wr64 W3.1 W3.2
  unfold Cont
  simp +decide [fGo_h12, loopsOf, Tryz.f39, fGo_C12, C1, C2_, C2_n, W3_]
theorem fGo_x12_1 (C1 : ¬ (i_12 : Int) < a1) :
    Leave 0 (exec Tryz.prog (tab (n + 4)) 0 59 (livesOf 39) big fGo_C12) (livesOf 39 (outOf 12)) (fGo_h12 a0 a1 out_12 i_12 r2) (.exit 2) (fGo_o12a out_12) := by
  unfold Leave
  simp +decide [fGo_h12, loopsOf, Tryz.f39, fGo_o12a, fGo_C12, C1]
theorem fGo_f2 (K1 : run (n + 3) 41 [claimV a0, .lit (.int .i64 a1)] = some (.lit (.bool r))) (C2 : r = true) (K3 : run (n + 3) 103 [ratV a0.Margin] = some (formV r2)) (C4 : a0.Kind = 2) (L5 : loopG Tryz.prog (tab (n + 4)) 0 59 (livesOf 39) 7 fGo_C7 (fGo_h7 a0 [] 0 r2) = some (.exit 0, fGo_o7a out_7)) :
    run (n + 4) 39 [claimV a0, .lit (.int .i64 a1)] = some (.tup [.sl 4 (out_7.map formC), .lit (.int .i64 0)]) := by
  simp only [claimV] at K1
  simp only [ratV, formV] at K3
  have C4_ : (a0.Kind == 2) = true := by rw [C4]; simp
  have C4_n : (a0.Kind != 2) = false := by rw [C4]; simp
  unfold run fnP
  simp +decide [Tryz.f39, K1, C2, K3, C4_, C4_n]
  rw [loopX_G (C' := fGo_C7) (e := (fGo_h7 a0 [] 0 r2)) ?_ ?_, L5]
  rotate_left
  · kernel_rfl
  · simp +decide [fGo_h7, K1, C2, K3, C4_, C4_n]
  simp +decide [fGo_o7a, K1, C2, K3, C4_, C4_n]
theorem fGo_f3 (K1 : run (n + 3) 41 [claimV a0, .lit (.int .i64 a1)] = some (.lit (.bool r))) (C2 : r = true) (K3 : run (n + 3) 103 [ratV a0.Margin] = some (formV r2)) (C4 : ¬ a0.Kind = 2) (L5 : loopG Tryz.prog (tab (n + 4)) 0 59 (livesOf 39) 12 fGo_C12 (fGo_h12 a0 a1 [] 0 r2) = some (.exit 2, fGo_o12a out_12)) :
    run (n + 4) 39 [claimV a0, .lit (.int .i64 a1)] = some (.tup [.sl 4 (out_12.map formC), .lit (.int .i64 0)]) := by
  simp only [claimV] at K1
  simp only [ratV, formV] at K3
  have C4_ : (a0.Kind == 2) = false := by simpa using C4
  have C4_n : (a0.Kind != 2) = true := by simpa using C4
  unfold run fnP
  simp +decide [Tryz.f39, K1, C2, K3, C4_, C4_n]
  rw [loopX_G (C' := fGo_C12) (e := (fGo_h12 a0 a1 [] 0 r2)) ?_ ?_, L5]
  rotate_left
  · kernel_rfl
  · simp +decide [fGo_h12, K1, C2, K3, C4_, C4_n]
  simp +decide [fGo_o12a, K1, C2, K3, C4_, C4_n]
end
end Go.Proofs.YtjpoanaoaeaneaaGreatDoor
set_option linter.all false
set_option maxRecDepth 100000
set_option maxHeartbeats 6400000
namespace Go.Proofs.YtjpoanaoaeaneaaGreatDoor
open Go.RowKit
section
variable {a0 : Raw} {n : Nat}
theorem shC_f1 (C1 : (a0.l1.length : Int) ≤ 2) :
    run n 58 [.agg [.lit (.bool a0.s), natA a0.l1, natA a0.l2]] = some (.lit (.bool (decide ((a0.l2.length : Int) ≤ 2)))) := by
  have C1_ : a0.l1.length ≤ 2 := by omega
  unfold run fnP
  simp +decide [Tryz.f58, C1, C1_]
theorem shC_f2 (C1 : ¬ (a0.l1.length : Int) ≤ 2) :
    run n 58 [.agg [.lit (.bool a0.s), natA a0.l1, natA a0.l2]] = some (.lit (.bool false)) := by
  have C1_ : ¬ a0.l1.length ≤ 2 := by omega
  unfold run fnP
  simp +decide [Tryz.f58, C1, C1_]
end
noncomputable def fwC_C4 : Code := (loopsOf (bodyOf Tryz.f36)).getD 0 .skip
noncomputable def fwC_C9 : Code := (loopsOf fwC_C4).getD 0 .skip
def fwC_h9 (a0 : TClaimR) (i_4 : Nat) (i_9 : Nat) : St :=
  ⟨[(1, .ptr 0 0), (3, .lit (.int .i64 (i_4 : Int))), (4, .lit (.int .i64 (i_9 : Int)))],
   [(0, some (.box 52 [.lit (.int .i64 (a0.Kind)), .lit (.int .i64 (a0.Target)), .lit (.bool a0.Margin.s), natA a0.Margin.l1, natA a0.Margin.l2, .sl 4 (a0.Rows.map formRC)] false))], 1⟩
def fwC_h4 (a0 : TClaimR) (i_4 : Nat) : St :=
  ⟨[(1, .ptr 0 0), (3, .lit (.int .i64 (i_4 : Int)))],
   [(0, some (.box 52 [.lit (.int .i64 (a0.Kind)), .lit (.int .i64 (a0.Target)), .lit (.bool a0.Margin.s), natA a0.Margin.l1, natA a0.Margin.l2, .sl 4 (a0.Rows.map formRC)] false))], 1⟩
def fwC_o9a (a0 : TClaimR) (i_4 : Nat) : St :=
  ⟨[(1, .ptr 0 0), (2, .lit (.bool false)), (3, .lit (.int .i64 (i_4 : Int)))],
   [(0, some (.box 52 [.lit (.int .i64 (a0.Kind)), .lit (.int .i64 (a0.Target)), .lit (.bool a0.Margin.s), natA a0.Margin.l1, natA a0.Margin.l2, .sl 4 (a0.Rows.map formRC)] false))], 1⟩
def fwC_o9b (a0 : TClaimR) (i_4 : Nat) : St :=
  ⟨[(1, .ptr 0 0), (2, .any), (3, .lit (.int .i64 (i_4 : Int)))],
   [(0, some (.box 52 [.lit (.int .i64 (a0.Kind)), .lit (.int .i64 (a0.Target)), .lit (.bool a0.Margin.s), natA a0.Margin.l1, natA a0.Margin.l2, .sl 4 (a0.Rows.map formRC)] false))], 1⟩
def fwC_o4a  : St :=
  ⟨[(2, .lit (.bool false))],
   [], 0⟩
def fwC_o4b  : St :=
  ⟨[(2, .any)],
   [], 0⟩
section
variable {r32 : Raw} {r34 : Bool} {v9 : Int} {F12 : List (Int × Raw)} {i_4 : Nat} {r33 : Raw} {i_9 : Nat} {a0 : TClaimR} {n : Nat} {r24 : Raw} {F9 : List (Int × Raw)} {r25 : Bool} {r : Bool}
theorem fwC_r9_1 (E1 : a0.Rows[i_4]? = some (F12, r32)) (C2 : (i_9 : Int) < (F12.length : Int)) (E3 : F12[i_9]? = some (v9, r33)) (K4 : run n 58 [.agg [.lit (.bool r33.s), natA r33.l1, natA r33.l2]] = some (.lit (.bool r34))) (C5 : r34 = true) (W6 : InI ((i_9 : Int) + 1)) :
    Cont 0 (exec Tryz.prog (tab (n + 1)) 0 63 (livesOf 36) big fwC_C9) (livesOf 36 9) (fwC_h9 a0 i_4 i_9) (fwC_h9 a0 i_4 (i_9 + 1)) := by
  obtain ⟨EL1, EG1⟩ := List.getElem?_eq_some_iff.1 E1
  have C2_ : i_9 < F12.length := by omega
  obtain ⟨EL3, EG3⟩ := List.getElem?_eq_some_iff.1 E3
  have W6_ : IntKind.i64.wrap ((i_9 : Int) + 1) = (i_9 : Int) + 1 := wr64 W6.1 W6.2
  unfold Cont
  simp +decide [fwC_h9, loopsOf, Tryz.f36, fwC_C4, fwC_C9, EL1, EG1, E1, C2, C2_, EL3, EG3, E3, K4, C5, W6_]
theorem fwC_x9_1 (E1 : a0.Rows[i_4]? = some (F12, r32)) (C2 : (i_9 : Int) < (F12.length : Int)) (E3 : F12[i_9]? = some (v9, r33)) (K4 : run n 58 [.agg [.lit (.bool r33.s), natA r33.l1, natA r33.l2]] = some (.lit (.bool r34))) (C5 : r34 = false) :
    Leave 0 (exec Tryz.prog (tab (n + 1)) 0 63 (livesOf 36) big fwC_C9) (livesOf 36 (outOf 9)) (fwC_h9 a0 i_4 i_9) (.ret) (fwC_o9a a0 i_4) := by
  obtain ⟨EL1, EG1⟩ := List.getElem?_eq_some_iff.1 E1
  have C2_ : i_9 < F12.length := by omega
  obtain ⟨EL3, EG3⟩ := List.getElem?_eq_some_iff.1 E3
  unfold Leave
  simp +decide [fwC_h9, loopsOf, Tryz.f36, fwC_o9a, fwC_C4, fwC_C9, EL1, EG1, E1, C2, C2_, EL3, EG3, E3, K4, C5]
theorem fwC_x9_2 (E1 : a0.Rows[i_4]? = some (F12, r32)) (C2 : ¬ (i_9 : Int) < (F12.length : Int)) :
    Leave 0 (exec Tryz.prog (tab (n + 1)) 0 63 (livesOf 36) big fwC_C9) (livesOf 36 (outOf 9)) (fwC_h9 a0 i_4 i_9) (.exit 2) (fwC_o9b a0 i_4) := by
  obtain ⟨EL1, EG1⟩ := List.getElem?_eq_some_iff.1 E1
  have C2_ : ¬ i_9 < F12.length := by omega
  unfold Leave
  simp +decide [fwC_h9, loopsOf, Tryz.f36, fwC_o9b, fwC_C4, fwC_C9, EL1, EG1, E1, C2, C2_]
theorem fwC_r4_1 (C1 : (i_4 : Int) < (a0.Rows.length : Int)) (E2 : a0.Rows[i_4]? = some (F9, r24)) (C3 : ¬ 6 < (F9.length : Int)) (K4 : run n 58 [.agg [.lit (.bool r24.s), natA r24.l1, natA r24.l2]] = some (.lit (.bool r25))) (C5 : r25 = true) (L6 : loopG Tryz.prog (tab (n + 1)) 0 63 (livesOf 36) 9 fwC_C9 (fwC_h9 a0 i_4 0) = some (.exit 2, fwC_o9b a0 i_4)) (W7 : InI ((i_4 : Int) + 1)) :
    Cont 0 (exec Tryz.prog (tab (n + 1)) 0 63 (livesOf 36) big fwC_C4) (livesOf 36 4) (fwC_h4 a0 i_4) (fwC_h4 a0 (i_4 + 1)) := by
  have C1_ : i_4 < a0.Rows.length := by omega
  obtain ⟨EL2, EG2⟩ := List.getElem?_eq_some_iff.1 E2
  have C3_ : ¬ 6 < F9.length := by omega
  have W7_ : IntKind.i64.wrap ((i_4 : Int) + 1) = (i_4 : Int) + 1 := wr64 W7.1 W7.2
  unfold Cont
  simp +decide [fwC_h4, loopsOf, Tryz.f36, fwC_C4, C1, C1_, EL2, EG2, E2, C3, C3_, K4, C5, W7_]
  rw [loopX_G (C' := fwC_C9) (e := (fwC_h9 a0 i_4 0)) ?_ ?_, L6]
  rotate_left
  · kernel_rfl
  · simp +decide [fwC_h9, loopsOf, Tryz.f36, fwC_C4, C1, C1_, EL2, EG2, E2, C3, C3_, K4, C5, W7_]
  simp +decide [fwC_o9b, loopsOf, Tryz.f36, fwC_C4, C1, C1_, EL2, EG2, E2, C3, C3_, K4, C5, W7_]
theorem fwC_x4_1 (C1 : (i_4 : Int) < (a0.Rows.length : Int)) (E2 : a0.Rows[i_4]? = some (F9, r24)) (C3 : 6 < (F9.length : Int)) :
    Leave 0 (exec Tryz.prog (tab (n + 1)) 0 63 (livesOf 36) big fwC_C4) (livesOf 36 (outOf 4)) (fwC_h4 a0 i_4) (.ret) (fwC_o4a ) := by
  have C1_ : i_4 < a0.Rows.length := by omega
  obtain ⟨EL2, EG2⟩ := List.getElem?_eq_some_iff.1 E2
  have C3_ : 6 < F9.length := by omega
  unfold Leave
  simp +decide [fwC_h4, loopsOf, Tryz.f36, fwC_o4a, fwC_C4, C1, C1_, EL2, EG2, E2, C3, C3_]
theorem fwC_x4_2 (C1 : (i_4 : Int) < (a0.Rows.length : Int)) (E2 : a0.Rows[i_4]? = some (F9, r24)) (C3 : ¬ 6 < (F9.length : Int)) (K4 : run n 58 [.agg [.lit (.bool r24.s), natA r24.l1, natA r24.l2]] = some (.lit (.bool r25))) (C5 : r25 = false) :
    Leave 0 (exec Tryz.prog (tab (n + 1)) 0 63 (livesOf 36) big fwC_C4) (livesOf 36 (outOf 4)) (fwC_h4 a0 i_4) (.ret) (fwC_o4a ) := by
  have C1_ : i_4 < a0.Rows.length := by omega
  obtain ⟨EL2, EG2⟩ := List.getElem?_eq_some_iff.1 E2
  have C3_ : ¬ 6 < F9.length := by omega
  unfold Leave
  simp +decide [fwC_h4, loopsOf, Tryz.f36, fwC_o4a, fwC_C4, C1, C1_, EL2, EG2, E2, C3, C3_, K4, C5]
theorem fwC_x4_3 (C1 : (i_4 : Int) < (a0.Rows.length : Int)) (E2 : a0.Rows[i_4]? = some (F9, r24)) (C3 : ¬ 6 < (F9.length : Int)) (K4 : run n 58 [.agg [.lit (.bool r24.s), natA r24.l1, natA r24.l2]] = some (.lit (.bool r25))) (C5 : r25 = true) (L6 : loopG Tryz.prog (tab (n + 1)) 0 63 (livesOf 36) 9 fwC_C9 (fwC_h9 a0 i_4 0) = some (.ret, fwC_o9a a0 i_4)) :
    Leave 0 (exec Tryz.prog (tab (n + 1)) 0 63 (livesOf 36) big fwC_C4) (livesOf 36 (outOf 4)) (fwC_h4 a0 i_4) (.ret) (fwC_o4a ) := by
  have C1_ : i_4 < a0.Rows.length := by omega
  obtain ⟨EL2, EG2⟩ := List.getElem?_eq_some_iff.1 E2
  have C3_ : ¬ 6 < F9.length := by omega
  unfold Leave
  simp +decide [fwC_h4, loopsOf, Tryz.f36, fwC_o4a, fwC_C4, C1, C1_, EL2, EG2, E2, C3, C3_, K4, C5]
  rw [loopX_G (C' := fwC_C9) (e := (fwC_h9 a0 i_4 0)) ?_ ?_, L6]
  rotate_left
  · kernel_rfl
  · simp +decide [fwC_h9, loopsOf, Tryz.f36, fwC_o4a, fwC_C4, C1, C1_, EL2, EG2, E2, C3, C3_, K4, C5]
  simp +decide [fwC_o9a, loopsOf, Tryz.f36, fwC_o4a, fwC_C4, C1, C1_, EL2, EG2, E2, C3, C3_, K4, C5]
theorem fwC_x4_4 (C1 : ¬ (i_4 : Int) < (a0.Rows.length : Int)) :
    Leave 0 (exec Tryz.prog (tab (n + 1)) 0 63 (livesOf 36) big fwC_C4) (livesOf 36 (outOf 4)) (fwC_h4 a0 i_4) (.exit 0) (fwC_o4b ) := by
  have C1_ : ¬ i_4 < a0.Rows.length := by omega
  unfold Leave
  simp +decide [fwC_h4, loopsOf, Tryz.f36, fwC_o4b, fwC_C4, C1, C1_]
theorem fwC_f1 (C1 : 6 < (a0.Rows.length : Int)) :
    run (n + 1) 36 [claimRV a0] = some (.lit (.bool false)) := by
  have C1_ : 6 < a0.Rows.length := by omega
  unfold run fnP
  simp +decide [Tryz.f36, C1, C1_]
theorem fwC_f2 (C1 : ¬ 6 < (a0.Rows.length : Int)) (K2 : run n 58 [.agg [.lit (.bool a0.Margin.s), natA a0.Margin.l1, natA a0.Margin.l2]] = some (.lit (.bool r))) (C3 : r = false) :
    run (n + 1) 36 [claimRV a0] = some (.lit (.bool false)) := by
  have C1_ : ¬ 6 < a0.Rows.length := by omega
  unfold run fnP
  simp +decide [Tryz.f36, C1, C1_, K2, C3]
theorem fwC_f3 (C1 : ¬ 6 < (a0.Rows.length : Int)) (K2 : run n 58 [.agg [.lit (.bool a0.Margin.s), natA a0.Margin.l1, natA a0.Margin.l2]] = some (.lit (.bool r))) (C3 : r = true) (L4 : loopG Tryz.prog (tab (n + 1)) 0 63 (livesOf 36) 4 fwC_C4 (fwC_h4 a0 0) = some (.ret, fwC_o4a )) :
    run (n + 1) 36 [claimRV a0] = some (.lit (.bool false)) := by
  have C1_ : ¬ 6 < a0.Rows.length := by omega
  unfold run fnP
  simp +decide [Tryz.f36, C1, C1_, K2, C3]
  rw [loopX_G (C' := fwC_C4) (e := (fwC_h4 a0 0)) ?_ ?_, L4]
  rotate_left
  · kernel_rfl
  · simp +decide [fwC_h4, C1, C1_, K2, C3]
  simp +decide [fwC_o4a, C1, C1_, K2, C3]
theorem fwC_f4 (C1 : ¬ 6 < (a0.Rows.length : Int)) (K2 : run n 58 [.agg [.lit (.bool a0.Margin.s), natA a0.Margin.l1, natA a0.Margin.l2]] = some (.lit (.bool r))) (C3 : r = true) (L4 : loopG Tryz.prog (tab (n + 1)) 0 63 (livesOf 36) 4 fwC_C4 (fwC_h4 a0 0) = some (.exit 0, fwC_o4b )) :
    run (n + 1) 36 [claimRV a0] = some (.lit (.bool true)) := by
  have C1_ : ¬ 6 < a0.Rows.length := by omega
  unfold run fnP
  simp +decide [Tryz.f36, C1, C1_, K2, C3]
  rw [loopX_G (C' := fwC_C4) (e := (fwC_h4 a0 0)) ?_ ?_, L4]
  rotate_left
  · kernel_rfl
  · simp +decide [fwC_h4, C1, C1_, K2, C3]
  simp +decide [fwC_o4b, C1, C1_, K2, C3]
end
noncomputable def opC_C2 : Code := (loopsOf (bodyOf Tryz.f43)).getD 0 .skip
def opC_h2 (a0 : List Raw) (i_2 : Nat) : St :=
  ⟨[(0, .sl 3 (a0.map rawC)), (3, .lit (.int .i64 (i_2 : Int)))],
   [], 0⟩
def opC_o2a (a0 : List Raw) : St :=
  ⟨[(0, .sl 3 (a0.map rawC)), (2, .lit (.bool false))],
   [], 0⟩
def opC_o2b (a0 : List Raw) : St :=
  ⟨[(0, .sl 3 (a0.map rawC)), (2, .any)],
   [], 0⟩
section
variable {i_2 : Nat} {x3 : Raw} {r3 : Bool} {a0 : List Raw} {n : Nat}
theorem opC_r2_1 (C1 : (i_2 : Int) < (a0.length : Int)) (E2 : a0[i_2]? = some x3) (K3 : run n 58 [.agg [.lit (.bool x3.s), natA x3.l1, natA x3.l2]] = some (.lit (.bool r3))) (C4 : r3 = true) (W5 : InI ((i_2 : Int) + 1)) :
    Cont 0 (exec Tryz.prog (tab (n + 1)) 0 19 (livesOf 43) big opC_C2) (livesOf 43 2) (opC_h2 a0 i_2) (opC_h2 a0 (i_2 + 1)) := by
  have C1_ : i_2 < a0.length := by omega
  obtain ⟨EL2, EG2⟩ := List.getElem?_eq_some_iff.1 E2
  have W5_ : IntKind.i64.wrap ((i_2 : Int) + 1) = (i_2 : Int) + 1 := wr64 W5.1 W5.2
  unfold Cont
  simp +decide [opC_h2, loopsOf, Tryz.f43, opC_C2, C1, C1_, EL2, EG2, E2, K3, C4, W5_]
theorem opC_x2_1 (C1 : (i_2 : Int) < (a0.length : Int)) (E2 : a0[i_2]? = some x3) (K3 : run n 58 [.agg [.lit (.bool x3.s), natA x3.l1, natA x3.l2]] = some (.lit (.bool r3))) (C4 : r3 = false) :
    Leave 0 (exec Tryz.prog (tab (n + 1)) 0 19 (livesOf 43) big opC_C2) (livesOf 43 (outOf 2)) (opC_h2 a0 i_2) (.ret) (opC_o2a a0) := by
  have C1_ : i_2 < a0.length := by omega
  obtain ⟨EL2, EG2⟩ := List.getElem?_eq_some_iff.1 E2
  unfold Leave
  simp +decide [opC_h2, loopsOf, Tryz.f43, opC_o2a, opC_C2, C1, C1_, EL2, EG2, E2, K3, C4]
theorem opC_x2_2 (C1 : ¬ (i_2 : Int) < (a0.length : Int)) :
    Leave 0 (exec Tryz.prog (tab (n + 1)) 0 19 (livesOf 43) big opC_C2) (livesOf 43 (outOf 2)) (opC_h2 a0 i_2) (.exit 0) (opC_o2b a0) := by
  have C1_ : ¬ i_2 < a0.length := by omega
  unfold Leave
  simp +decide [opC_h2, loopsOf, Tryz.f43, opC_o2b, opC_C2, C1, C1_]
theorem opC_f1 (L1 : loopG Tryz.prog (tab (n + 1)) 0 19 (livesOf 43) 2 opC_C2 (opC_h2 a0 0) = some (.ret, opC_o2a a0)) :
    run (n + 1) 43 [.sl 3 (a0.map rawC)] = some (.lit (.bool false)) := by
  unfold run fnP
  simp +decide [Tryz.f43]
  rw [loopX_G (C' := opC_C2) (e := (opC_h2 a0 0)) ?_ ?_, L1]
  rotate_left
  · kernel_rfl
  · simp +decide [opC_h2]
  simp +decide [opC_o2a]
theorem opC_f2 (L1 : loopG Tryz.prog (tab (n + 1)) 0 19 (livesOf 43) 2 opC_C2 (opC_h2 a0 0) = some (.exit 0, opC_o2b a0)) :
    run (n + 1) 43 [.sl 3 (a0.map rawC)] = some (.lit (.bool (decide ((a0.length : Int) ≤ 6)))) := by
  unfold run fnP
  simp +decide [Tryz.f43]
  rw [loopX_G (C' := opC_C2) (e := (opC_h2 a0 0)) ?_ ?_, L1]
  rotate_left
  · kernel_rfl
  · simp +decide [opC_h2]
  simp +decide [opC_o2b]
end
theorem cpC_f1 {n : Nat} {a0 : TClaimR} (M1 : a0.Rows.length ≤ 100000000) :
    run n 38 [claimRV a0] = some (claimRV a0) := by
  have M1_ : ∀ b, b ≤ 10000 → roomy (a0.Rows.length) b = true := fun b hb => roomy_s M1 hb
  unfold run fnP
  simp +decide [Tryz.f38, M1_]
end Go.Proofs.YtjpoanaoaeaneaaGreatDoor
