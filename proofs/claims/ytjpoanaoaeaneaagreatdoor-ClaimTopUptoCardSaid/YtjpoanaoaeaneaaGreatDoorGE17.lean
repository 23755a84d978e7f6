import Derived.Test.YtjpoanaoaeaneaaGreatDoorGE16
set_option linter.all false
set_option maxRecDepth 100000
set_option maxHeartbeats 6400000
namespace Go.Proofs.YtjpoanaoaeaneaaGreatDoor
open Go.RowKit
theorem cva_f1 {n : Nat} {a0 : Int}  :
    run n 102 [.lit (.int .i64 a0)] = some (.agg [.sl 4 [[.lit (.int .i64 a0), .lit (.bool (rawQ (ofQ 1)).s), natA (rawQ (ofQ 1)).l1, natA (rawQ (ofQ 1)).l2]], .lit (.bool false), .sl 1 [], .sl 1 []]) := by
  have K1 := r_ofq (z := 1) (by omega) (by omega)
  unfold run fnP
  simp +decide [Tryz.f102, K1]
noncomputable def cGo_C6 : Code := (loopsOf (bodyOf Tryz.f37)).getD 0 .skip
noncomputable def cGo_C12 : Code := (loopsOf (bodyOf Tryz.f37)).getD 1 .skip
def cGo_h6 (a0 : TClaim) (a1 : Int) (out_6 : List Form) (i_6 : Nat) : St :=
  ⟨[(1, .lit (.int .i64 a1)), (2, .ptr 0 0), (6, .ptr 1 0), (7, .own 2 out_6.length), (19, .sl 4 (a0.Rows.map formC)), (20, .lit (.int .i64 (a0.Rows.length : Int))), (21, .lit (.int .i64 (i_6 : Int)))],
   [(0, some (.box 52 [.lit (.int .i64 (a0.Kind)), .lit (.int .i64 (a0.Target)), .lit (.bool (rawQ a0.Margin).s), natA (rawQ a0.Margin).l1, natA (rawQ a0.Margin).l2, .sl 4 (a0.Rows.map formC)] false)),
    (1, some (.box 28 [.nl 4, .lit (.bool (rawQ a0.Margin).s), natA (rawQ a0.Margin).l1, natA (rawQ a0.Margin).l2] false)),
    (2, some (.row 28 4 (out_6.map formC) 0))], 3⟩
def cGo_h12 (a0 : TClaim) (a1 : Int) (out_12 : List Form) (i_12 : Nat) : St :=
  ⟨[(2, .ptr 0 0), (6, .ptr 1 0), (7, .own 2 out_12.length), (35, .lit (.int .i64 a1)), (36, .lit (.int .i64 (i_12 : Int)))],
   [(0, some (.box 52 [.lit (.int .i64 (a0.Kind)), .lit (.int .i64 (a0.Target)), .lit (.bool (rawQ a0.Margin).s), natA (rawQ a0.Margin).l1, natA (rawQ a0.Margin).l2, .sl 4 (a0.Rows.map formC)] false)),
    (1, some (.box 28 [.nl 4, .lit (.bool (rawQ a0.Margin).s), natA (rawQ a0.Margin).l1, natA (rawQ a0.Margin).l2] false)),
    (2, some (.row 28 4 (out_12.map formC) 0))], 3⟩
def cGo_o6a (a0 : TClaim) (a1 : Int) (out_6 : List Form) : St :=
  ⟨[(1, .lit (.int .i64 a1)), (2, .ptr 0 0), (6, .ptr 1 0), (7, .own 2 out_6.length)],
   [(0, some (.box 52 [.lit (.int .i64 (a0.Kind)), .lit (.int .i64 (a0.Target)), .lit (.bool (rawQ a0.Margin).s), natA (rawQ a0.Margin).l1, natA (rawQ a0.Margin).l2, .sl 4 (a0.Rows.map formC)] false)),
    (1, some (.box 28 [.nl 4, .lit (.bool (rawQ a0.Margin).s), natA (rawQ a0.Margin).l1, natA (rawQ a0.Margin).l2] false)),
    (2, some (.row 28 4 (out_6.map formC) 0))], 3⟩
def cGo_o12a (out_12 : List Form) : St :=
  ⟨[(7, .own 0 out_12.length)],
   [(0, some (.row 28 4 (out_12.map formC) 0))], 1⟩
section
variable {a0 : TClaim} {q3 : Rat} {out_6 : List Form} {a1 : Int} {n : Nat} {F3 : List (Int × Rat)} {r4 : Form} {i_6 : Nat} {r13 : Form} {out_12 : List Form} {r15 : Form} {i_12 : Nat} {r16 : Form} {r14 : Form} {r : Bool}
theorem cGo_r6_1 (C1 : (i_6 : Int) < (a0.Rows.length : Int)) (E2 : a0.Rows[i_6]? = some (F3, q3)) (K3 : run (n + 4) 101 [formV (F3, q3), .agg [.sl 4 [], .lit (.bool (rawQ a0.Margin).s), natA (rawQ a0.Margin).l1, natA (rawQ a0.Margin).l2]] = some (formV r4)) (M4 : out_6.length + 1 ≤ 100000000) (W5 : InI ((i_6 : Int) + 1)) :
    Cont 0 (exec Tryz.prog (tab (n + 5)) 0 56 (livesOf 37) big cGo_C6) (livesOf 37 6) (cGo_h6 a0 a1 out_6 i_6) (cGo_h6 a0 a1 (out_6 ++ [r4]) (i_6 + 1)) := by
  have C1_ : i_6 < a0.Rows.length := by omega
  obtain ⟨EL2, EG2⟩ := List.getElem?_eq_some_iff.1 E2
  simp only [formV] at K3
  have M4_ : ∀ b, b ≤ 10000 → roomy (out_6.length + 1) b = true := fun b hb => roomy_s M4 hb
  have W5_ : IntKind.i64.wrap ((i_6 : Int) + 1) = (i_6 : Int) + 1 := wr64 W5.1 W5.2
  unfold Cont
  simp +decide [cGo_h6, loopsOf, Tryz.f37, cGo_C6, C1, C1_, EL2, EG2, E2, K3, M4_, W5_]
theorem cGo_x6_1 (C1 : ¬ (i_6 : Int) < (a0.Rows.length : Int)) :
    Leave 0 (exec Tryz.prog (tab (n + 5)) 0 56 (livesOf 37) big cGo_C6) (livesOf 37 (outOf 6)) (cGo_h6 a0 a1 out_6 i_6) (.exit 0) (cGo_o6a a0 a1 out_6) := by
  have C1_ : ¬ i_6 < a0.Rows.length := by omega
  unfold Leave
  simp +decide [cGo_h6, loopsOf, Tryz.f37, cGo_o6a, cGo_C6, C1, C1_]
theorem cGo_r12_1 (C1 : (i_12 : Int) < a1) (C2 : ¬ (i_12 : Int) = a0.Target) (K3 : run (n + 4) 102 [.lit (.int .i64 (a0.Target))] = some (formV r13)) (K4 : run (n + 4) 102 [.lit (.int .i64 (i_12 : Int))] = some (formV r14)) (K5 : run (n + 4) 101 [formV r13, formV r14] = some (formV r15)) (K6 : run (n + 4) 101 [formV r15, .agg [.sl 4 [], .lit (.bool (rawQ a0.Margin).s), natA (rawQ a0.Margin).l1, natA (rawQ a0.Margin).l2]] = some (formV r16)) (M7 : out_12.length + 1 ≤ 100000000) (W8 : InI ((i_12 : Int) + 1)) :
    Cont 0 (exec Tryz.prog (tab (n + 5)) 0 56 (livesOf 37) big cGo_C12) (livesOf 37 12) (cGo_h12 a0 a1 out_12 i_12) (cGo_h12 a0 a1 (out_12 ++ [r16]) (i_12 + 1)) := by
  have C2_ : ((i_12 : Int) == a0.Target) = false := by simpa using C2
  have C2_n : ((i_12 : Int) != a0.Target) = true := by simpa using C2
  simp only [formV] at K3
  simp only [formV] at K4
  simp only [formV] at K5
  simp only [formV] at K6
  have M7_ : ∀ b, b ≤ 10000 → roomy (out_12.length + 1) b = true := fun b hb => roomy_s M7 hb
  have W8_ : IntKind.i64.wrap ((i_12 : Int) + 1) = (i_12 : Int) + 1 := wr64 W8.1 W8.2
  unfold Cont
  simp +decide [cGo_h12, loopsOf, Tryz.f37, cGo_C12, C1, C2_, C2_n, K3, K4, K5, K6, M7_, W8_]
theorem cGo_r12_2 (C1 : (i_12 : Int) < a1) (C2 : (i_12 : Int) = a0.Target) (W3 : InI ((i_12 : Int) + 1)) :
    Cont 0 (exec Tryz.prog (tab (n + 5)) 0 56 (livesOf 37) big cGo_C12) (livesOf 37 12) (cGo_h12 a0 a1 out_12 i_12) (cGo_h12 a0 a1 out_12 (i_12 + 1)) := by
  have C2_ : ((i_12 : Int) == a0.Target) = true := by rw [C2]; simp
  have C2_n : ((i_12 : Int) != a0.Target) = false := by rw [C2]; simp
  have W3_ : IntKind.i64.wrap ((i_12 : Int) + 1) = (i_12 : Int) + 1 := wr64 W3.1 W3.2
  unfold Cont
  simp +decide [cGo_h12, loopsOf, Tryz.f37, cGo_C12, C1, C2_, C2_n, W3_]
theorem cGo_x12_1 (C1 : ¬ (i_12 : Int) < a1) :
    Leave 0 (exec Tryz.prog (tab (n + 5)) 0 56 (livesOf 37) big cGo_C12) (livesOf 37 (outOf 12)) (cGo_h12 a0 a1 out_12 i_12) (.exit 2) (cGo_o12a out_12) := by
  unfold Leave
  simp +decide [cGo_h12, loopsOf, Tryz.f37, cGo_o12a, cGo_C12, C1]
theorem cGo_f2 (K1 : run (n + 4) 40 [claimV a0, .lit (.int .i64 a1)] = some (.lit (.bool r))) (C2 : r = true) (L3 : loopG Tryz.prog (tab (n + 5)) 0 56 (livesOf 37) 6 cGo_C6 (cGo_h6 a0 a1 [] 0) = some (.exit 0, cGo_o6a a0 a1 out_6)) (C4 : a0.Kind = 1) (L5 : loopG Tryz.prog (tab (n + 5)) 0 56 (livesOf 37) 12 cGo_C12 (cGo_h12 a0 a1 out_6 0) = some (.exit 2, cGo_o12a out_12)) :
    run (n + 5) 37 [claimV a0, .lit (.int .i64 a1)] = some (.tup [.sl 4 (out_12.map formC), .lit (.int .i64 0)]) := by
  simp only [claimV] at K1
  have C4_ : (a0.Kind == 1) = true := by rw [C4]; simp
  have C4_n : (a0.Kind != 1) = false := by rw [C4]; simp
  unfold run fnP
  simp +decide [Tryz.f37, K1, C2, C4_, C4_n]
  rw [loopX_G (C' := cGo_C6) (e := (cGo_h6 a0 a1 [] 0)) ?_ ?_, L3]
  rotate_left
  · kernel_rfl
  · simp +decide [cGo_h6, K1, C2, C4_, C4_n]
  simp +decide [cGo_o6a, K1, C2, C4_, C4_n]
  rw [loopX_G (C' := cGo_C12) (e := (cGo_h12 a0 a1 out_6 0)) ?_ ?_, L5]
  rotate_left
  · kernel_rfl
  · simp +decide [cGo_h12, K1, C2, C4_, C4_n]
  simp +decide [cGo_o12a, K1, C2, C4_, C4_n]
theorem cGo_f3 (K1 : run (n + 4) 40 [claimV a0, .lit (.int .i64 a1)] = some (.lit (.bool r))) (C2 : r = true) (L3 : loopG Tryz.prog (tab (n + 5)) 0 56 (livesOf 37) 6 cGo_C6 (cGo_h6 a0 a1 [] 0) = some (.exit 0, cGo_o6a a0 a1 out_6)) (C4 : ¬ a0.Kind = 1) :
    run (n + 5) 37 [claimV a0, .lit (.int .i64 a1)] = some (.tup [.sl 4 (out_6.map formC), .lit (.int .i64 0)]) := by
  simp only [claimV] at K1
  have C4_ : (a0.Kind == 1) = false := by simpa using C4
  have C4_n : (a0.Kind != 1) = true := by simpa using C4
  unfold run fnP
  simp +decide [Tryz.f37, K1, C2, C4_, C4_n]
  rw [loopX_G (C' := cGo_C6) (e := (cGo_h6 a0 a1 [] 0)) ?_ ?_, L3]
  rotate_left
  · kernel_rfl
  · simp +decide [cGo_h6, K1, C2, C4_, C4_n]
  simp +decide [cGo_o6a, K1, C2, C4_, C4_n]
end
end Go.Proofs.YtjpoanaoaeaneaaGreatDoor
set_option linter.all false
set_option maxRecDepth 100000
set_option maxHeartbeats 6400000
namespace Go.Proofs.YtjpoanaoaeaneaaGreatDoor
open Go.RowKit
theorem nbr_f1 {n : Nat} {a0 : Rat}  :
    run n 103 [ratV a0] = some (.agg [.sl 4 [], .lit (.bool (rawQ a0).s), natA (rawQ a0).l1, natA (rawQ a0).l2]) := by
  unfold run fnP
  simp +decide [Tryz.f103]
theorem vr_f1 {n : Nat} {a0 : Int}  :
    run n 105 [.lit (.int .i64 a0)] = some (.agg [.sl 4 [[.lit (.int .i64 a0), .lit (.bool (rawQ (ofQ 1)).s), natA (rawQ (ofQ 1)).l1, natA (rawQ (ofQ 1)).l2]], .lit (.bool false), .sl 1 [], .sl 1 []]) := by
  have K1 := r_ofq (z := 1) (by omega) (by omega)
  unfold run fnP
  simp +decide [Tryz.f105, K1]
theorem fsu_f1 {n : Nat} {a0 : Form} {a1 : Form} {r : Form} {r2 : Form} (K2 : run (n + 2) 180 [formV a1, ratV (ofQ (-1))] = some (formV r)) (K3 : run (n + 2) 179 [formV a0, formV r] = some (formV r2)) :
    run (n + 3) 104 [formV a0, formV a1] = some (formV r2) := by
  have K1 := r_ofq (z := (-1)) (by omega) (by omega)
  simp only [ratV, formV] at K2
  simp only [formV] at K3
  unfold run fnP
  simp +decide [Tryz.f104, K1, K2, K3]
noncomputable def fGo_C7 : Code := (loopsOf (bodyOf Tryz.f39)).getD 0 .skip
noncomputable def fGo_C12 : Code := (loopsOf (bodyOf Tryz.f39)).getD 1 .skip
def fGo_h7 (a0 : TClaim) (out_7 : List Form) (i_7 : Nat) (r2 : Form) : St :=
  ⟨[(2, .ptr 0 0), (6, .own 1 out_7.length), (7, .ptr 2 0), (8, .lit (.int .i64 (i_7 : Int)))],
   [(0, some (.box 52 [.lit (.int .i64 (a0.Kind)), .lit (.int .i64 (a0.Target)), .lit (.bool (rawQ a0.Margin).s), natA (rawQ a0.Margin).l1, natA (rawQ a0.Margin).l2, .sl 4 (a0.Rows.map formC)] false)),
    (1, some (.row 28 4 (out_7.map formC) 0)),
    (2, some (.box 28 [.sl 4 (r2.1.map termC), .lit (.bool (rawQ r2.2).s), natA (rawQ r2.2).l1, natA (rawQ r2.2).l2] false))], 3⟩
def fGo_h12 (a0 : TClaim) (a1 : Int) (out_12 : List Form) (i_12 : Nat) (r2 : Form) : St :=
  ⟨[(1, .lit (.int .i64 a1)), (2, .ptr 0 0), (6, .own 1 out_12.length), (7, .ptr 2 0), (9, .lit (.int .i64 (i_12 : Int)))],
   [(0, some (.box 52 [.lit (.int .i64 (a0.Kind)), .lit (.int .i64 (a0.Target)), .lit (.bool (rawQ a0.Margin).s), natA (rawQ a0.Margin).l1, natA (rawQ a0.Margin).l2, .sl 4 (a0.Rows.map formC)] false)),
    (1, some (.row 28 4 (out_12.map formC) 0)),
    (2, some (.box 28 [.sl 4 (r2.1.map termC), .lit (.bool (rawQ r2.2).s), natA (rawQ r2.2).l1, natA (rawQ r2.2).l2] false))], 3⟩
def fGo_o7a (out_7 : List Form) : St :=
  ⟨[(6, .own 0 out_7.length)],
   [(0, some (.row 28 4 (out_7.map formC) 0))], 1⟩
def fGo_o12a (out_12 : List Form) : St :=
  ⟨[(6, .own 0 out_12.length)],
   [(0, some (.row 28 4 (out_12.map formC) 0))], 1⟩
section
variable {a0 : TClaim} {q3 : Rat} {out_7 : List Form} {i_7 : Nat} {r2 : Form} {n : Nat} {F3 : List (Int × Rat)} {r5 : Form} {out_12 : List Form} {r15 : Form} {i_12 : Nat} {a1 : Int} {r16 : Form} {r17 : Form} {r14 : Form} {r : Bool}
theorem fGo_r7_1 (C1 : (i_7 : Int) < (a0.Rows.length : Int)) (E2 : a0.Rows[i_7]? = some (F3, q3)) (K3 : run (n + 3) 104 [formV (F3, q3), formV r2] = some (formV r5)) (M4 : out_7.length + 1 ≤ 100000000) (W5 : InI ((i_7 : Int) + 1)) :
    Cont 0 (exec Tryz.prog (tab (n + 4)) 0 59 (livesOf 39) big fGo_C7) (livesOf 39 7) (fGo_h7 a0 out_7 i_7 r2) (fGo_h7 a0 (out_7 ++ [r5]) (i_7 + 1) r2) := by
  have C1_ : i_7 < a0.Rows.length := by omega
  obtain ⟨EL2, EG2⟩ := List.getElem?_eq_some_iff.1 E2
  simp only [formV] at K3
  have M4_ : ∀ b, b ≤ 10000 → roomy (out_7.length + 1) b = true := fun b hb => roomy_s M4 hb
  have W5_ : IntKind.i64.wrap ((i_7 : Int) + 1) = (i_7 : Int) + 1 := wr64 W5.1 W5.2
  unfold Cont
  simp +decide [fGo_h7, loopsOf, Tryz.f39, fGo_C7, C1, C1_, EL2, EG2, E2, K3, M4_, W5_]
theorem fGo_x7_1 (C1 : ¬ (i_7 : Int) < (a0.Rows.length : Int)) :
    Leave 0 (exec Tryz.prog (tab (n + 4)) 0 59 (livesOf 39) big fGo_C7) (livesOf 39 (outOf 7)) (fGo_h7 a0 out_7 i_7 r2) (.exit 0) (fGo_o7a out_7) := by
  have C1_ : ¬ i_7 < a0.Rows.length := by omega
  unfold Leave
  simp +decide [fGo_h7, loopsOf, Tryz.f39, fGo_o7a, fGo_C7, C1, C1_]
theorem fGo_r12_1 (C1 : (i_12 : Int) < a1) (C2 : ¬ (i_12 : Int) = a0.Target) (K3 : run (n + 3) 105 [.lit (.int .i64 (a0.Target))] = some (formV r14)) (K4 : run (n + 3) 105 [.lit (.int .i64 (i_12 : Int))] = some (formV r15)) (K5 : run (n + 3) 104 [formV r14, formV r15] = some (formV r16)) (K6 : run (n + 3) 104 [formV r16, formV r2] = some (formV r17)) (M7 : out_12.length + 1 ≤ 100000000) (W8 : InI ((i_12 : Int) + 1)) :
    Cont 0 (exec Tryz.prog (tab (n + 4)) 0 59 (livesOf 39) big fGo_C12) (livesOf 39 12) (fGo_h12 a0 a1 out_12 i_12 r2) (fGo_h12 a0 a1 (out_12 ++ [r17]) (i_12 + 1) r2) := by
  have C2_ : ((i_12 : Int) == a0.Target) = false := by simpa using C2
  have C2_n : ((i_12 : Int) != a0.Target) = true := by simpa using C2
  simp only [formV] at K3
  simp only [formV] at K4
  simp only [formV] at K5
  simp only [formV] at K6
  have M7_ : ∀ b, b ≤ 10000 → roomy (out_12.length + 1) b = true := fun b hb => roomy_s M7 hb
  have W8_ : IntKind.i64.wrap ((i_12 : Int) + 1) = (i_12 : Int) + 1 := wr64 W8.1 W8.2
  unfold Cont
  simp +decide [fGo_h12, loopsOf, Tryz.f39, fGo_C12, C1, C2_, C2_n, K3, K4, K5, K6, M7_, W8_]
theorem fGo_r12_2 (C1 : (i_12 : Int) < a1) (C2 : (i_12 : Int) = a0.Target) (W3 : InI ((i_12 : Int) + 1)) :
    Cont 0 (exec Tryz.prog (tab (n + 4)) 0 59 (livesOf 39) big fGo_C12) (livesOf 39 12) (fGo_h12 a0 a1 out_12 i_12 r2) (fGo_h12 a0 a1 out_12 (i_12 + 1) r2) := by
  have C2_ : ((i_12 : Int) == a0.Target) = true := by rw [C2]; simp
  have C2_n : ((i_12 : Int) != a0.Target) = false := by rw [C2]; simp
  have W3_ : IntKind.i64.wrap ((i_12 : Int) + 1) = (i_12 : Int) + 1 := wr64 W3.1 W3.2
  unfold Cont
  simp +decide [fGo_h12, loopsOf, Tryz.f39, fGo_C12, C1, C2_, C2_n, W3_]
theorem fGo_x12_1 (C1 : ¬ (i_12 : Int) < a1) :
    Leave 0 (exec Tryz.prog (tab (n + 4)) 0 59 (livesOf 39) big fGo_C12) (livesOf 39 (outOf 12)) (fGo_h12 a0 a1 out_12 i_12 r2) (.exit 2) (fGo_o12a out_12) := by
  unfold Leave
  simp +decide [fGo_h12, loopsOf, Tryz.f39, fGo_o12a, fGo_C12, C1]
theorem fGo_f2 (K1 : run (n + 3) 41 [claimV a0, .lit (.int .i64 a1)] = some (.lit (.bool r))) (C2 : r = true) (K3 : run (n + 3) 103 [ratV a0.Margin] = some (formV r2)) (C4 : a0.Kind = 2) (L5 : loopG Tryz.prog (tab (n + 4)) 0 59 (livesOf 39) 7 fGo_C7 (fGo_h7 a0 [] 0 r2) = some (.exit 0, fGo_o7a out_7)) :
    run (n + 4) 39 [claimV a0, .lit (.int .i64 a1)] = some (.tup [.sl 4 (out_7.map formC), .lit (.int .i64 0)]) := by
  simp only [claimV] at K1
  simp only [ratV, formV] at K3
  have C4_ : (a0.Kind == 2) = true := by rw [C4]; simp
  have C4_n : (a0.Kind != 2) = false := by rw [C4]; simp
  unfold run fnP
  simp +decide [Tryz.f39, K1, C2, K3, C4_, C4_n]
  rw [loopX_G (C' := fGo_C7) (e := (fGo_h7 a0 [] 0 r2)) ?_ ?_, L5]
  rotate_left
  · kernel_rfl
  · simp +decide [fGo_h7, K1, C2, K3, C4_, C4_n]
  simp +decide [fGo_o7a, K1, C2, K3, C4_, C4_n]
theorem fGo_f3 (K1 : run (n + 3) 41 [claimV a0, .lit (.int .i64 a1)] = some (.lit (.bool r))) (C2 : r = true) (K3 : run (n + 3) 103 [ratV a0.Margin] = some (formV r2)) (C4 : ¬ a0.Kind = 2) (L5 : loopG Tryz.prog (tab (n + 4)) 0 59 (livesOf 39) 12 fGo_C12 (fGo_h12 a0 a1 [] 0 r2) = some (.exit 2, fGo_o12a out_12)) :
    run (n + 4) 39 [claimV a0, .lit (.int .i64 a1)] = some (.tup [.sl 4 (out_12.map formC), .lit (.int .i64 0)]) := by
  simp only [claimV] at K1
  simp only [ratV, formV] at K3
  have C4_ : (a0.Kind == 2) = false := by simpa using C4
  have C4_n : (a0.Kind != 2) = true := by simpa using C4
  unfold run fnP
  simp +decide [Tryz.f39, K1, C2, K3, C4_, C4_n]
  rw [loopX_G (C' := fGo_C12) (e := (fGo_h12 a0 a1 [] 0 r2)) ?_ ?_, L5]
  rotate_left
  · kernel_rfl
  · simp +decide [fGo_h12, K1, C2, K3, C4_, C4_n]
  simp +decide [fGo_o12a, K1, C2, K3, C4_, C4_n]
end
end Go.Proofs.YtjpoanaoaeaneaaGreatDoor
set_option linter.all false
set_option maxRecDepth 100000
set_option maxHeartbeats 6400000
namespace Go.Proofs.YtjpoanaoaeaneaaGreatDoor
open Go.RowKit
section
variable {a0 : Raw} {n : Nat}
theorem shC_f1 (C1 : (a0.l1.length : Int) ≤ 2) :
    run n 58 [.agg [.lit (.bool a0.s), natA a0.l1, natA a0.l2]] = some (.lit (.bool (decide ((a0.l2.length : Int) ≤ 2)))) := by
  have C1_ : a0.l1.length ≤ 2 := by omega
  unfold run fnP
  simp +decide [Tryz.f58, C1, C1_]
theorem shC_f2 (C1 : ¬ (a0.l1.length : Int) ≤ 2) :
    run n 58 [.agg [.lit (.bool a0.s), natA a0.l1, natA a0.l2]] = some (.lit (.bool false)) := by
  have C1_ : ¬ a0.l1.length ≤ 2 := by omega
  unfold run fnP
  simp +decide [Tryz.f58, C1, C1_]
end
noncomputable def opC_C2 : Code := (loopsOf (bodyOf Tryz.f43)).getD 0 .skip
def opC_h2 (a0 : List Raw) (i_2 : Nat) : St :=
  ⟨[(0, .sl 3 (a0.map rawC)), (3, .lit (.int .i64 (i_2 : Int)))],
   [], 0⟩
def opC_o2a (a0 : List Raw) : St :=
  ⟨[(0, .sl 3 (a0.map rawC)), (2, .lit (.bool false))],
   [], 0⟩
def opC_o2b (a0 : List Raw) : St :=
  ⟨[(0, .sl 3 (a0.map rawC)), (2, .any)],
   [], 0⟩
section
variable {a0 : List Raw} {x3 : Raw} {r3 : Bool} {n : Nat} {i_2 : Nat}
theorem opC_r2_1 (C1 : (i_2 : Int) < (a0.length : Int)) (E2 : a0[i_2]? = some x3) (K3 : run n 58 [.agg [.lit (.bool x3.s), natA x3.l1, natA x3.l2]] = some (.lit (.bool r3))) (C4 : r3 = true) (W5 : InI ((i_2 : Int) + 1)) :
    Cont 0 (exec Tryz.prog (tab (n + 1)) 0 19 (livesOf 43) big opC_C2) (livesOf 43 2) (opC_h2 a0 i_2) (opC_h2 a0 (i_2 + 1)) := by
  have C1_ : i_2 < a0.length := by omega
  obtain ⟨EL2, EG2⟩ := List.getElem?_eq_some_iff.1 E2
  have W5_ : IntKind.i64.wrap ((i_2 : Int) + 1) = (i_2 : Int) + 1 := wr64 W5.1 W5.2
  unfold Cont
  simp +decide [opC_h2, loopsOf, Tryz.f43, opC_C2, C1, C1_, EL2, EG2, E2, K3, C4, W5_]
theorem opC_x2_1 (C1 : (i_2 : Int) < (a0.length : Int)) (E2 : a0[i_2]? = some x3) (K3 : run n 58 [.agg [.lit (.bool x3.s), natA x3.l1, natA x3.l2]] = some (.lit (.bool r3))) (C4 : r3 = false) :
    Leave 0 (exec Tryz.prog (tab (n + 1)) 0 19 (livesOf 43) big opC_C2) (livesOf 43 (outOf 2)) (opC_h2 a0 i_2) (.ret) (opC_o2a a0) := by
  have C1_ : i_2 < a0.length := by omega
  obtain ⟨EL2, EG2⟩ := List.getElem?_eq_some_iff.1 E2
  unfold Leave
  simp +decide [opC_h2, loopsOf, Tryz.f43, opC_o2a, opC_C2, C1, C1_, EL2, EG2, E2, K3, C4]
theorem opC_x2_2 (C1 : ¬ (i_2 : Int) < (a0.length : Int)) :
    Leave 0 (exec Tryz.prog (tab (n + 1)) 0 19 (livesOf 43) big opC_C2) (livesOf 43 (outOf 2)) (opC_h2 a0 i_2) (.exit 0) (opC_o2b a0) := by
  have C1_ : ¬ i_2 < a0.length := by omega
  unfold Leave
  simp +decide [opC_h2, loopsOf, Tryz.f43, opC_o2b, opC_C2, C1, C1_]
theorem opC_f1 (L1 : loopG Tryz.prog (tab (n + 1)) 0 19 (livesOf 43) 2 opC_C2 (opC_h2 a0 0) = some (.ret, opC_o2a a0)) :
    run (n + 1) 43 [.sl 3 (a0.map rawC)] = some (.lit (.bool false)) := by
  unfold run fnP
  simp +decide [Tryz.f43]
  rw [loopX_G (C' := opC_C2) (e := (opC_h2 a0 0)) ?_ ?_, L1]
  rotate_left
  · kernel_rfl
  · simp +decide [opC_h2]
  simp +decide [opC_o2a]
theorem opC_f2 (L1 : loopG Tryz.prog (tab (n + 1)) 0 19 (livesOf 43) 2 opC_C2 (opC_h2 a0 0) = some (.exit 0, opC_o2b a0)) :
    run (n + 1) 43 [.sl 3 (a0.map rawC)] = some (.lit (.bool (decide ((a0.length : Int) ≤ 6)))) := by
  unfold run fnP
  simp +decide [Tryz.f43]
  rw [loopX_G (C' := opC_C2) (e := (opC_h2 a0 0)) ?_ ?_, L1]
  rotate_left
  · kernel_rfl
  · simp +decide [opC_h2]
  simp +decide [opC_o2b]
end
end Go.Proofs.YtjpoanaoaeaneaaGreatDoor
