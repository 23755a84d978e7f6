import Derived.Test.YtlpmemelhlnfbaaGreatDoorGA16
import Derived.Test.YtlpmemelhlnfbaaGreatDoorGA17
set_option linter.all false
set_option maxRecDepth 100000
set_option maxHeartbeats 6400000
namespace Go.Proofs.YtlpmemelhlnfbaaGreatDoor
open Go.RowKit
noncomputable def gplT (n : Nat) : FuncId → Option Orc := ext (tab (n + 94)) 18 (.pure awG)
noncomputable def gpl (n : Nat) (args : List AV) : Option AV := fnP Tryz.prog (gplT n) (livesOf 9) big (fnOf 9) args
end Go.Proofs.YtlpmemelhlnfbaaGreatDoor
set_option linter.all false
set_option maxRecDepth 100000
set_option maxHeartbeats 6400000
namespace Go.Proofs.YtlpmemelhlnfbaaGreatDoor
open Go.RowKit
noncomputable def lmk_C7 : Code := (loopsOf (bodyOf Tryz.f58)).getD 0 .skip
noncomputable def lmk_C9 : Code := (loopsOf lmk_C7).getD 0 .skip
def lmk_h9 (a1 : Rat) (i_9 : Int) (v10 : Int) (R2 : List (Int × Rat)) (out_7 : List (Int × Rat)) (s_9 : Rat) : St :=
  ⟨[(4, .ptr 0 0), (6, .own 1 R2.length), (7, .ptr 2 0), (8, .lit (.int .i64 i_9)), (9, .lit (.int .i64 v10)), (10, .ptr 4 0)],
   [(0, some (.box 29 [.nl 4, .lit (.bool false), .nl 1, .nl 1] false)),
    (1, some (.row 84 4 (R2.map termC) 0)),
    (2, some (.box 29 [.own 3 out_7.length, .lit (.bool (rawQ a1).s), natA (rawQ a1).l1, natA (rawQ a1).l2] false)),
    (3, some (.row 84 4 (out_7.map termC) 0)),
    (4, some (.box 27 [.lit (.bool (rawQ s_9).s), natA (rawQ s_9).l1, natA (rawQ s_9).l2] false))], 5⟩
def lmk_h7 (a1 : Rat) (i_7 : Int) (R2 : List (Int × Rat)) (out_7 : List (Int × Rat)) : St :=
  ⟨[(4, .ptr 0 0), (6, .own 1 R2.length), (7, .ptr 2 0), (8, .lit (.int .i64 i_7))],
   [(0, some (.box 29 [.nl 4, .lit (.bool false), .nl 1, .nl 1] false)),
    (1, some (.row 84 4 (R2.map termC) 0)),
    (2, some (.box 29 [.own 3 out_7.length, .lit (.bool (rawQ a1).s), natA (rawQ a1).l1, natA (rawQ a1).l2] false)),
    (3, some (.row 84 4 (out_7.map termC) 0))], 4⟩
def lmk_o9a (a1 : Rat) (i_9 : Int) (v10 : Int) (R2 : List (Int × Rat)) (out_7 : List (Int × Rat)) (s_9 : Rat) : St :=
  ⟨[(4, .ptr 0 0), (6, .own 1 R2.length), (7, .ptr 2 0), (8, .lit (.int .i64 i_9)), (9, .lit (.int .i64 v10)), (10, .ptr 4 0)],
   [(0, some (.box 29 [.nl 4, .lit (.bool false), .nl 1, .nl 1] false)),
    (1, some (.row 84 4 (R2.map termC) 0)),
    (2, some (.box 29 [.own 3 out_7.length, .lit (.bool (rawQ a1).s), natA (rawQ a1).l1, natA (rawQ a1).l2] false)),
    (3, some (.row 84 4 (out_7.map termC) 0)),
    (4, some (.box 27 [.lit (.bool (rawQ s_9).s), natA (rawQ s_9).l1, natA (rawQ s_9).l2] false))], 5⟩
def lmk_o7a (a1 : Rat) (out_7 : List (Int × Rat)) : St :=
  ⟨[(4, .ptr 0 0), (7, .ptr 1 0)],
   [(0, some (.box 29 [.nl 4, .lit (.bool false), .nl 1, .nl 1] false)),
    (1, some (.box 29 [.own 2 out_7.length, .lit (.bool (rawQ a1).s), natA (rawQ a1).l1, natA (rawQ a1).l2] false)),
    (2, some (.row 84 4 (out_7.map termC) 0))], 3⟩
section
variable {a1 : Rat} {i_9 : Int} {v13 : Int} {v10 : Int} {q13 : Rat} {R2 : List (Int × Rat)} {out_7 : List (Int × Rat)} {s_9 : Rat} {n : Nat} {q10 : Rat} {i_7 : Int} {R5 : List (Int × Rat)} {q : Rat} {a0 : List (Int × Rat)} {v : Int} {R : List (Int × Rat)}
theorem lmk_r9_1 {R : List (Int × Rat)} (C1 : i_9 < (R2.length : Int)) (G2 : i_9.toNat < R2.length) (Z2 : 0 ≤ i_9) (E3 : R2[i_9.toNat]? = some (v13, q13)) (Z3 : 0 ≤ i_9) (C4 : v13 = v10) (B6a : H s_9 ≤ 17179869184) (B6b : H q13 ≤ 17179869184) (W7 : InI (i_9 + 1)) :
    Cont 0 (exec Tryz.prog (tab (n + 44)) 0 66 (livesOf 58) big lmk_C9) (livesOf 58 9) (lmk_h9 a1 i_9 v10 R2 out_7 s_9) (lmk_h9 a1 (i_9 + 1) v10 R2 out_7 (s_9 + q13)) := by
  obtain ⟨EL3, EG3⟩ := List.getElem?_eq_some_iff.1 E3
  have C4_ : (v13 == v10) = true := by rw [C4]; simp
  have C4_n : (v13 != v10) = false := by rw [C4]; simp
  have K6 := r_add (p := s_9) (q := q13) B6a B6b
  have W7_ : IntKind.i64.wrap (i_9 + 1) = i_9 + 1 := wr64 W7.1 W7.2
  unfold Cont
  simp +decide [lmk_h9, loopsOf, Tryz.f58, lmk_C7, lmk_C9, C1, G2, Z2, EL3, EG3, E3, Z3, C4_, C4_n, K6, W7_]
  simp +decide [natA]
theorem lmk_x9_1 {R : List (Int × Rat)} (C1 : i_9 < (R2.length : Int)) (G2 : i_9.toNat < R2.length) (Z2 : 0 ≤ i_9) (E3 : R2[i_9.toNat]? = some (v13, q13)) (Z3 : 0 ≤ i_9) (C4 : ¬ v13 = v10) :
    Leave 0 (exec Tryz.prog (tab (n + 44)) 0 66 (livesOf 58) big lmk_C9) (livesOf 58 (outOf 9)) (lmk_h9 a1 i_9 v10 R2 out_7 s_9) (.exit 2) (lmk_o9a a1 i_9 v10 R2 out_7 s_9) := by
  obtain ⟨EL3, EG3⟩ := List.getElem?_eq_some_iff.1 E3
  have C4_ : (v13 == v10) = false := by simpa using C4
  have C4_n : (v13 != v10) = true := by simpa using C4
  unfold Leave
  simp +decide [lmk_h9, loopsOf, Tryz.f58, lmk_o9a, lmk_C7, lmk_C9, C1, G2, Z2, EL3, EG3, E3, Z3, C4_, C4_n]
theorem lmk_x9_2 {R : List (Int × Rat)} (C1 : ¬ i_9 < (R2.length : Int)) :
    Leave 0 (exec Tryz.prog (tab (n + 44)) 0 66 (livesOf 58) big lmk_C9) (livesOf 58 (outOf 9)) (lmk_h9 a1 i_9 v10 R2 out_7 s_9) (.exit 2) (lmk_o9a a1 i_9 v10 R2 out_7 s_9) := by
  unfold Leave
  simp +decide [lmk_h9, loopsOf, Tryz.f58, lmk_o9a, lmk_C7, lmk_C9, C1]
theorem lmk_r7_1 {R : List (Int × Rat)} (C1 : i_7 < (R2.length : Int)) (G2 : i_7.toNat < R2.length) (Z2 : 0 ≤ i_7) (E3 : R2[i_7.toNat]? = some (v10, q10)) (Z3 : 0 ≤ i_7) (L4 : loopG Tryz.prog (tab (n + 44)) 0 66 (livesOf 58) 9 lmk_C9 (lmk_h9 a1 i_7 v10 R2 out_7 0) = some (.exit 2, lmk_o9a a1 i_9 v10 R2 out_7 s_9)) (K5 : runL (n + 43) 137 [.agg [.own 0 out_7.length, .lit (.bool (rawQ a1).s), natA (rawQ a1).l1, natA (rawQ a1).l2], .lit (.int .i64 v10), ratV s_9] [.row 84 4 (out_7.map termC) 0] = some (.agg [.own 0 out_7.length, .lit (.bool (rawQ a1).s), natA (rawQ a1).l1, natA (rawQ a1).l2], [(0, .row 84 4 (out_7.map termC) 0)])) :
    Cont 0 (exec Tryz.prog (tab (n + 44)) 0 66 (livesOf 58) big lmk_C7) (livesOf 58 7) (lmk_h7 a1 i_7 R2 out_7) (lmk_h7 a1 i_9 R2 out_7) := by
  obtain ⟨EL3, EG3⟩ := List.getElem?_eq_some_iff.1 E3
  simp only [ratV] at K5
  unfold Cont
  simp +decide [lmk_h7, loopsOf, Tryz.f58, lmk_C7, C1, G2, Z2, EL3, EG3, E3, Z3, K5]
  rw [loopX_G (C' := lmk_C9) (e := (lmk_h9 a1 i_7 v10 R2 out_7 0)) ?_ ?_, L4]
  rotate_left
  · kernel_rfl
  · simp +decide [lmk_h9, loopsOf, Tryz.f58, lmk_C7, C1, G2, Z2, EL3, EG3, E3, Z3, K5]
  simp +decide [lmk_o9a, loopsOf, Tryz.f58, lmk_C7, C1, G2, Z2, EL3, EG3, E3, Z3, K5]
theorem lmk_r7_2 {R : List (Int × Rat)} (C1 : i_7 < (R2.length : Int)) (G2 : i_7.toNat < R2.length) (Z2 : 0 ≤ i_7) (E3 : R2[i_7.toNat]? = some (v10, q10)) (Z3 : 0 ≤ i_7) (L4 : loopG Tryz.prog (tab (n + 44)) 0 66 (livesOf 58) 9 lmk_C9 (lmk_h9 a1 i_7 v10 R2 out_7 0) = some (.exit 2, lmk_o9a a1 i_9 v10 R2 out_7 s_9)) (K5 : runL (n + 43) 137 [.agg [.own 0 out_7.length, .lit (.bool (rawQ a1).s), natA (rawQ a1).l1, natA (rawQ a1).l2], .lit (.int .i64 v10), ratV s_9] [.row 84 4 (out_7.map termC) 0] = some (.agg [.own 4 R5.length, .lit (.bool (rawQ a1).s), natA (rawQ a1).l1, natA (rawQ a1).l2], [(4, .row 84 4 (R5.map termC) 0)])) :
    Cont 0 (exec Tryz.prog (tab (n + 44)) 0 66 (livesOf 58) big lmk_C7) (livesOf 58 7) (lmk_h7 a1 i_7 R2 out_7) (lmk_h7 a1 i_9 R2 R5) := by
  obtain ⟨EL3, EG3⟩ := List.getElem?_eq_some_iff.1 E3
  simp only [ratV] at K5
  unfold Cont
  simp +decide [lmk_h7, loopsOf, Tryz.f58, lmk_C7, C1, G2, Z2, EL3, EG3, E3, Z3, K5]
  rw [loopX_G (C' := lmk_C9) (e := (lmk_h9 a1 i_7 v10 R2 out_7 0)) ?_ ?_, L4]
  rotate_left
  · kernel_rfl
  · simp +decide [lmk_h9, loopsOf, Tryz.f58, lmk_C7, C1, G2, Z2, EL3, EG3, E3, Z3, K5]
  simp +decide [lmk_o9a, loopsOf, Tryz.f58, lmk_C7, C1, G2, Z2, EL3, EG3, E3, Z3, K5]
theorem lmk_x7_1 {R : List (Int × Rat)} (C1 : ¬ i_7 < (R2.length : Int)) :
    Leave 0 (exec Tryz.prog (tab (n + 44)) 0 66 (livesOf 58) big lmk_C7) (livesOf 58 (outOf 7)) (lmk_h7 a1 i_7 R2 out_7) (.exit 0) (lmk_o7a a1 out_7) := by
  unfold Leave
  simp +decide [lmk_h7, loopsOf, Tryz.f58, lmk_o7a, lmk_C7, C1]
theorem lmk_f2 (K1 : clT [.sl 4 (a0.map termC)] [] = some (.own 2 R2.length, [(2, .row 84 4 (R.map termC) 0)])) (K2 : runL (n + 43) 133 [.own 0 R2.length, .clo 134 []] [.row 84 4 (R.map termC) 0] = some (.tup [], [(0, .row 84 4 (R2.map termC) 0)])) (C3 : 0 < (R2.length : Int)) (G4 : 0 < R2.length) (E5 : R2[0]? = some (v, q)) (C6 : ¬ v < 0) (B7a : H a1 ≤ 17179869184) (L8 : loopG Tryz.prog (tab (n + 44)) 0 66 (livesOf 58) 7 lmk_C7 (lmk_h7 a1 0 R2 []) = some (.exit 0, lmk_o7a a1 out_7)) :
    run (n + 44) 58 [.sl 4 (a0.map termC), ratV a1] = some (.tup [formV (out_7, a1), .lit (.int .i64 0)]) := by
  have C3_ : 0 < R2.length := by omega
  have C3_z : (R2.length : Int) ≠ 0 := by omega
  have C3_e : ((R2.length : Int) == 0) = false := by simpa using C3_z
  have C3_g : ((R2.length : Int) != 0) = true := by simpa using C3_z
  obtain ⟨EL5, EG5⟩ := List.getElem?_eq_some_iff.1 E5
  have K7 := r_canon (p := a1) B7a
  unfold run fnP
  simp +decide [Tryz.f58, K1, K2, C3, C3_, C3_e, C3_g, G4, EL5, EG5, E5, C6, K7]
  rw [loopX_G (C' := lmk_C7) (e := (lmk_h7 a1 0 R2 [])) ?_ ?_, L8]
  rotate_left
  · kernel_rfl
  · simp +decide [lmk_h7, K1, K2, C3, C3_, C3_e, C3_g, G4, EL5, EG5, E5, C6, K7]
  simp +decide [lmk_o7a, K1, K2, C3, C3_, C3_e, C3_g, G4, EL5, EG5, E5, C6, K7]
end
end Go.Proofs.YtlpmemelhlnfbaaGreatDoor
set_option linter.all false
set_option maxRecDepth 100000
set_option maxHeartbeats 6400000
namespace Go.Proofs.YtlpmemelhlnfbaaGreatDoor
open Go.RowKit
noncomputable def lmn_C7 : Code := (loopsOf (bodyOf Tryz.f58)).getD 0 .skip
def lmn_h7 (a1 : Rat) (i_7 : Int) (out_7 : List (Int × Rat)) : St :=
  ⟨[(4, .ptr 0 0), (6, .sl 4 ([] : List (List AV))), (7, .ptr 1 0), (8, .lit (.int .i64 i_7))],
   [(0, some (.box 29 [.nl 4, .lit (.bool false), .nl 1, .nl 1] false)),
    (1, some (.box 29 [.own 2 out_7.length, .lit (.bool (rawQ a1).s), natA (rawQ a1).l1, natA (rawQ a1).l2] false)),
    (2, some (.row 84 4 (out_7.map termC) 0))], 3⟩
def lmn_o7a (a1 : Rat) (out_7 : List (Int × Rat)) : St :=
  ⟨[(4, .ptr 0 0), (7, .ptr 1 0)],
   [(0, some (.box 29 [.nl 4, .lit (.bool false), .nl 1, .nl 1] false)),
    (1, some (.box 29 [.own 2 out_7.length, .lit (.bool (rawQ a1).s), natA (rawQ a1).l1, natA (rawQ a1).l2] false)),
    (2, some (.row 84 4 (out_7.map termC) 0))], 3⟩
section
variable {a1 : Rat} {out_7 : List (Int × Rat)} {n : Nat} {a0 : List (Int × Rat)}
theorem lmn_x7_1 :
    Leave 0 (exec Tryz.prog (tab (n + 44)) 0 66 (livesOf 58) big lmn_C7) (livesOf 58 (outOf 7)) (lmn_h7 a1 0 out_7) (.exit 0) (lmn_o7a a1 out_7) := by
  unfold Leave
  simp +decide [lmn_h7, loopsOf, Tryz.f58, lmn_o7a, lmn_C7]
theorem lmn_f3 (K1 : clT [.sl 4 (a0.map termC)] [] = some (.sl 4 [], [])) (K2 : runL (n + 43) 133 [.sl 4 ([] : List (List AV)), .clo 134 []] [] = some (.tup [], [])) (C3 : ¬ 0 < (([] : List (Int × Rat)).length : Int)) (B4a : H a1 ≤ 17179869184) (L5 : loopG Tryz.prog (tab (n + 44)) 0 66 (livesOf 58) 7 lmn_C7 (lmn_h7 a1 0 []) = some (.exit 0, lmn_o7a a1 out_7)) :
    run (n + 44) 58 [.sl 4 (a0.map termC), ratV a1] = some (.tup [formV (out_7, a1), .lit (.int .i64 0)]) := by
  have C3_ : ¬ 0 < ([] : List (Int × Rat)).length := by omega
  have C3_z : (([] : List (Int × Rat)).length : Int) = 0 := by omega
  have C3_e : ((([] : List (Int × Rat)).length : Int) == 0) = true := by rw [C3_z]; simp
  have C3_g : ((([] : List (Int × Rat)).length : Int) != 0) = false := by rw [C3_z]; simp
  have K4 := r_canon (p := a1) B4a
  unfold run fnP
  simp +decide [Tryz.f58, K1, K2, C3, C3_, C3_e, C3_g, K4]
  rw [loopX_G (C' := lmn_C7) (e := (lmn_h7 a1 0 [])) ?_ ?_, L5]
  rotate_left
  · kernel_rfl
  · simp +decide [lmn_h7, K1, K2, C3, C3_, C3_e, C3_g, K4]
  simp +decide [lmn_o7a, K1, K2, C3, C3_, C3_e, C3_g, K4]
end
end Go.Proofs.YtlpmemelhlnfbaaGreatDoor
set_option linter.all false
set_option maxRecDepth 100000
set_option maxHeartbeats 6400000
namespace Go.Proofs.YtlpmemelhlnfbaaGreatDoor
open Go.RowKit
section
variable {a1 : Int × Rat} {a0 : Int × Rat} {n : Nat}
theorem lcm_f1 (C1 : a0.1 < a1.1) :
    run n 134 [.agg [.lit (.int .i64 (a0.1)), .lit (.bool (rawQ a0.2).s), natA (rawQ a0.2).l1, natA (rawQ a0.2).l2], .agg [.lit (.int .i64 (a1.1)), .lit (.bool (rawQ a1.2).s), natA (rawQ a1.2).l1, natA (rawQ a1.2).l2]] = some (.lit (.int .i64 (-1))) := by
  unfold run fnP
  simp +decide [Tryz.f134, C1]
theorem lcm_f2 (C1 : ¬ a0.1 < a1.1) (C2 : a1.1 < a0.1) :
    run n 134 [.agg [.lit (.int .i64 (a0.1)), .lit (.bool (rawQ a0.2).s), natA (rawQ a0.2).l1, natA (rawQ a0.2).l2], .agg [.lit (.int .i64 (a1.1)), .lit (.bool (rawQ a1.2).s), natA (rawQ a1.2).l1, natA (rawQ a1.2).l2]] = some (.lit (.int .i64 1)) := by
  unfold run fnP
  simp +decide [Tryz.f134, C1, C2]
theorem lcm_f3 (C1 : ¬ a0.1 < a1.1) (C2 : ¬ a1.1 < a0.1) :
    run n 134 [.agg [.lit (.int .i64 (a0.1)), .lit (.bool (rawQ a0.2).s), natA (rawQ a0.2).l1, natA (rawQ a0.2).l2], .agg [.lit (.int .i64 (a1.1)), .lit (.bool (rawQ a1.2).s), natA (rawQ a1.2).l1, natA (rawQ a1.2).l2]] = some (.lit (.int .i64 0)) := by
  unfold run fnP
  simp +decide [Tryz.f134, C1, C2]
end
noncomputable def isc_C1 : Code := (loopsOf (bodyOf Tryz.f222)).getD 0 .skip
noncomputable def isc_C4 : Code := (loopsOf isc_C1).getD 0 .skip
def isc_h4 (a1 : Int) (a2 : Int) (out_4 : List (Int × Rat)) (i_1 : Int) (i_4 : Int) : St :=
  ⟨[(0, .own 0 out_4.length), (1, .lit (.int .i64 a1)), (2, .lit (.int .i64 a2)), (3, .clo 134 []), (8, .lit (.int .i64 i_1)), (9, .lit (.int .i64 i_4))],
   [(0, some (.row 84 4 (out_4.map termC) 0))], 1⟩
def isc_h1 (a1 : Int) (a2 : Int) (out_1 : List (Int × Rat)) (i_1 : Int) : St :=
  ⟨[(0, .own 0 out_1.length), (1, .lit (.int .i64 a1)), (2, .lit (.int .i64 a2)), (3, .clo 134 []), (8, .lit (.int .i64 i_1))],
   [(0, some (.row 84 4 (out_1.map termC) 0))], 1⟩
def isc_o4a (a1 : Int) (a2 : Int) (out_4 : List (Int × Rat)) (i_1 : Int) : St :=
  ⟨[(0, .own 0 out_4.length), (1, .lit (.int .i64 a1)), (2, .lit (.int .i64 a2)), (3, .clo 134 []), (8, .lit (.int .i64 i_1))],
   [(0, some (.row 84 4 (out_4.map termC) 0))], 1⟩
def isc_o1a (out_1 : List (Int × Rat)) : St :=
  ⟨[],
   [(0, some (.row 84 4 (out_1.map termC) 0))], 1⟩
section
variable {a1 : Int} {q15 : Rat} {a2 : Int} {q16 : Rat} {i_4 : Int} {v16 : Int} {out_4 : List (Int × Rat)} {v15 : Int} {r8 : Int} {i_1 : Int} {n : Nat} {out_1 : List (Int × Rat)} {a0 : List (Int × Rat)}
theorem isc_r4_1 (C1 : a1 < i_4) (G2 : i_4.toNat < out_4.length) (Z2 : 0 ≤ i_4) (E3 : out_4[i_4.toNat]? = some (v15, q15)) (Z3 : 0 ≤ i_4) (W4 : InI (i_4 - 1)) (G5 : i_4.toNat - 1 < out_4.length) (Z5 : 0 ≤ i_4 - 1) (E6 : out_4[i_4.toNat - 1]? = some (v16, q16)) (Z6 : 0 ≤ i_4 - 1) (K7 : run n 134 [.agg [.lit (.int .i64 v15), .lit (.bool (rawQ q15).s), natA (rawQ q15).l1, natA (rawQ q15).l2], .agg [.lit (.int .i64 v16), .lit (.bool (rawQ q16).s), natA (rawQ q16).l1, natA (rawQ q16).l2]] = some (.lit (.int .i64 r8))) (C8 : r8 < 0) :
    Cont 1 (exec Tryz.prog (tab (n + 1)) 1 53 (livesOf 222) big isc_C4) (livesOf 222 4) (isc_h4 a1 a2 out_4 i_1 i_4) (isc_h4 a1 a2 ((out_4.set i_4.toNat (v16, q16)).set (i_4.toNat - 1) (v15, q15)) i_1 (i_4 - 1)) := by
  obtain ⟨EL3, EG3⟩ := List.getElem?_eq_some_iff.1 E3
  have W4_ : IntKind.i64.wrap (i_4 - 1) = i_4 - 1 := wr64 W4.1 W4.2
  have Z5_0 : 1 ≤ i_4 := by omega
  obtain ⟨EL6, EG6⟩ := List.getElem?_eq_some_iff.1 E6
  have Z6_0 : 1 ≤ i_4 := by omega
  unfold Cont
  simp +decide [isc_h4, loopsOf, Tryz.f222, isc_C1, isc_C4, C1, G2, Z2, EL3, EG3, E3, Z3, W4_, G5, Z5, Z5_0, EL6, EG6, E6, Z6, Z6_0, K7, C8, set_termC, -List.map_set]
theorem isc_x4_1 (C1 : a1 < i_4) (G2 : i_4.toNat < out_4.length) (Z2 : 0 ≤ i_4) (E3 : out_4[i_4.toNat]? = some (v15, q15)) (Z3 : 0 ≤ i_4) (W4 : InI (i_4 - 1)) (G5 : i_4.toNat - 1 < out_4.length) (Z5 : 0 ≤ i_4 - 1) (E6 : out_4[i_4.toNat - 1]? = some (v16, q16)) (Z6 : 0 ≤ i_4 - 1) (K7 : run n 134 [.agg [.lit (.int .i64 v15), .lit (.bool (rawQ q15).s), natA (rawQ q15).l1, natA (rawQ q15).l2], .agg [.lit (.int .i64 v16), .lit (.bool (rawQ q16).s), natA (rawQ q16).l1, natA (rawQ q16).l2]] = some (.lit (.int .i64 r8))) (C8 : ¬ r8 < 0) :
    Leave 1 (exec Tryz.prog (tab (n + 1)) 1 53 (livesOf 222) big isc_C4) (livesOf 222 (outOf 4)) (isc_h4 a1 a2 out_4 i_1 i_4) (.exit 2) (isc_o4a a1 a2 out_4 i_1) := by
  obtain ⟨EL3, EG3⟩ := List.getElem?_eq_some_iff.1 E3
  have W4_ : IntKind.i64.wrap (i_4 - 1) = i_4 - 1 := wr64 W4.1 W4.2
  have Z5_0 : 1 ≤ i_4 := by omega
  obtain ⟨EL6, EG6⟩ := List.getElem?_eq_some_iff.1 E6
  have Z6_0 : 1 ≤ i_4 := by omega
  unfold Leave
  simp +decide [isc_h4, loopsOf, Tryz.f222, isc_o4a, isc_C1, isc_C4, C1, G2, Z2, EL3, EG3, E3, Z3, W4_, G5, Z5, Z5_0, EL6, EG6, E6, Z6, Z6_0, K7, C8]
theorem isc_x4_2 (C1 : ¬ a1 < i_4) :
    Leave 1 (exec Tryz.prog (tab (n + 1)) 1 53 (livesOf 222) big isc_C4) (livesOf 222 (outOf 4)) (isc_h4 a1 a2 out_4 i_1 i_4) (.exit 2) (isc_o4a a1 a2 out_4 i_1) := by
  unfold Leave
  simp +decide [isc_h4, loopsOf, Tryz.f222, isc_o4a, isc_C1, isc_C4, C1]
theorem isc_r1_1 (C1 : i_1 < a2) (L2 : loopG Tryz.prog (tab (n + 1)) 1 53 (livesOf 222) 4 isc_C4 (isc_h4 a1 a2 out_1 i_1 i_1) = some (.exit 2, isc_o4a a1 a2 out_4 i_1)) (W3 : InI (i_1 + 1)) :
    Cont 1 (exec Tryz.prog (tab (n + 1)) 1 53 (livesOf 222) big isc_C1) (livesOf 222 1) (isc_h1 a1 a2 out_1 i_1) (isc_h1 a1 a2 out_4 (i_1 + 1)) := by
  have W3_ : IntKind.i64.wrap (i_1 + 1) = i_1 + 1 := wr64 W3.1 W3.2
  unfold Cont
  simp +decide [isc_h1, loopsOf, Tryz.f222, isc_C1, C1, W3_]
  rw [loopX_G (C' := isc_C4) (e := (isc_h4 a1 a2 out_1 i_1 i_1)) ?_ ?_, L2]
  rotate_left
  · kernel_rfl
  · simp +decide [isc_h4, loopsOf, Tryz.f222, isc_C1, C1, W3_]
  simp +decide [isc_o4a, loopsOf, Tryz.f222, isc_C1, C1, W3_]
theorem isc_x1_1 (C1 : ¬ i_1 < a2) :
    Leave 1 (exec Tryz.prog (tab (n + 1)) 1 53 (livesOf 222) big isc_C1) (livesOf 222 (outOf 1)) (isc_h1 a1 a2 out_1 i_1) (.exit 0) (isc_o1a out_1) := by
  unfold Leave
  simp +decide [isc_h1, loopsOf, Tryz.f222, isc_o1a, isc_C1, C1]
theorem isc_f1 (W1 : InI (a1 + 1)) (L2 : loopG Tryz.prog (tab (n + 1)) 1 53 (livesOf 222) 1 isc_C1 (isc_h1 a1 a2 a0 (a1 + 1)) = some (.exit 0, isc_o1a out_1)) :
    runL (n + 1) 222 [.own 0 a0.length, .lit (.int .i64 a1), .lit (.int .i64 a2), .clo 134 []] [.row 84 4 (a0.map termC) 0] = some (.tup [], [(0, .row 84 4 (out_1.map termC) 0)]) := by
  have W1_ : IntKind.i64.wrap (a1 + 1) = a1 + 1 := wr64 W1.1 W1.2
  unfold runL fnL
  simp +decide [Tryz.f222, W1_]
  rw [loopX_G (C' := isc_C1) (e := (isc_h1 a1 a2 a0 (a1 + 1))) ?_ ?_, L2]
  rotate_left
  · kernel_rfl
  · simp +decide [isc_h1, W1_]
  simp +decide [isc_o1a, W1_]
end
end Go.Proofs.YtlpmemelhlnfbaaGreatDoor
set_option linter.all false
set_option maxRecDepth 100000
set_option maxHeartbeats 6400000
namespace Go.Proofs.YtlpmemelhlnfbaaGreatDoor
open Go.RowKit
section
variable {a1 : Int} {a0 : TFeed} {n : Nat} {x : Int}
theorem nx_f1 (C1 : (a0.Raw.length : Int) ≤ a0.At) :
    runL n 149 [.ptr 0 0, .lit (.int .i64 a1)] [.box 156 [.sl 1 (a0.Raw.map intU8C), .lit (.int .i64 (a0.At))] false] = some (.lit (.int .i64 0), [(0, .box 156 [.sl 1 (a0.Raw.map intU8C), .lit (.int .i64 (a0.At))] false)]) := by
  unfold runL fnL
  simp +decide [Tryz.f149, C1]
theorem nx_f2 (C1 : ¬ (a0.Raw.length : Int) ≤ a0.At) (W2 : InI (a0.At + 1)) (W3 : InI (a0.At)) (E4 : a0.Raw[a0.At.toNat]? = some x) (Z4 : 0 ≤ a0.At) (W5 : InI (x)) (N6 : a1 ≠ 0) :
    runL n 149 [.ptr 0 0, .lit (.int .i64 a1)] [.box 156 [.sl 1 (a0.Raw.map intU8C), .lit (.int .i64 (a0.At))] false] = some (.lit (.int .i64 (x.tmod a1)), [(0, .box 156 [.sl 1 (a0.Raw.map intU8C), .lit (.int .i64 (a0.At + 1))] false)]) := by
  have W2_ : IntKind.i64.wrap (a0.At + 1) = a0.At + 1 := wr64 W2.1 W2.2
  have W3_ : IntKind.i64.wrap (a0.At) = a0.At := wr64 W3.1 W3.2
  obtain ⟨EL4, EG4⟩ := List.getElem?_eq_some_iff.1 E4
  have W5_ : IntKind.i64.wrap (x) = x := wr64 W5.1 W5.2
  unfold runL fnL
  simp +decide [Tryz.f149, C1, W2_, W3_, EL4, EG4, E4, Z4, W5_, N6]
end
section
variable {r2 : Int} {z2 : Int} {z : Int} {a0 : TFeed} {r : Int} {n : Nat}
theorem nu_f1 (K1 : runL n 149 [.ptr 0 0, .lit (.int .i64 9)] [.box 156 [.sl 1 (a0.Raw.map intU8C), .lit (.int .i64 (a0.At))] false] = some (.lit (.int .i64 r), [(0, .box 156 [.sl 1 (a0.Raw.map intU8C), .lit (.int .i64 z)] false)])) (W2 : InI (r - 4)) (K3 : runL n 149 [.ptr 0 0, .lit (.int .i64 4)] [.box 156 [.sl 1 (a0.Raw.map intU8C), .lit (.int .i64 z)] false] = some (.lit (.int .i64 r2), [(0, .box 156 [.sl 1 (a0.Raw.map intU8C), .lit (.int .i64 z2)] false)])) (C4 : r2 = 0) (W5 : InI (r - 4)) :
    runL (n + 1) 92 [.ptr 0 0] [.box 156 [.sl 1 (a0.Raw.map intU8C), .lit (.int .i64 (a0.At))] false] = some (ratV (fracQ (r - 4) 1), [(0, .box 156 [.sl 1 (a0.Raw.map intU8C), .lit (.int .i64 z2)] false)]) := by
  have W2_ : IntKind.i64.wrap (r - 4) = r - 4 := wr64 W2.1 W2.2
  have K5 := r_frac (x := r - 4) (y := 1) W5 (by omega) (by omega)
  unfold runL fnL
  simp +decide [Tryz.f92, K1, W2_, K3, C4, K5]
theorem nu_f2 (K1 : runL n 149 [.ptr 0 0, .lit (.int .i64 9)] [.box 156 [.sl 1 (a0.Raw.map intU8C), .lit (.int .i64 (a0.At))] false] = some (.lit (.int .i64 r), [(0, .box 156 [.sl 1 (a0.Raw.map intU8C), .lit (.int .i64 z)] false)])) (W2 : InI (r - 4)) (K3 : runL n 149 [.ptr 0 0, .lit (.int .i64 4)] [.box 156 [.sl 1 (a0.Raw.map intU8C), .lit (.int .i64 z)] false] = some (.lit (.int .i64 r2), [(0, .box 156 [.sl 1 (a0.Raw.map intU8C), .lit (.int .i64 z2)] false)])) (C4 : r2 ≠ 0) (C5 : r2 = 1) (W6 : InI (r - 4)) :
    runL (n + 1) 92 [.ptr 0 0] [.box 156 [.sl 1 (a0.Raw.map intU8C), .lit (.int .i64 (a0.At))] false] = some (ratV (fracQ (r - 4) 1), [(0, .box 156 [.sl 1 (a0.Raw.map intU8C), .lit (.int .i64 z2)] false)]) := by
  have W2_ : IntKind.i64.wrap (r - 4) = r - 4 := wr64 W2.1 W2.2
  have K6 := r_frac (x := r - 4) (y := 1) W6 (by omega) (by omega)
  unfold runL fnL
  simp +decide [Tryz.f92, K1, W2_, K3, C5, K6]
theorem nu_f3 (K1 : runL n 149 [.ptr 0 0, .lit (.int .i64 9)] [.box 156 [.sl 1 (a0.Raw.map intU8C), .lit (.int .i64 (a0.At))] false] = some (.lit (.int .i64 r), [(0, .box 156 [.sl 1 (a0.Raw.map intU8C), .lit (.int .i64 z)] false)])) (W2 : InI (r - 4)) (K3 : runL n 149 [.ptr 0 0, .lit (.int .i64 4)] [.box 156 [.sl 1 (a0.Raw.map intU8C), .lit (.int .i64 z)] false] = some (.lit (.int .i64 r2), [(0, .box 156 [.sl 1 (a0.Raw.map intU8C), .lit (.int .i64 z2)] false)])) (C4 : r2 ≠ 0) (C5 : r2 ≠ 1) (C6 : r2 = 2) (W7 : InI (r - 4)) :
    runL (n + 1) 92 [.ptr 0 0] [.box 156 [.sl 1 (a0.Raw.map intU8C), .lit (.int .i64 (a0.At))] false] = some (ratV (fracQ (r - 4) 2), [(0, .box 156 [.sl 1 (a0.Raw.map intU8C), .lit (.int .i64 z2)] false)]) := by
  have W2_ : IntKind.i64.wrap (r - 4) = r - 4 := wr64 W2.1 W2.2
  have K7 := r_frac (x := r - 4) (y := 2) W7 (by omega) (by omega)
  unfold runL fnL
  simp +decide [Tryz.f92, K1, W2_, K3, C6, K7]
theorem nu_f4 (K1 : runL n 149 [.ptr 0 0, .lit (.int .i64 9)] [.box 156 [.sl 1 (a0.Raw.map intU8C), .lit (.int .i64 (a0.At))] false] = some (.lit (.int .i64 r), [(0, .box 156 [.sl 1 (a0.Raw.map intU8C), .lit (.int .i64 z)] false)])) (W2 : InI (r - 4)) (K3 : runL n 149 [.ptr 0 0, .lit (.int .i64 4)] [.box 156 [.sl 1 (a0.Raw.map intU8C), .lit (.int .i64 z)] false] = some (.lit (.int .i64 r2), [(0, .box 156 [.sl 1 (a0.Raw.map intU8C), .lit (.int .i64 z2)] false)])) (C4 : r2 ≠ 0) (C5 : r2 ≠ 1) (C6 : r2 ≠ 2) (C7 : r2 = 3) (W8 : InI (r - 4)) :
    runL (n + 1) 92 [.ptr 0 0] [.box 156 [.sl 1 (a0.Raw.map intU8C), .lit (.int .i64 (a0.At))] false] = some (ratV (fracQ (r - 4) 4), [(0, .box 156 [.sl 1 (a0.Raw.map intU8C), .lit (.int .i64 z2)] false)]) := by
  have W2_ : IntKind.i64.wrap (r - 4) = r - 4 := wr64 W2.1 W2.2
  have K8 := r_frac (x := r - 4) (y := 4) W8 (by omega) (by omega)
  unfold runL fnL
  simp +decide [Tryz.f92, K1, W2_, K3, C7, K8]
end
theorem vr_f1 {n : Nat} {a0 : Int}  :
    run n 88 [.lit (.int .i64 a0)] = some (.agg [.sl 4 [[.lit (.int .i64 a0), .lit (.bool (rawQ (ofQ 1)).s), natA (rawQ (ofQ 1)).l1, natA (rawQ (ofQ 1)).l2]], .lit (.bool false), .sl 1 [], .sl 1 []]) := by
  have K1 := r_ofq (z := 1) (by omega) (by omega)
  unfold run fnP
  simp +decide [Tryz.f88, K1]
section
variable {a1 : Rat} {a0 : Rat} {n : Nat}
theorem mx_f1 (B1a : H a0 ≤ 17179869184) (B1b : H a1 ≤ 17179869184) (C2 : 0 ≤ sgR (a0 - a1)) :
    run n 100 [ratV a0, ratV a1] = some (ratV a0) := by
  have K1 := r_cmp (p := a0) (q := a1) B1a B1b
  have K3 := r_canon (p := a0) B1a
  unfold run fnP
  simp +decide [Tryz.f100, K1, C2, K3]
theorem mx_f2 (B1a : H a0 ≤ 17179869184) (B1b : H a1 ≤ 17179869184) (C2 : ¬ 0 ≤ sgR (a0 - a1)) :
    run n 100 [ratV a0, ratV a1] = some (ratV a1) := by
  have K1 := r_cmp (p := a0) (q := a1) B1a B1b
  have K3 := r_canon (p := a1) B1b
  unfold run fnP
  simp +decide [Tryz.f100, K1, C2, K3]
end
noncomputable def ev_C3 : Code := (loopsOf (bodyOf Tryz.f99)).getD 0 .skip
def ev_h3 (a0 : Form) (a1 : List Rat) (i_3 : Nat) (s_3 : Rat) : St :=
  ⟨[(1, .sl 3 (a1.map ratC)), (2, .ptr 0 0), (4, .ptr 1 0), (6, .ptr 2 0), (7, .lit (.int .i64 (i_3 : Int)))],
   [(0, some (.box 29 [.sl 4 (a0.1.map termC), .lit (.bool (rawQ a0.2).s), natA (rawQ a0.2).l1, natA (rawQ a0.2).l2] false)),
    (1, some (.box 27 [.lit (.bool false), .nl 1, .nl 1] false)),
    (2, some (.box 27 [.lit (.bool (rawQ s_3).s), natA (rawQ s_3).l1, natA (rawQ s_3).l2] false))], 3⟩
def ev_o3a (s_3 : Rat) : St :=
  ⟨[(4, .ptr 0 0), (5, .lit (.int .i64 2)), (6, .ptr 1 0)],
   [(0, some (.box 27 [.lit (.bool false), .nl 1, .nl 1] false)),
    (1, some (.box 27 [.lit (.bool (rawQ s_3).s), natA (rawQ s_3).l1, natA (rawQ s_3).l2] false))], 2⟩
def ev_o3b (s_3 : Rat) : St :=
  ⟨[(4, .ptr 0 0), (5, .any), (6, .ptr 1 0)],
   [(0, some (.box 27 [.lit (.bool false), .nl 1, .nl 1] false)),
    (1, some (.box 27 [.lit (.bool (rawQ s_3).s), natA (rawQ s_3).l1, natA (rawQ s_3).l2] false))], 2⟩
section
variable {a1 : List Rat} {v3 : Int} {q3 : Rat} {s_3 : Rat} {a0 : Form} {x3 : Rat} {i_3 : Nat} {n : Nat}
theorem ev_r3_1 (C1 : (i_3 : Int) < (a0.1.length : Int)) (E2 : a0.1[i_3]? = some (v3, q3)) (C3 : ¬ v3 < 0) (C4 : ¬ (a1.length : Int) ≤ v3) (E5 : a1[v3.toNat]? = some x3) (Z5 : 0 ≤ v3) (B6a : H q3 ≤ 17179869184) (B6b : H x3 ≤ 17179869184) (B7a : H s_3 ≤ 17179869184) (B7b : H (q3 * x3) ≤ 17179869184) (W8 : InI ((i_3 : Int) + 1)) :
    Cont 0 (exec Tryz.prog (tab n) 0 45 (livesOf 99) big ev_C3) (livesOf 99 3) (ev_h3 a0 a1 i_3 s_3) (ev_h3 a0 a1 (i_3 + 1) (s_3 + (q3 * x3))) := by
  have C1_ : i_3 < a0.1.length := by omega
  obtain ⟨EL2, EG2⟩ := List.getElem?_eq_some_iff.1 E2
  obtain ⟨EL5, EG5⟩ := List.getElem?_eq_some_iff.1 E5
  have K6 := r_mul (p := q3) (q := x3) B6a B6b
  have K7 := r_add (p := s_3) (q := q3 * x3) B7a B7b
  have W8_ : IntKind.i64.wrap ((i_3 : Int) + 1) = (i_3 : Int) + 1 := wr64 W8.1 W8.2
  unfold Cont
  simp +decide [ev_h3, loopsOf, Tryz.f99, ev_C3, C1, C1_, EL2, EG2, E2, C3, C4, EL5, EG5, E5, Z5, K6, K7, W8_]
theorem ev_x3_1 (C1 : (i_3 : Int) < (a0.1.length : Int)) (E2 : a0.1[i_3]? = some (v3, q3)) (C3 : v3 < 0) :
    Leave 0 (exec Tryz.prog (tab n) 0 45 (livesOf 99) big ev_C3) (livesOf 99 (outOf 3)) (ev_h3 a0 a1 i_3 s_3) (.ret) (ev_o3a s_3) := by
  have C1_ : i_3 < a0.1.length := by omega
  obtain ⟨EL2, EG2⟩ := List.getElem?_eq_some_iff.1 E2
  unfold Leave
  simp +decide [ev_h3, loopsOf, Tryz.f99, ev_o3a, ev_C3, C1, C1_, EL2, EG2, E2, C3]
theorem ev_x3_2 (C1 : (i_3 : Int) < (a0.1.length : Int)) (E2 : a0.1[i_3]? = some (v3, q3)) (C3 : ¬ v3 < 0) (C4 : (a1.length : Int) ≤ v3) :
    Leave 0 (exec Tryz.prog (tab n) 0 45 (livesOf 99) big ev_C3) (livesOf 99 (outOf 3)) (ev_h3 a0 a1 i_3 s_3) (.ret) (ev_o3a s_3) := by
  have C1_ : i_3 < a0.1.length := by omega
  obtain ⟨EL2, EG2⟩ := List.getElem?_eq_some_iff.1 E2
  unfold Leave
  simp +decide [ev_h3, loopsOf, Tryz.f99, ev_o3a, ev_C3, C1, C1_, EL2, EG2, E2, C3, C4]
theorem ev_x3_3 (C1 : ¬ (i_3 : Int) < (a0.1.length : Int)) :
    Leave 0 (exec Tryz.prog (tab n) 0 45 (livesOf 99) big ev_C3) (livesOf 99 (outOf 3)) (ev_h3 a0 a1 i_3 s_3) (.exit 0) (ev_o3b s_3) := by
  have C1_ : ¬ i_3 < a0.1.length := by omega
  unfold Leave
  simp +decide [ev_h3, loopsOf, Tryz.f99, ev_o3b, ev_C3, C1, C1_]
theorem ev_f1 (L1 : loopG Tryz.prog (tab n) 0 45 (livesOf 99) 3 ev_C3 (ev_h3 a0 a1 0 a0.2) = some (.ret, ev_o3a s_3)) :
    run n 99 [formV a0, .sl 3 (a1.map ratC)] = some (.tup [.agg [.lit (.bool false), .sl 1 [], .sl 1 []], .lit (.int .i64 2)]) := by
  unfold run fnP
  simp +decide [Tryz.f99]
  rw [loopX_G (C' := ev_C3) (e := (ev_h3 a0 a1 0 a0.2)) ?_ ?_, L1]
  rotate_left
  · kernel_rfl
  · simp +decide [ev_h3]
  simp +decide [ev_o3a]
theorem ev_f2 (L1 : loopG Tryz.prog (tab n) 0 45 (livesOf 99) 3 ev_C3 (ev_h3 a0 a1 0 a0.2) = some (.exit 0, ev_o3b s_3)) :
    run n 99 [formV a0, .sl 3 (a1.map ratC)] = some (.tup [ratV s_3, .lit (.int .i64 0)]) := by
  unfold run fnP
  simp +decide [Tryz.f99]
  rw [loopX_G (C' := ev_C3) (e := (ev_h3 a0 a1 0 a0.2)) ?_ ?_, L1]
  rotate_left
  · kernel_rfl
  · simp +decide [ev_h3]
  simp +decide [ev_o3b]
end
end Go.Proofs.YtlpmemelhlnfbaaGreatDoor
