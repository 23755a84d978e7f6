import Derived.Test.YtjpoanaoaeaneaaGreatDoorGC5
set_option linter.all false
namespace Go.Proofs.YtjpoanaoaeaneaaGreatDoor
open Go.RowKit
theorem set_termRC (l : List (Int × Raw)) (i : Nat) (v : Int) (q : Raw) : (l.map termRC).set i [.lit (.int .i64 v), .lit (.bool q.s), natA q.l1, natA q.l2] = (l.set i (v, q)).map termRC := by
  rw [List.map_set]
  simp
end Go.Proofs.YtjpoanaoaeaneaaGreatDoor
set_option linter.all false
set_option maxRecDepth 100000
set_option maxHeartbeats 6400000
namespace Go.Proofs.YtjpoanaoaeaneaaGreatDoor
open Go.RowKit
noncomputable def lmk_C7 : Code := (loopsOf (bodyOf Tryz.f32)).getD 0 .skip
noncomputable def lmk_C9 : Code := (loopsOf lmk_C7).getD 0 .skip
def lmk_h9 (a1 : Raw) (i_9 : Int) (v10 : Int) (R2 : List (Int × Raw)) (out_7 : List (Int × Rat)) (s_9 : Rat) : St :=
  ⟨[(4, .ptr 0 0), (6, .own 1 R2.length), (7, .ptr 2 0), (8, .lit (.int .i64 i_9)), (9, .lit (.int .i64 v10)), (10, .ptr 4 0)],
   [(0, some (.box 28 [.nl 4, .lit (.bool false), .nl 1, .nl 1] false)),
    (1, some (.row 82 4 (R2.map termRC) 0)),
    (2, some (.box 28 [.own 3 out_7.length, .lit (.bool (rawQ a1.q).s), natA (rawQ a1.q).l1, natA (rawQ a1.q).l2] false)),
    (3, some (.row 82 4 (out_7.map termC) 0)),
    (4, some (.box 26 [.lit (.bool (rawQ s_9).s), natA (rawQ s_9).l1, natA (rawQ s_9).l2] false))], 5⟩
def lmk_h7 (a1 : Raw) (i_7 : Int) (R2 : List (Int × Raw)) (out_7 : List (Int × Rat)) : St :=
  ⟨[(4, .ptr 0 0), (6, .own 1 R2.length), (7, .ptr 2 0), (8, .lit (.int .i64 i_7))],
   [(0, some (.box 28 [.nl 4, .lit (.bool false), .nl 1, .nl 1] false)),
    (1, some (.row 82 4 (R2.map termRC) 0)),
    (2, some (.box 28 [.own 3 out_7.length, .lit (.bool (rawQ a1.q).s), natA (rawQ a1.q).l1, natA (rawQ a1.q).l2] false)),
    (3, some (.row 82 4 (out_7.map termC) 0))], 4⟩
def lmk_o9a (a1 : Raw) (i_9 : Int) (v10 : Int) (R2 : List (Int × Raw)) (out_7 : List (Int × Rat)) (s_9 : Rat) : St :=
  ⟨[(4, .ptr 0 0), (6, .own 1 R2.length), (7, .ptr 2 0), (8, .lit (.int .i64 i_9)), (9, .lit (.int .i64 v10)), (10, .ptr 4 0)],
   [(0, some (.box 28 [.nl 4, .lit (.bool false), .nl 1, .nl 1] false)),
    (1, some (.row 82 4 (R2.map termRC) 0)),
    (2, some (.box 28 [.own 3 out_7.length, .lit (.bool (rawQ a1.q).s), natA (rawQ a1.q).l1, natA (rawQ a1.q).l2] false)),
    (3, some (.row 82 4 (out_7.map termC) 0)),
    (4, some (.box 26 [.lit (.bool (rawQ s_9).s), natA (rawQ s_9).l1, natA (rawQ s_9).l2] false))], 5⟩
def lmk_o7a (a1 : Raw) (out_7 : List (Int × Rat)) : St :=
  ⟨[(4, .ptr 0 0), (7, .ptr 1 0)],
   [(0, some (.box 28 [.nl 4, .lit (.bool false), .nl 1, .nl 1] false)),
    (1, some (.box 28 [.own 2 out_7.length, .lit (.bool (rawQ a1.q).s), natA (rawQ a1.q).l1, natA (rawQ a1.q).l2] false)),
    (2, some (.row 82 4 (out_7.map termC) 0))], 3⟩
section
variable {n : Nat} {v13 : Int} {r13 : Raw} {v10 : Int} {s_9 : Rat} {i_9 : Int} {a1 : Raw} {out_7 : List (Int × Rat)} {R2 : List (Int × Raw)} {i_7 : Int} {r10 : Raw} {R5 : List (Int × Rat)} {R : List (Int × Raw)} {r : Raw} {v : Int} {a0 : List (Int × Raw)}
theorem lmk_r9_1 {R : List (Int × Raw)} (C1 : i_9 < (R2.length : Int)) (G2 : i_9.toNat < R2.length) (Z2 : 0 ≤ i_9) (E3 : R2[i_9.toNat]? = some (v13, r13)) (Z3 : 0 ≤ i_9) (C4 : v13 = v10) (B6aH : H s_9 ≤ 17179869184) (B6b : RawB r13) (W7 : InI (i_9 + 1)) :
    Cont 0 (exec Tryz.prog (tab (n + 44)) 0 66 (livesOf 32) big lmk_C9) (livesOf 32 9) (lmk_h9 a1 i_9 v10 R2 out_7 s_9) (lmk_h9 a1 (i_9 + 1) v10 R2 out_7 (s_9 + r13.q)) := by
  obtain ⟨EL3, EG3⟩ := List.getElem?_eq_some_iff.1 E3
  have C4_ : (v13 == v10) = true := by rw [C4]; simp
  have C4_n : (v13 != v10) = false := by rw [C4]; simp
  have B6a := rawB_q B6aH
  have K6 := rr_add B6a B6b
  simp only [rawQ_q] at K6
  have W7_ : IntKind.i64.wrap (i_9 + 1) = i_9 + 1 := wr64 W7.1 W7.2
  unfold Cont
  simp +decide [lmk_h9, loopsOf, Tryz.f32, lmk_C7, lmk_C9, C1, G2, Z2, EL3, EG3, E3, Z3, C4_, C4_n, K6, W7_]
  all_goals simp +decide [natA]
theorem lmk_x9_1 {R : List (Int × Raw)} (C1 : i_9 < (R2.length : Int)) (G2 : i_9.toNat < R2.length) (Z2 : 0 ≤ i_9) (E3 : R2[i_9.toNat]? = some (v13, r13)) (Z3 : 0 ≤ i_9) (C4 : ¬ v13 = v10) :
    Leave 0 (exec Tryz.prog (tab (n + 44)) 0 66 (livesOf 32) big lmk_C9) (livesOf 32 (outOf 9)) (lmk_h9 a1 i_9 v10 R2 out_7 s_9) (.exit 2) (lmk_o9a a1 i_9 v10 R2 out_7 s_9) := by
  obtain ⟨EL3, EG3⟩ := List.getElem?_eq_some_iff.1 E3
  have C4_ : (v13 == v10) = false := by simpa using C4
  have C4_n : (v13 != v10) = true := by simpa using C4
  unfold Leave
  simp +decide [lmk_h9, loopsOf, Tryz.f32, lmk_o9a, lmk_C7, lmk_C9, C1, G2, Z2, EL3, EG3, E3, Z3, C4_, C4_n]
theorem lmk_x9_2 {R : List (Int × Raw)} (C1 : ¬ i_9 < (R2.length : Int)) :
    Leave 0 (exec Tryz.prog (tab (n + 44)) 0 66 (livesOf 32) big lmk_C9) (livesOf 32 (outOf 9)) (lmk_h9 a1 i_9 v10 R2 out_7 s_9) (.exit 2) (lmk_o9a a1 i_9 v10 R2 out_7 s_9) := by
  unfold Leave
  simp +decide [lmk_h9, loopsOf, Tryz.f32, lmk_o9a, lmk_C7, lmk_C9, C1]
theorem lmk_r7_1 {R : List (Int × Raw)} (C1 : i_7 < (R2.length : Int)) (G2 : i_7.toNat < R2.length) (Z2 : 0 ≤ i_7) (E3 : R2[i_7.toNat]? = some (v10, r10)) (Z3 : 0 ≤ i_7) (L4 : loopG Tryz.prog (tab (n + 44)) 0 66 (livesOf 32) 9 lmk_C9 (lmk_h9 a1 i_7 v10 R2 out_7 0) = some (.exit 2, lmk_o9a a1 i_9 v10 R2 out_7 s_9)) (K5 : runL (n + 43) 97 [.agg [.own 0 out_7.length, .lit (.bool (rawQ a1.q).s), natA (rawQ a1.q).l1, natA (rawQ a1.q).l2], .lit (.int .i64 v10), ratV s_9] [.row 82 4 (out_7.map termC) 0] = some (.agg [.own 0 out_7.length, .lit (.bool (rawQ a1.q).s), natA (rawQ a1.q).l1, natA (rawQ a1.q).l2], [(0, .row 82 4 (out_7.map termC) 0)])) :
    Cont 0 (exec Tryz.prog (tab (n + 44)) 0 66 (livesOf 32) big lmk_C7) (livesOf 32 7) (lmk_h7 a1 i_7 R2 out_7) (lmk_h7 a1 i_9 R2 out_7) := by
  obtain ⟨EL3, EG3⟩ := List.getElem?_eq_some_iff.1 E3
  simp only [ratV] at K5
  unfold Cont
  simp +decide [lmk_h7, loopsOf, Tryz.f32, lmk_C7, C1, G2, Z2, EL3, EG3, E3, Z3, K5]
  rw [loopX_G (C' := lmk_C9) (e := (lmk_h9 a1 i_7 v10 R2 out_7 0)) ?_ ?_, L4]
  rotate_left
  · kernel_rfl
  · simp +decide [lmk_h9, loopsOf, Tryz.f32, lmk_C7, C1, G2, Z2, EL3, EG3, E3, Z3, K5]
  simp +decide [lmk_o9a, loopsOf, Tryz.f32, lmk_C7, C1, G2, Z2, EL3, EG3, E3, Z3, K5]
  all_goals simp +decide [natA]
theorem lmk_r7_2 {R : List (Int × Raw)} (C1 : i_7 < (R2.length : Int)) (G2 : i_7.toNat < R2.length) (Z2 : 0 ≤ i_7) (E3 : R2[i_7.toNat]? = some (v10, r10)) (Z3 : 0 ≤ i_7) (L4 : loopG Tryz.prog (tab (n + 44)) 0 66 (livesOf 32) 9 lmk_C9 (lmk_h9 a1 i_7 v10 R2 out_7 0) = some (.exit 2, lmk_o9a a1 i_9 v10 R2 out_7 s_9)) (K5 : runL (n + 43) 97 [.agg [.own 0 out_7.length, .lit (.bool (rawQ a1.q).s), natA (rawQ a1.q).l1, natA (rawQ a1.q).l2], .lit (.int .i64 v10), ratV s_9] [.row 82 4 (out_7.map termC) 0] = some (.agg [.own 4 R5.length, .lit (.bool (rawQ a1.q).s), natA (rawQ a1.q).l1, natA (rawQ a1.q).l2], [(4, .row 82 4 (R5.map termC) 0)])) :
    Cont 0 (exec Tryz.prog (tab (n + 44)) 0 66 (livesOf 32) big lmk_C7) (livesOf 32 7) (lmk_h7 a1 i_7 R2 out_7) (lmk_h7 a1 i_9 R2 R5) := by
  obtain ⟨EL3, EG3⟩ := List.getElem?_eq_some_iff.1 E3
  simp only [ratV] at K5
  unfold Cont
  simp +decide [lmk_h7, loopsOf, Tryz.f32, lmk_C7, C1, G2, Z2, EL3, EG3, E3, Z3, K5]
  rw [loopX_G (C' := lmk_C9) (e := (lmk_h9 a1 i_7 v10 R2 out_7 0)) ?_ ?_, L4]
  rotate_left
  · kernel_rfl
  · simp +decide [lmk_h9, loopsOf, Tryz.f32, lmk_C7, C1, G2, Z2, EL3, EG3, E3, Z3, K5]
  simp +decide [lmk_o9a, loopsOf, Tryz.f32, lmk_C7, C1, G2, Z2, EL3, EG3, E3, Z3, K5]
  all_goals simp +decide [natA]
theorem lmk_x7_1 {R : List (Int × Raw)} (C1 : ¬ i_7 < (R2.length : Int)) :
    Leave 0 (exec Tryz.prog (tab (n + 44)) 0 66 (livesOf 32) big lmk_C7) (livesOf 32 (outOf 7)) (lmk_h7 a1 i_7 R2 out_7) (.exit 0) (lmk_o7a a1 out_7) := by
  unfold Leave
  simp +decide [lmk_h7, loopsOf, Tryz.f32, lmk_o7a, lmk_C7, C1]
theorem lmk_f1 (K1 : clT [.sl 4 (a0.map termRC)] [] = some (.own 2 R2.length, [(2, .row 82 4 (R.map termRC) 0)])) (K2 : runL (n + 43) 93 [.own 0 R2.length, .clo 94 []] [.row 82 4 (R.map termRC) 0] = some (.tup [], [(0, .row 82 4 (R2.map termRC) 0)])) (C3 : 0 < (R2.length : Int)) (G4 : 0 < R2.length) (E5 : R2[0]? = some (v, r)) (C6 : v < 0) :
    run (n + 44) 32 [.sl 4 (a0.map termRC), .agg [.lit (.bool a1.s), natA a1.l1, natA a1.l2]] = some (.tup [.agg [.sl 4 [], .lit (.bool false), .sl 1 [], .sl 1 []], .lit (.int .i64 1)]) := by
  have C3_ : 0 < R2.length := by omega
  have C3_z : (R2.length : Int) ≠ 0 := by omega
  have C3_e : ((R2.length : Int) == 0) = false := by simpa using C3_z
  have C3_g : ((R2.length : Int) != 0) = true := by simpa using C3_z
  obtain ⟨EL5, EG5⟩ := List.getElem?_eq_some_iff.1 E5
  unfold run fnP
  simp +decide [Tryz.f32, K1, K2, C3, C3_, C3_e, C3_g, G4, EL5, EG5, E5, C6]
theorem lmk_f2 (K1 : clT [.sl 4 (a0.map termRC)] [] = some (.own 2 R2.length, [(2, .row 82 4 (R.map termRC) 0)])) (K2 : runL (n + 43) 93 [.own 0 R2.length, .clo 94 []] [.row 82 4 (R.map termRC) 0] = some (.tup [], [(0, .row 82 4 (R2.map termRC) 0)])) (C3 : 0 < (R2.length : Int)) (G4 : 0 < R2.length) (E5 : R2[0]? = some (v, r)) (C6 : ¬ v < 0) (B7a : RawB a1) (L8 : loopG Tryz.prog (tab (n + 44)) 0 66 (livesOf 32) 7 lmk_C7 (lmk_h7 a1 0 R2 []) = some (.exit 0, lmk_o7a a1 out_7)) :
    run (n + 44) 32 [.sl 4 (a0.map termRC), .agg [.lit (.bool a1.s), natA a1.l1, natA a1.l2]] = some (.tup [formV (out_7, a1.q), .lit (.int .i64 0)]) := by
  have C3_ : 0 < R2.length := by omega
  have C3_z : (R2.length : Int) ≠ 0 := by omega
  have C3_e : ((R2.length : Int) == 0) = false := by simpa using C3_z
  have C3_g : ((R2.length : Int) != 0) = true := by simpa using C3_z
  obtain ⟨EL5, EG5⟩ := List.getElem?_eq_some_iff.1 E5
  have K7 := rr_canon B7a
  unfold run fnP
  simp +decide [Tryz.f32, K1, K2, C3, C3_, C3_e, C3_g, G4, EL5, EG5, E5, C6, K7]
  rw [loopX_G (C' := lmk_C7) (e := (lmk_h7 a1 0 R2 [])) ?_ ?_, L8]
  rotate_left
  · kernel_rfl
  · simp +decide [lmk_h7, K1, K2, C3, C3_, C3_e, C3_g, G4, EL5, EG5, E5, C6, K7]
  simp +decide [lmk_o7a, K1, K2, C3, C3_, C3_e, C3_g, G4, EL5, EG5, E5, C6, K7]
end
end Go.Proofs.YtjpoanaoaeaneaaGreatDoor
set_option linter.all false
set_option maxRecDepth 100000
set_option maxHeartbeats 6400000
namespace Go.Proofs.YtjpoanaoaeaneaaGreatDoor
open Go.RowKit
noncomputable def lmn_C7 : Code := (loopsOf (bodyOf Tryz.f32)).getD 0 .skip
def lmn_h7 (a1 : Raw) (i_7 : Int) (out_7 : List (Int × Rat)) : St :=
  ⟨[(4, .ptr 0 0), (6, .sl 4 ([] : List (List AV))), (7, .ptr 1 0), (8, .lit (.int .i64 i_7))],
   [(0, some (.box 28 [.nl 4, .lit (.bool false), .nl 1, .nl 1] false)),
    (1, some (.box 28 [.own 2 out_7.length, .lit (.bool (rawQ a1.q).s), natA (rawQ a1.q).l1, natA (rawQ a1.q).l2] false)),
    (2, some (.row 82 4 (out_7.map termC) 0))], 3⟩
def lmn_o7a (a1 : Raw) (out_7 : List (Int × Rat)) : St :=
  ⟨[(4, .ptr 0 0), (7, .ptr 1 0)],
   [(0, some (.box 28 [.nl 4, .lit (.bool false), .nl 1, .nl 1] false)),
    (1, some (.box 28 [.own 2 out_7.length, .lit (.bool (rawQ a1.q).s), natA (rawQ a1.q).l1, natA (rawQ a1.q).l2] false)),
    (2, some (.row 82 4 (out_7.map termC) 0))], 3⟩
section
variable {n : Nat} {out_7 : List (Int × Rat)} {a1 : Raw} {a0 : List (Int × Raw)}
theorem lmn_x7_1 :
    Leave 0 (exec Tryz.prog (tab (n + 44)) 0 66 (livesOf 32) big lmn_C7) (livesOf 32 (outOf 7)) (lmn_h7 a1 0 out_7) (.exit 0) (lmn_o7a a1 out_7) := by
  unfold Leave
  simp +decide [lmn_h7, loopsOf, Tryz.f32, lmn_o7a, lmn_C7]
theorem lmn_f3 (K1 : clT [.sl 4 (a0.map termRC)] [] = some (.sl 4 [], [])) (K2 : runL (n + 43) 93 [.sl 4 ([] : List (List AV)), .clo 94 []] [] = some (.tup [], [])) (C3 : ¬ 0 < (([] : List (Int × Rat)).length : Int)) (B4a : RawB a1) (L5 : loopG Tryz.prog (tab (n + 44)) 0 66 (livesOf 32) 7 lmn_C7 (lmn_h7 a1 0 []) = some (.exit 0, lmn_o7a a1 out_7)) :
    run (n + 44) 32 [.sl 4 (a0.map termRC), .agg [.lit (.bool a1.s), natA a1.l1, natA a1.l2]] = some (.tup [formV (out_7, a1.q), .lit (.int .i64 0)]) := by
  have C3_ : ¬ 0 < ([] : List (Int × Rat)).length := by omega
  have C3_z : (([] : List (Int × Rat)).length : Int) = 0 := by omega
  have C3_e : ((([] : List (Int × Rat)).length : Int) == 0) = true := by rw [C3_z]; simp
  have C3_g : ((([] : List (Int × Rat)).length : Int) != 0) = false := by rw [C3_z]; simp
  have K4 := rr_canon B4a
  unfold run fnP
  simp +decide [Tryz.f32, K1, K2, C3, C3_, C3_e, C3_g, K4]
  rw [loopX_G (C' := lmn_C7) (e := (lmn_h7 a1 0 [])) ?_ ?_, L5]
  rotate_left
  · kernel_rfl
  · simp +decide [lmn_h7, K1, K2, C3, C3_, C3_e, C3_g, K4]
  simp +decide [lmn_o7a, K1, K2, C3, C3_, C3_e, C3_g, K4]
end
end Go.Proofs.YtjpoanaoaeaneaaGreatDoor
set_option linter.all false
set_option maxRecDepth 100000
set_option maxHeartbeats 6400000
namespace Go.Proofs.YtjpoanaoaeaneaaGreatDoor
open Go.RowKit
noncomputable def fmr_C3 : Code := (loopsOf (bodyOf Tryz.f33)).getD 0 .skip
def fmr_h3 (a0 : List (Int × Raw)) (i_3 : Nat) (l_3 : List (Int × Rat)) (s_3 : Rat) : St :=
  ⟨[(0, .sl 4 (a0.map termRC)), (4, .ptr 0 0), (6, .ptr 1 0), (7, .lit (.int .i64 (i_3 : Int)))],
   [(0, some (.box 28 [.nl 4, .lit (.bool false), .nl 1, .nl 1] false)),
    (1, some (.box 28 [.sl 4 (l_3.map termC), .lit (.bool (rawQ s_3).s), natA (rawQ s_3).l1, natA (rawQ s_3).l2] false))], 2⟩
def fmr_o3a (l_3 : List (Int × Rat)) (s_3 : Rat) : St :=
  ⟨[(4, .ptr 0 0), (5, .lit (.int .i64 1)), (6, .ptr 1 0)],
   [(0, some (.box 28 [.nl 4, .lit (.bool false), .nl 1, .nl 1] false)),
    (1, some (.box 28 [.sl 4 (l_3.map termC), .lit (.bool (rawQ s_3).s), natA (rawQ s_3).l1, natA (rawQ s_3).l2] false))], 2⟩
def fmr_o3b (l_3 : List (Int × Rat)) (s_3 : Rat) : St :=
  ⟨[(4, .ptr 0 0), (5, .any), (6, .ptr 1 0)],
   [(0, some (.box 28 [.nl 4, .lit (.bool false), .nl 1, .nl 1] false)),
    (1, some (.box 28 [.sl 4 (l_3.map termC), .lit (.bool (rawQ s_3).s), natA (rawQ s_3).l1, natA (rawQ s_3).l2] false))], 2⟩
section
variable {s_3 : Rat} {n : Nat} {i_3 : Nat} {a0 : List (Int × Raw)} {r5 : Raw} {l_3 : List (Int × Rat)} {v3 : Int} {r6 : Form} {a1 : Raw}
theorem fmr_r3_1 (C1 : (i_3 : Int) < (a0.length : Int)) (E2 : a0[i_3]? = some (v3, r5)) (C3 : ¬ v3 < 0) (K4 : run (n + 1) 98 [formV (l_3, s_3), .lit (.int .i64 v3), .agg [.lit (.bool r5.s), natA r5.l1, natA r5.l2]] = some (formV r6)) (W5 : InI ((i_3 : Int) + 1)) :
    Cont 0 (exec Tryz.prog (tab (n + 2)) 0 37 (livesOf 33) big fmr_C3) (livesOf 33 3) (fmr_h3 a0 i_3 l_3 s_3) (fmr_h3 a0 (i_3 + 1) r6.1 r6.2) := by
  have C1_ : i_3 < a0.length := by omega
  obtain ⟨EL2, EG2⟩ := List.getElem?_eq_some_iff.1 E2
  simp only [formV] at K4
  have W5_ : IntKind.i64.wrap ((i_3 : Int) + 1) = (i_3 : Int) + 1 := wr64 W5.1 W5.2
  unfold Cont
  simp +decide [fmr_h3, loopsOf, Tryz.f33, fmr_C3, C1, C1_, EL2, EG2, E2, C3, K4, W5_]
theorem fmr_x3_1 (C1 : (i_3 : Int) < (a0.length : Int)) (E2 : a0[i_3]? = some (v3, r5)) (C3 : v3 < 0) :
    Leave 0 (exec Tryz.prog (tab (n + 2)) 0 37 (livesOf 33) big fmr_C3) (livesOf 33 (outOf 3)) (fmr_h3 a0 i_3 l_3 s_3) (.ret) (fmr_o3a l_3 s_3) := by
  have C1_ : i_3 < a0.length := by omega
  obtain ⟨EL2, EG2⟩ := List.getElem?_eq_some_iff.1 E2
  unfold Leave
  simp +decide [fmr_h3, loopsOf, Tryz.f33, fmr_o3a, fmr_C3, C1, C1_, EL2, EG2, E2, C3]
theorem fmr_x3_2 (C1 : ¬ (i_3 : Int) < (a0.length : Int)) :
    Leave 0 (exec Tryz.prog (tab (n + 2)) 0 37 (livesOf 33) big fmr_C3) (livesOf 33 (outOf 3)) (fmr_h3 a0 i_3 l_3 s_3) (.exit 0) (fmr_o3b l_3 s_3) := by
  have C1_ : ¬ i_3 < a0.length := by omega
  unfold Leave
  simp +decide [fmr_h3, loopsOf, Tryz.f33, fmr_o3b, fmr_C3, C1, C1_]
theorem fmr_f1 (B1a : RawB a1) (L2 : loopG Tryz.prog (tab (n + 2)) 0 37 (livesOf 33) 3 fmr_C3 (fmr_h3 a0 0 [] a1.q) = some (.ret, fmr_o3a l_3 s_3)) :
    run (n + 2) 33 [.sl 4 (a0.map termRC), .agg [.lit (.bool a1.s), natA a1.l1, natA a1.l2]] = some (.tup [.agg [.sl 4 [], .lit (.bool false), .sl 1 [], .sl 1 []], .lit (.int .i64 1)]) := by
  have K1 := rr_canon B1a
  unfold run fnP
  simp +decide [Tryz.f33, K1]
  rw [loopX_G (C' := fmr_C3) (e := (fmr_h3 a0 0 [] a1.q)) ?_ ?_, L2]
  rotate_left
  · kernel_rfl
  · simp +decide [fmr_h3, K1]
  simp +decide [fmr_o3a, K1]
theorem fmr_f2 (B1a : RawB a1) (L2 : loopG Tryz.prog (tab (n + 2)) 0 37 (livesOf 33) 3 fmr_C3 (fmr_h3 a0 0 [] a1.q) = some (.exit 0, fmr_o3b l_3 s_3)) :
    run (n + 2) 33 [.sl 4 (a0.map termRC), .agg [.lit (.bool a1.s), natA a1.l1, natA a1.l2]] = some (.tup [formV (l_3, s_3), .lit (.int .i64 0)]) := by
  have K1 := rr_canon B1a
  unfold run fnP
  simp +decide [Tryz.f33, K1]
  rw [loopX_G (C' := fmr_C3) (e := (fmr_h3 a0 0 [] a1.q)) ?_ ?_, L2]
  rotate_left
  · kernel_rfl
  · simp +decide [fmr_h3, K1]
  simp +decide [fmr_o3b, K1]
end
end Go.Proofs.YtjpoanaoaeaneaaGreatDoor
set_option linter.all false
set_option maxRecDepth 100000
set_option maxHeartbeats 6400000
namespace Go.Proofs.YtjpoanaoaeaneaaGreatDoor
open Go.RowKit
section
variable {n : Nat} {a0 : Int × Raw} {a1 : Int × Raw}
theorem lcm_f1 (C1 : a0.1 < a1.1) :
    run n 94 [.agg [.lit (.int .i64 (a0.1)), .lit (.bool a0.2.s), natA a0.2.l1, natA a0.2.l2], .agg [.lit (.int .i64 (a1.1)), .lit (.bool a1.2.s), natA a1.2.l1, natA a1.2.l2]] = some (.lit (.int .i64 (-1))) := by
  unfold run fnP
  simp +decide [Tryz.f94, C1]
theorem lcm_f2 (C1 : ¬ a0.1 < a1.1) (C2 : a1.1 < a0.1) :
    run n 94 [.agg [.lit (.int .i64 (a0.1)), .lit (.bool a0.2.s), natA a0.2.l1, natA a0.2.l2], .agg [.lit (.int .i64 (a1.1)), .lit (.bool a1.2.s), natA a1.2.l1, natA a1.2.l2]] = some (.lit (.int .i64 1)) := by
  unfold run fnP
  simp +decide [Tryz.f94, C1, C2]
theorem lcm_f3 (C1 : ¬ a0.1 < a1.1) (C2 : ¬ a1.1 < a0.1) :
    run n 94 [.agg [.lit (.int .i64 (a0.1)), .lit (.bool a0.2.s), natA a0.2.l1, natA a0.2.l2], .agg [.lit (.int .i64 (a1.1)), .lit (.bool a1.2.s), natA a1.2.l1, natA a1.2.l2]] = some (.lit (.int .i64 0)) := by
  unfold run fnP
  simp +decide [Tryz.f94, C1, C2]
end
noncomputable def isc_C1 : Code := (loopsOf (bodyOf Tryz.f228)).getD 0 .skip
noncomputable def isc_C4 : Code := (loopsOf isc_C1).getD 0 .skip
def isc_h4 (a1 : Int) (a2 : Int) (out_4 : List (Int × Raw)) (i_1 : Int) (i_4 : Int) : St :=
  ⟨[(0, .own 0 out_4.length), (1, .lit (.int .i64 a1)), (2, .lit (.int .i64 a2)), (3, .clo 94 []), (8, .lit (.int .i64 i_1)), (9, .lit (.int .i64 i_4))],
   [(0, some (.row 82 4 (out_4.map termRC) 0))], 1⟩
def isc_h1 (a1 : Int) (a2 : Int) (out_1 : List (Int × Raw)) (i_1 : Int) : St :=
  ⟨[(0, .own 0 out_1.length), (1, .lit (.int .i64 a1)), (2, .lit (.int .i64 a2)), (3, .clo 94 []), (8, .lit (.int .i64 i_1))],
   [(0, some (.row 82 4 (out_1.map termRC) 0))], 1⟩
def isc_o4a (a1 : Int) (a2 : Int) (out_4 : List (Int × Raw)) (i_1 : Int) : St :=
  ⟨[(0, .own 0 out_4.length), (1, .lit (.int .i64 a1)), (2, .lit (.int .i64 a2)), (3, .clo 94 []), (8, .lit (.int .i64 i_1))],
   [(0, some (.row 82 4 (out_4.map termRC) 0))], 1⟩
def isc_o1a (out_1 : List (Int × Raw)) : St :=
  ⟨[],
   [(0, some (.row 82 4 (out_1.map termRC) 0))], 1⟩
section
variable {n : Nat} {v15 : Int} {r24 : Int} {r22 : Raw} {out_4 : List (Int × Raw)} {a1 : Int} {a2 : Int} {i_1 : Int} {r23 : Raw} {i_4 : Int} {v16 : Int} {out_1 : List (Int × Raw)} {a0 : List (Int × Raw)}
theorem isc_r4_1 (C1 : a1 < i_4) (G2 : i_4.toNat < out_4.length) (Z2 : 0 ≤ i_4) (E3 : out_4[i_4.toNat]? = some (v15, r22)) (Z3 : 0 ≤ i_4) (W4 : InI (i_4 - 1)) (G5 : i_4.toNat - 1 < out_4.length) (Z5 : 0 ≤ i_4 - 1) (E6 : out_4[i_4.toNat - 1]? = some (v16, r23)) (Z6 : 0 ≤ i_4 - 1) (K7 : run n 94 [.agg [.lit (.int .i64 v15), .lit (.bool r22.s), natA r22.l1, natA r22.l2], .agg [.lit (.int .i64 v16), .lit (.bool r23.s), natA r23.l1, natA r23.l2]] = some (.lit (.int .i64 r24))) (C8 : r24 < 0) :
    Cont 1 (exec Tryz.prog (tab (n + 1)) 1 53 (livesOf 228) big isc_C4) (livesOf 228 4) (isc_h4 a1 a2 out_4 i_1 i_4) (isc_h4 a1 a2 ((out_4.set i_4.toNat (v16, r23)).set (i_4.toNat - 1) (v15, r22)) i_1 (i_4 - 1)) := by
  obtain ⟨EL3, EG3⟩ := List.getElem?_eq_some_iff.1 E3
  have W4_ : IntKind.i64.wrap (i_4 - 1) = i_4 - 1 := wr64 W4.1 W4.2
  have Z5_0 : 1 ≤ i_4 := by omega
  obtain ⟨EL6, EG6⟩ := List.getElem?_eq_some_iff.1 E6
  have Z6_0 : 1 ≤ i_4 := by omega
  unfold Cont
  simp +decide [isc_h4, loopsOf, Tryz.f228, isc_C1, isc_C4, C1, G2, Z2, EL3, EG3, E3, Z3, W4_, G5, Z5, Z5_0, EL6, EG6, E6, Z6, Z6_0, K7, C8, set_termRC, -List.map_set]
theorem isc_x4_1 (C1 : a1 < i_4) (G2 : i_4.toNat < out_4.length) (Z2 : 0 ≤ i_4) (E3 : out_4[i_4.toNat]? = some (v15, r22)) (Z3 : 0 ≤ i_4) (W4 : InI (i_4 - 1)) (G5 : i_4.toNat - 1 < out_4.length) (Z5 : 0 ≤ i_4 - 1) (E6 : out_4[i_4.toNat - 1]? = some (v16, r23)) (Z6 : 0 ≤ i_4 - 1) (K7 : run n 94 [.agg [.lit (.int .i64 v15), .lit (.bool r22.s), natA r22.l1, natA r22.l2], .agg [.lit (.int .i64 v16), .lit (.bool r23.s), natA r23.l1, natA r23.l2]] = some (.lit (.int .i64 r24))) (C8 : ¬ r24 < 0) :
    Leave 1 (exec Tryz.prog (tab (n + 1)) 1 53 (livesOf 228) big isc_C4) (livesOf 228 (outOf 4)) (isc_h4 a1 a2 out_4 i_1 i_4) (.exit 2) (isc_o4a a1 a2 out_4 i_1) := by
  obtain ⟨EL3, EG3⟩ := List.getElem?_eq_some_iff.1 E3
  have W4_ : IntKind.i64.wrap (i_4 - 1) = i_4 - 1 := wr64 W4.1 W4.2
  have Z5_0 : 1 ≤ i_4 := by omega
  obtain ⟨EL6, EG6⟩ := List.getElem?_eq_some_iff.1 E6
  have Z6_0 : 1 ≤ i_4 := by omega
  unfold Leave
  simp +decide [isc_h4, loopsOf, Tryz.f228, isc_o4a, isc_C1, isc_C4, C1, G2, Z2, EL3, EG3, E3, Z3, W4_, G5, Z5, Z5_0, EL6, EG6, E6, Z6, Z6_0, K7, C8]
theorem isc_x4_2 (C1 : ¬ a1 < i_4) :
    Leave 1 (exec Tryz.prog (tab (n + 1)) 1 53 (livesOf 228) big isc_C4) (livesOf 228 (outOf 4)) (isc_h4 a1 a2 out_4 i_1 i_4) (.exit 2) (isc_o4a a1 a2 out_4 i_1) := by
  unfold Leave
  simp +decide [isc_h4, loopsOf, Tryz.f228, isc_o4a, isc_C1, isc_C4, C1]
theorem isc_r1_1 (C1 : i_1 < a2) (L2 : loopG Tryz.prog (tab (n + 1)) 1 53 (livesOf 228) 4 isc_C4 (isc_h4 a1 a2 out_1 i_1 i_1) = some (.exit 2, isc_o4a a1 a2 out_4 i_1)) (W3 : InI (i_1 + 1)) :
    Cont 1 (exec Tryz.prog (tab (n + 1)) 1 53 (livesOf 228) big isc_C1) (livesOf 228 1) (isc_h1 a1 a2 out_1 i_1) (isc_h1 a1 a2 out_4 (i_1 + 1)) := by
  have W3_ : IntKind.i64.wrap (i_1 + 1) = i_1 + 1 := wr64 W3.1 W3.2
  unfold Cont
  simp +decide [isc_h1, loopsOf, Tryz.f228, isc_C1, C1, W3_]
  rw [loopX_G (C' := isc_C4) (e := (isc_h4 a1 a2 out_1 i_1 i_1)) ?_ ?_, L2]
  rotate_left
  · kernel_rfl
  · simp +decide [isc_h4, loopsOf, Tryz.f228, isc_C1, C1, W3_]
  simp +decide [isc_o4a, loopsOf, Tryz.f228, isc_C1, C1, W3_]
theorem isc_x1_1 (C1 : ¬ i_1 < a2) :
    Leave 1 (exec Tryz.prog (tab (n + 1)) 1 53 (livesOf 228) big isc_C1) (livesOf 228 (outOf 1)) (isc_h1 a1 a2 out_1 i_1) (.exit 0) (isc_o1a out_1) := by
  unfold Leave
  simp +decide [isc_h1, loopsOf, Tryz.f228, isc_o1a, isc_C1, C1]
theorem isc_f1 (W1 : InI (a1 + 1)) (L2 : loopG Tryz.prog (tab (n + 1)) 1 53 (livesOf 228) 1 isc_C1 (isc_h1 a1 a2 a0 (a1 + 1)) = some (.exit 0, isc_o1a out_1)) :
    runL (n + 1) 228 [.own 0 a0.length, .lit (.int .i64 a1), .lit (.int .i64 a2), .clo 94 []] [.row 82 4 (a0.map termRC) 0] = some (.tup [], [(0, .row 82 4 (out_1.map termRC) 0)]) := by
  have W1_ : IntKind.i64.wrap (a1 + 1) = a1 + 1 := wr64 W1.1 W1.2
  unfold runL fnL
  simp +decide [Tryz.f228, W1_]
  rw [loopX_G (C' := isc_C1) (e := (isc_h1 a1 a2 a0 (a1 + 1))) ?_ ?_, L2]
  rotate_left
  · kernel_rfl
  · simp +decide [isc_h1, W1_]
  simp +decide [isc_o1a, W1_]
end
end Go.Proofs.YtjpoanaoaeaneaaGreatDoor
set_option linter.all false
set_option maxRecDepth 100000
set_option maxHeartbeats 6400000
namespace Go.Proofs.YtjpoanaoaeaneaaGreatDoor
open Go.RowKit
noncomputable def stb_C2 : Code := (loopsOf (bodyOf Tryz.f167)).getD 0 .skip
noncomputable def stb_C7 : Code := (loopsOf (bodyOf Tryz.f167)).getD 1 .skip
def stb_h2 (a1 : Int) (out_2 : List (Int × Raw)) (i_2 : Int) (i2_2 : Nat) : St :=
  ⟨[(0, .own 0 out_2.length), (1, .lit (.int .i64 a1)), (2, .clo 94 []), (6, .lit (.int .i64 20)), (7, .lit (.int .i64 i_2)), (8, .lit (.int .i64 (i2_2 : Int)))],
   [(0, some (.row 82 4 (out_2.map termRC) 0))], 1⟩
def stb_h7 (a1 : Int) (out_7 : List (Int × Raw)) (i_7 : Int) : St :=
  ⟨[(0, .own 0 out_7.length), (1, .lit (.int .i64 a1)), (2, .clo 94 []), (6, .lit (.int .i64 i_7))],
   [(0, some (.row 82 4 (out_7.map termRC) 0))], 1⟩
def stb_o2a (a1 : Int) (out_2 : List (Int × Raw)) (i_2 : Int) : St :=
  ⟨[(0, .own 0 out_2.length), (1, .lit (.int .i64 a1)), (2, .clo 94 []), (6, .lit (.int .i64 20)), (7, .lit (.int .i64 i_2))],
   [(0, some (.row 82 4 (out_2.map termRC) 0))], 1⟩
def stb_o7a (out_7 : List (Int × Raw)) : St :=
  ⟨[],
   [(0, some (.row 82 4 (out_7.map termRC) 0))], 1⟩
section
variable {out_2 : List (Int × Raw)} {n : Nat} {i_2 : Int} {a1 : Int} {i2_2 : Nat} {i_7 : Int} {out_7 : List (Int × Raw)} {a0 : List (Int × Raw)} {R4 : List (Int × Raw)}
theorem stb_x2_1 (C1 : ¬ (i2_2 : Int) ≤ a1) :
    Leave 1 (exec Tryz.prog (tab (n + 43)) 1 63 (livesOf 167) big stb_C2) (livesOf 167 (outOf 2)) (stb_h2 a1 out_2 i_2 i2_2) (.exit 0) (stb_o2a a1 out_2 i_2) := by
  unfold Leave
  simp +decide [stb_h2, loopsOf, Tryz.f167, stb_o2a, stb_C2, C1]
theorem stb_x7_1 (C1 : ¬ i_7 < a1) :
    Leave 1 (exec Tryz.prog (tab (n + 43)) 1 63 (livesOf 167) big stb_C7) (livesOf 167 (outOf 7)) (stb_h7 a1 out_7 i_7) (.exit 2) (stb_o7a out_7) := by
  unfold Leave
  simp +decide [stb_h7, loopsOf, Tryz.f167, stb_o7a, stb_C7, C1]
theorem stb_f1 (H1 : R4.length = out_2.length) (L1 : loopG Tryz.prog (tab (n + 43)) 1 63 (livesOf 167) 2 stb_C2 (stb_h2 a1 a0 0 20) = some (.exit 0, stb_o2a a1 out_2 i_2)) (K2 : runL (n + 42) 228 [.own 0 out_2.length, .lit (.int .i64 i_2), .lit (.int .i64 a1), .clo 94 []] [.row 82 4 (out_2.map termRC) 0] = some (.tup [], [(0, .row 82 4 (R4.map termRC) 0)])) (L3 : loopG Tryz.prog (tab (n + 43)) 1 63 (livesOf 167) 7 stb_C7 (stb_h7 a1 R4 20) = some (.exit 2, stb_o7a out_7)) :
    runL (n + 43) 167 [.own 0 a0.length, .lit (.int .i64 a1), .clo 94 []] [.row 82 4 (a0.map termRC) 0] = some (.tup [], [(0, .row 82 4 (out_7.map termRC) 0)]) := by
  unfold runL fnL
  simp +decide [H1, Tryz.f167, K2]
  rw [loopX_G (C' := stb_C2) (e := (stb_h2 a1 a0 0 20)) ?_ ?_, L1]
  rotate_left
  · kernel_rfl
  · simp +decide [H1, stb_h2, K2]
  simp +decide [H1, stb_o2a, K2]
  rw [loopX_G (C' := stb_C7) (e := (stb_h7 a1 R4 20)) ?_ ?_, L3]
  rotate_left
  · kernel_rfl
  · simp +decide [H1, stb_h7, K2]
  simp +decide [H1, stb_o7a, K2]
end
end Go.Proofs.YtjpoanaoaeaneaaGreatDoor
set_option linter.all false
set_option maxRecDepth 100000
set_option maxHeartbeats 6400000
namespace Go.Proofs.YtjpoanaoaeaneaaGreatDoor
open Go.RowKit
theorem srt_f1 {n : Nat} {a0 : List (Int × Raw)} {R : List (Int × Raw)} (K1 : runL (n + 43) 167 [.own 0 a0.length, .lit (.int .i64 (a0.length : Int)), .clo 94 []] [.row 82 4 (a0.map termRC) 0] = some (.tup [], [(0, .row 82 4 (R.map termRC) 0)])) :
    runL (n + 44) 93 [.own 0 a0.length, .clo 94 []] [.row 82 4 (a0.map termRC) 0] = some (.tup [], [(0, .row 82 4 (R.map termRC) 0)]) := by
  unfold runL fnL
  simp +decide [Tryz.f93, K1]
end Go.Proofs.YtjpoanaoaeaneaaGreatDoor
set_option linter.all false
set_option maxRecDepth 100000
set_option maxHeartbeats 6400000
namespace Go.Proofs.YtjpoanaoaeaneaaGreatDoor
open Go.RowKit
end Go.Proofs.YtjpoanaoaeaneaaGreatDoor
