import Derived.Test.YtjpoanaoaeaneaaGreatDoorGA5
import Derived.Test.YtjpoanaoaeaneaaGreatDoorGA6
import Derived.Test.YtjpoanaoaeaneaaGreatDoorGA9
set_option linter.all false
set_option maxRecDepth 100000
set_option maxHeartbeats 6400000
namespace Go.Proofs.YtjpoanaoaeaneaaGreatDoor
open Go.RowKit
noncomputable def rdg_C8 : Code := (loopsOf (bodyOf Tryz.f148)).getD 0 .skip
def rdg_h8 (a0 : Treader) (m_8 : Int) (nat_8 : List Nat) (i_8 : Nat) (i2_8 : Int) (d_8 : Bool) : St :=
  ⟨[(0, .ptr 0 0), (2, .lit (.int .i64 m_8)), (7, natA nat_8), (8, .lit (.int .i64 (i_8 : Int)))],
   [(0, some (.box 108 [.lit (.string a0.s), .lit (.int .i64 i2_8), .lit (.bool d_8)] false))], 1⟩
def rdg_o8a (a0 : Treader) (nat_8 : List Nat) (z12 : Int) (d14 : Bool) : St :=
  ⟨[(0, .ptr 0 0), (7, natA nat_8)],
   [(0, some (.box 108 [.lit (.string a0.s), .lit (.int .i64 z12), .lit (.bool d14)] false))], 1⟩
def rdg_o8b (a0 : Treader) (nat_8 : List Nat) (z11 : Int) (d13 : Bool) : St :=
  ⟨[(0, .ptr 0 0), (7, natA nat_8)],
   [(0, some (.box 108 [.lit (.string a0.s), .lit (.int .i64 z11), .lit (.bool d13)] false))], 1⟩
section
variable {z13 : Int} {z12 : Int} {m_8 : Int} {d14 : Bool} {nat_8 : List Nat} {d15 : Bool} {i2_8 : Int} {d_8 : Bool} {r15 : Int} {a0 : Treader} {d13 : Bool} {r18 : Int} {r17 : List Nat} {z11 : Int} {r16 : Int} {n : Nat} {r19 : List Nat} {i_8 : Nat} {a2 : Int} {r : Int} {a1 : Bool} {z : Int} {d : Bool} {z2 : Int} {r2 : Int} {d2 : Bool} {r3 : Int} {z3 : Int} {d3 : Bool} {d17 : Bool} {z15 : Int} {r20 : Int} {r4 : Int} {z14 : Int} {r21 : Int} {d16 : Bool} {d4 : Bool} {z4 : Int} {z27 : Int} {r28 : Int} {r33 : Int} {z22 : Int} {d30 : Bool} {z28 : Int} {d29 : Bool} {d24 : Bool} {r34 : Int}
theorem rdg_r8_1 (K1 : runL (n + 1) 78 [.ptr 0 0] [.box 108 [.lit (.string a0.s), .lit (.int .i64 i2_8), .lit (.bool d_8)] false] = some (.lit (.int .u8 r15), [(0, .box 108 [.lit (.string a0.s), .lit (.int .i64 z11), .lit (.bool d13)] false)])) (C2 : 48 ≤ r15) (K3 : runL (n + 1) 78 [.ptr 0 0] [.box 108 [.lit (.string a0.s), .lit (.int .i64 z11), .lit (.bool d13)] false] = some (.lit (.int .u8 r16), [(0, .box 108 [.lit (.string a0.s), .lit (.int .i64 z12), .lit (.bool d14)] false)])) (C4 : r16 ≤ 57) (C5 : (i_8 : Int) < m_8) (K6 : (oN2 fun x y => natA (lmb (val x * val y))) [natA nat_8, .sl 1 [[.lit (.int .u32 10)]]] = some (natA r17)) (K7 : runL (n + 1) 78 [.ptr 0 0] [.box 108 [.lit (.string a0.s), .lit (.int .i64 z12), .lit (.bool d14)] false] = some (.lit (.int .u8 r18), [(0, .box 108 [.lit (.string a0.s), .lit (.int .i64 z13), .lit (.bool d15)] false)])) (W8 : IntKind.u8.wrap (r18 - 48) = r18 - 48) (W9 : IntKind.u32.wrap (r18 - 48) = r18 - 48) (K10 : (oN2 fun x y => natA (lmb (val x + val y))) [natA r17, .sl 1 [[.lit (.int .u32 (r18 - 48))]]] = some (natA r19)) (W11 : InI (z13 + 1)) (W12 : InI ((i_8 : Int) + 1)) :
    Cont 1 (exec Tryz.prog (tab (n + 2)) 1 81 (livesOf 148) big rdg_C8) (livesOf 148 8) (rdg_h8 a0 m_8 nat_8 i_8 i2_8 d_8) (rdg_h8 a0 m_8 r19 (i_8 + 1) (z13 + 1) d15) := by
  have W11_ : IntKind.i64.wrap (z13 + 1) = z13 + 1 := wr64 W11.1 W11.2
  have W12_ : IntKind.i64.wrap ((i_8 : Int) + 1) = (i_8 : Int) + 1 := wr64 W12.1 W12.2
  unfold Cont
  simp +decide [rdg_h8, loopsOf, Tryz.f148, rdg_C8, K1, C2, K3, C4, C5, K6, K7, W8, W9, K10, W11_, W12_]
theorem rdg_x8_1 (K1 : runL (n + 1) 78 [.ptr 0 0] [.box 108 [.lit (.string a0.s), .lit (.int .i64 i2_8), .lit (.bool d_8)] false] = some (.lit (.int .u8 r15), [(0, .box 108 [.lit (.string a0.s), .lit (.int .i64 z11), .lit (.bool d13)] false)])) (C2 : 48 ≤ r15) (K3 : runL (n + 1) 78 [.ptr 0 0] [.box 108 [.lit (.string a0.s), .lit (.int .i64 z11), .lit (.bool d13)] false] = some (.lit (.int .u8 r16), [(0, .box 108 [.lit (.string a0.s), .lit (.int .i64 z12), .lit (.bool d14)] false)])) (C4 : r16 ≤ 57) (C5 : ¬ (i_8 : Int) < m_8) :
    Leave 1 (exec Tryz.prog (tab (n + 2)) 1 81 (livesOf 148) big rdg_C8) (livesOf 148 (outOf 8)) (rdg_h8 a0 m_8 nat_8 i_8 i2_8 d_8) (.exit 0) (rdg_o8a a0 nat_8 z12 d14) := by
  unfold Leave
  simp +decide [rdg_h8, loopsOf, Tryz.f148, rdg_o8a, rdg_C8, K1, C2, K3, C4, C5]
theorem rdg_x8_2 (K1 : runL (n + 1) 78 [.ptr 0 0] [.box 108 [.lit (.string a0.s), .lit (.int .i64 i2_8), .lit (.bool d_8)] false] = some (.lit (.int .u8 r15), [(0, .box 108 [.lit (.string a0.s), .lit (.int .i64 z11), .lit (.bool d13)] false)])) (C2 : 48 ≤ r15) (K3 : runL (n + 1) 78 [.ptr 0 0] [.box 108 [.lit (.string a0.s), .lit (.int .i64 z11), .lit (.bool d13)] false] = some (.lit (.int .u8 r16), [(0, .box 108 [.lit (.string a0.s), .lit (.int .i64 z12), .lit (.bool d14)] false)])) (C4 : ¬ r16 ≤ 57) :
    Leave 1 (exec Tryz.prog (tab (n + 2)) 1 81 (livesOf 148) big rdg_C8) (livesOf 148 (outOf 8)) (rdg_h8 a0 m_8 nat_8 i_8 i2_8 d_8) (.exit 0) (rdg_o8a a0 nat_8 z12 d14) := by
  unfold Leave
  simp +decide [rdg_h8, loopsOf, Tryz.f148, rdg_o8a, rdg_C8, K1, C2, K3, C4]
theorem rdg_x8_3 (K1 : runL (n + 1) 78 [.ptr 0 0] [.box 108 [.lit (.string a0.s), .lit (.int .i64 i2_8), .lit (.bool d_8)] false] = some (.lit (.int .u8 r15), [(0, .box 108 [.lit (.string a0.s), .lit (.int .i64 z11), .lit (.bool d13)] false)])) (C2 : ¬ 48 ≤ r15) :
    Leave 1 (exec Tryz.prog (tab (n + 2)) 1 81 (livesOf 148) big rdg_C8) (livesOf 148 (outOf 8)) (rdg_h8 a0 m_8 nat_8 i_8 i2_8 d_8) (.exit 0) (rdg_o8b a0 nat_8 z11 d13) := by
  unfold Leave
  simp +decide [rdg_h8, loopsOf, Tryz.f148, rdg_o8b, rdg_C8, K1, C2]
theorem rdg_f2 (C1 : a0.bad = false) (K2 : runL (n + 1) 78 [.ptr 0 0] [.box 108 [.lit (.string a0.s), .lit (.int .i64 (a0.at_)), .lit (.bool a0.bad)] false] = some (.lit (.int .u8 r), [(0, .box 108 [.lit (.string a0.s), .lit (.int .i64 z), .lit (.bool d)] false)])) (C3 : r < 48) :
    runL (n + 2) 148 [.ptr 0 0, .lit (.bool a1), .lit (.int .i64 a2)] [.box 108 [.lit (.string a0.s), .lit (.int .i64 (a0.at_)), .lit (.bool a0.bad)] false] = some (.sl 1 [], [(0, .box 108 [.lit (.string a0.s), .lit (.int .i64 z), .lit (.bool true)] false)]) := by
  rw [C1] at K2
  unfold runL fnL
  simp +decide [Tryz.f148, C1, K2, C3]
theorem rdg_f3 (C1 : a0.bad = false) (K2 : runL (n + 1) 78 [.ptr 0 0] [.box 108 [.lit (.string a0.s), .lit (.int .i64 (a0.at_)), .lit (.bool a0.bad)] false] = some (.lit (.int .u8 r), [(0, .box 108 [.lit (.string a0.s), .lit (.int .i64 z), .lit (.bool d)] false)])) (C3 : ¬ r < 48) (K4 : runL (n + 1) 78 [.ptr 0 0] [.box 108 [.lit (.string a0.s), .lit (.int .i64 z), .lit (.bool d)] false] = some (.lit (.int .u8 r2), [(0, .box 108 [.lit (.string a0.s), .lit (.int .i64 z2), .lit (.bool d2)] false)])) (C5 : 57 < r2) :
    runL (n + 2) 148 [.ptr 0 0, .lit (.bool a1), .lit (.int .i64 a2)] [.box 108 [.lit (.string a0.s), .lit (.int .i64 (a0.at_)), .lit (.bool a0.bad)] false] = some (.sl 1 [], [(0, .box 108 [.lit (.string a0.s), .lit (.int .i64 z2), .lit (.bool true)] false)]) := by
  rw [C1] at K2
  unfold runL fnL
  simp +decide [Tryz.f148, C1, K2, C3, K4, C5]
theorem rdg_f4 (C1 : a0.bad = false) (K2 : runL (n + 1) 78 [.ptr 0 0] [.box 108 [.lit (.string a0.s), .lit (.int .i64 (a0.at_)), .lit (.bool a0.bad)] false] = some (.lit (.int .u8 r), [(0, .box 108 [.lit (.string a0.s), .lit (.int .i64 z), .lit (.bool d)] false)])) (C3 : ¬ r < 48) (K4 : runL (n + 1) 78 [.ptr 0 0] [.box 108 [.lit (.string a0.s), .lit (.int .i64 z), .lit (.bool d)] false] = some (.lit (.int .u8 r2), [(0, .box 108 [.lit (.string a0.s), .lit (.int .i64 z2), .lit (.bool d2)] false)])) (C5 : ¬ 57 < r2) (K6 : runL (n + 1) 78 [.ptr 0 0] [.box 108 [.lit (.string a0.s), .lit (.int .i64 z2), .lit (.bool d2)] false] = some (.lit (.int .u8 r3), [(0, .box 108 [.lit (.string a0.s), .lit (.int .i64 z3), .lit (.bool d3)] false)])) (C7 : r3 = 48) (C8 : a1 = false) :
    runL (n + 2) 148 [.ptr 0 0, .lit (.bool a1), .lit (.int .i64 a2)] [.box 108 [.lit (.string a0.s), .lit (.int .i64 (a0.at_)), .lit (.bool a0.bad)] false] = some (.sl 1 [], [(0, .box 108 [.lit (.string a0.s), .lit (.int .i64 z3), .lit (.bool true)] false)]) := by
  have C7_ : (r3 == 48) = true := by rw [C7]; simp
  have C7_n : (r3 != 48) = false := by rw [C7]; simp
  rw [C1] at K2
  unfold runL fnL
  simp +decide [Tryz.f148, C1, K2, C3, K4, C5, K6, C7_, C7_n, C8]
theorem rdg_f5 (C1 : a0.bad = false) (K2 : runL (n + 1) 78 [.ptr 0 0] [.box 108 [.lit (.string a0.s), .lit (.int .i64 (a0.at_)), .lit (.bool a0.bad)] false] = some (.lit (.int .u8 r), [(0, .box 108 [.lit (.string a0.s), .lit (.int .i64 z), .lit (.bool d)] false)])) (C3 : ¬ r < 48) (K4 : runL (n + 1) 78 [.ptr 0 0] [.box 108 [.lit (.string a0.s), .lit (.int .i64 z), .lit (.bool d)] false] = some (.lit (.int .u8 r2), [(0, .box 108 [.lit (.string a0.s), .lit (.int .i64 z2), .lit (.bool d2)] false)])) (C5 : ¬ 57 < r2) (K6 : runL (n + 1) 78 [.ptr 0 0] [.box 108 [.lit (.string a0.s), .lit (.int .i64 z2), .lit (.bool d2)] false] = some (.lit (.int .u8 r3), [(0, .box 108 [.lit (.string a0.s), .lit (.int .i64 z3), .lit (.bool d3)] false)])) (C7 : r3 = 48) (C8 : a1 = true) (K9 : runL (n + 1) 78 [.ptr 0 0] [.box 108 [.lit (.string a0.s), .lit (.int .i64 z3), .lit (.bool d3)] false] = some (.lit (.int .u8 r4), [(0, .box 108 [.lit (.string a0.s), .lit (.int .i64 z4), .lit (.bool d4)] false)])) (C10 : r4 = 48) (L11 : loopG Tryz.prog (tab (n + 2)) 1 81 (livesOf 148) 8 rdg_C8 (rdg_h8 a0 1 [] 0 z4 d4) = some (.exit 0, rdg_o8a a0 nat_8 z12 d14)) (K12 : runL (n + 1) 78 [.ptr 0 0] [.box 108 [.lit (.string a0.s), .lit (.int .i64 z12), .lit (.bool d14)] false] = some (.lit (.int .u8 r20), [(0, .box 108 [.lit (.string a0.s), .lit (.int .i64 z14), .lit (.bool d16)] false)])) (C13 : 48 ≤ r20) (K14 : runL (n + 1) 78 [.ptr 0 0] [.box 108 [.lit (.string a0.s), .lit (.int .i64 z14), .lit (.bool d16)] false] = some (.lit (.int .u8 r21), [(0, .box 108 [.lit (.string a0.s), .lit (.int .i64 z15), .lit (.bool d17)] false)])) (C15 : r21 ≤ 57) :
    runL (n + 2) 148 [.ptr 0 0, .lit (.bool a1), .lit (.int .i64 a2)] [.box 108 [.lit (.string a0.s), .lit (.int .i64 (a0.at_)), .lit (.bool a0.bad)] false] = some (natA nat_8, [(0, .box 108 [.lit (.string a0.s), .lit (.int .i64 z15), .lit (.bool true)] false)]) := by
  have C7_ : (r3 == 48) = true := by rw [C7]; simp
  have C7_n : (r3 != 48) = false := by rw [C7]; simp
  have C10_ : (r4 == 48) = true := by rw [C10]; simp
  have C10_n : (r4 != 48) = false := by rw [C10]; simp
  rw [C1] at K2
  unfold runL fnL
  simp +decide [Tryz.f148, C1, K2, C3, K4, C5, K6, C7_, C7_n, C8, K9, C10_, C10_n, K12, C13, K14, C15]
  rw [loopX_G (C' := rdg_C8) (e := (rdg_h8 a0 1 [] 0 z4 d4)) ?_ ?_, L11]
  rotate_left
  · kernel_rfl
  · simp +decide [rdg_h8, C1, K2, C3, K4, C5, K6, C7_, C7_n, C8, K9, C10_, C10_n, K12, C13, K14, C15] <;> rfl
  simp +decide [rdg_o8a, C1, K2, C3, K4, C5, K6, C7_, C7_n, C8, K9, C10_, C10_n, K12, C13, K14, C15]
theorem rdg_f6 (C1 : a0.bad = false) (K2 : runL (n + 1) 78 [.ptr 0 0] [.box 108 [.lit (.string a0.s), .lit (.int .i64 (a0.at_)), .lit (.bool a0.bad)] false] = some (.lit (.int .u8 r), [(0, .box 108 [.lit (.string a0.s), .lit (.int .i64 z), .lit (.bool d)] false)])) (C3 : ¬ r < 48) (K4 : runL (n + 1) 78 [.ptr 0 0] [.box 108 [.lit (.string a0.s), .lit (.int .i64 z), .lit (.bool d)] false] = some (.lit (.int .u8 r2), [(0, .box 108 [.lit (.string a0.s), .lit (.int .i64 z2), .lit (.bool d2)] false)])) (C5 : ¬ 57 < r2) (K6 : runL (n + 1) 78 [.ptr 0 0] [.box 108 [.lit (.string a0.s), .lit (.int .i64 z2), .lit (.bool d2)] false] = some (.lit (.int .u8 r3), [(0, .box 108 [.lit (.string a0.s), .lit (.int .i64 z3), .lit (.bool d3)] false)])) (C7 : r3 = 48) (C8 : a1 = true) (K9 : runL (n + 1) 78 [.ptr 0 0] [.box 108 [.lit (.string a0.s), .lit (.int .i64 z3), .lit (.bool d3)] false] = some (.lit (.int .u8 r4), [(0, .box 108 [.lit (.string a0.s), .lit (.int .i64 z4), .lit (.bool d4)] false)])) (C10 : r4 = 48) (L11 : loopG Tryz.prog (tab (n + 2)) 1 81 (livesOf 148) 8 rdg_C8 (rdg_h8 a0 1 [] 0 z4 d4) = some (.exit 0, rdg_o8a a0 nat_8 z12 d14)) (K12 : runL (n + 1) 78 [.ptr 0 0] [.box 108 [.lit (.string a0.s), .lit (.int .i64 z12), .lit (.bool d14)] false] = some (.lit (.int .u8 r20), [(0, .box 108 [.lit (.string a0.s), .lit (.int .i64 z14), .lit (.bool d16)] false)])) (C13 : 48 ≤ r20) (K14 : runL (n + 1) 78 [.ptr 0 0] [.box 108 [.lit (.string a0.s), .lit (.int .i64 z14), .lit (.bool d16)] false] = some (.lit (.int .u8 r21), [(0, .box 108 [.lit (.string a0.s), .lit (.int .i64 z15), .lit (.bool d17)] false)])) (C15 : ¬ r21 ≤ 57) :
    runL (n + 2) 148 [.ptr 0 0, .lit (.bool a1), .lit (.int .i64 a2)] [.box 108 [.lit (.string a0.s), .lit (.int .i64 (a0.at_)), .lit (.bool a0.bad)] false] = some (natA nat_8, [(0, .box 108 [.lit (.string a0.s), .lit (.int .i64 z15), .lit (.bool d17)] false)]) := by
  have C7_ : (r3 == 48) = true := by rw [C7]; simp
  have C7_n : (r3 != 48) = false := by rw [C7]; simp
  have C10_ : (r4 == 48) = true := by rw [C10]; simp
  have C10_n : (r4 != 48) = false := by rw [C10]; simp
  rw [C1] at K2
  unfold runL fnL
  simp +decide [Tryz.f148, C1, K2, C3, K4, C5, K6, C7_, C7_n, C8, K9, C10_, C10_n, K12, C13, K14, C15]
  rw [loopX_G (C' := rdg_C8) (e := (rdg_h8 a0 1 [] 0 z4 d4)) ?_ ?_, L11]
  rotate_left
  · kernel_rfl
  · simp +decide [rdg_h8, C1, K2, C3, K4, C5, K6, C7_, C7_n, C8, K9, C10_, C10_n, K12, C13, K14, C15] <;> rfl
  simp +decide [rdg_o8a, C1, K2, C3, K4, C5, K6, C7_, C7_n, C8, K9, C10_, C10_n, K12, C13, K14, C15]
theorem rdg_f7 (C1 : a0.bad = false) (K2 : runL (n + 1) 78 [.ptr 0 0] [.box 108 [.lit (.string a0.s), .lit (.int .i64 (a0.at_)), .lit (.bool a0.bad)] false] = some (.lit (.int .u8 r), [(0, .box 108 [.lit (.string a0.s), .lit (.int .i64 z), .lit (.bool d)] false)])) (C3 : ¬ r < 48) (K4 : runL (n + 1) 78 [.ptr 0 0] [.box 108 [.lit (.string a0.s), .lit (.int .i64 z), .lit (.bool d)] false] = some (.lit (.int .u8 r2), [(0, .box 108 [.lit (.string a0.s), .lit (.int .i64 z2), .lit (.bool d2)] false)])) (C5 : ¬ 57 < r2) (K6 : runL (n + 1) 78 [.ptr 0 0] [.box 108 [.lit (.string a0.s), .lit (.int .i64 z2), .lit (.bool d2)] false] = some (.lit (.int .u8 r3), [(0, .box 108 [.lit (.string a0.s), .lit (.int .i64 z3), .lit (.bool d3)] false)])) (C7 : r3 = 48) (C8 : a1 = true) (K9 : runL (n + 1) 78 [.ptr 0 0] [.box 108 [.lit (.string a0.s), .lit (.int .i64 z3), .lit (.bool d3)] false] = some (.lit (.int .u8 r4), [(0, .box 108 [.lit (.string a0.s), .lit (.int .i64 z4), .lit (.bool d4)] false)])) (C10 : r4 = 48) (L11 : loopG Tryz.prog (tab (n + 2)) 1 81 (livesOf 148) 8 rdg_C8 (rdg_h8 a0 1 [] 0 z4 d4) = some (.exit 0, rdg_o8a a0 nat_8 z12 d14)) (K12 : runL (n + 1) 78 [.ptr 0 0] [.box 108 [.lit (.string a0.s), .lit (.int .i64 z12), .lit (.bool d14)] false] = some (.lit (.int .u8 r20), [(0, .box 108 [.lit (.string a0.s), .lit (.int .i64 z14), .lit (.bool d16)] false)])) (C13 : ¬ 48 ≤ r20) :
    runL (n + 2) 148 [.ptr 0 0, .lit (.bool a1), .lit (.int .i64 a2)] [.box 108 [.lit (.string a0.s), .lit (.int .i64 (a0.at_)), .lit (.bool a0.bad)] false] = some (natA nat_8, [(0, .box 108 [.lit (.string a0.s), .lit (.int .i64 z14), .lit (.bool d16)] false)]) := by
  have C7_ : (r3 == 48) = true := by rw [C7]; simp
  have C7_n : (r3 != 48) = false := by rw [C7]; simp
  have C10_ : (r4 == 48) = true := by rw [C10]; simp
  have C10_n : (r4 != 48) = false := by rw [C10]; simp
  rw [C1] at K2
  unfold runL fnL
  simp +decide [Tryz.f148, C1, K2, C3, K4, C5, K6, C7_, C7_n, C8, K9, C10_, C10_n, K12, C13]
  rw [loopX_G (C' := rdg_C8) (e := (rdg_h8 a0 1 [] 0 z4 d4)) ?_ ?_, L11]
  rotate_left
  · kernel_rfl
  · simp +decide [rdg_h8, C1, K2, C3, K4, C5, K6, C7_, C7_n, C8, K9, C10_, C10_n, K12, C13] <;> rfl
  simp +decide [rdg_o8a, C1, K2, C3, K4, C5, K6, C7_, C7_n, C8, K9, C10_, C10_n, K12, C13]
theorem rdg_f23 (C1 : a0.bad = false) (K2 : runL (n + 1) 78 [.ptr 0 0] [.box 108 [.lit (.string a0.s), .lit (.int .i64 (a0.at_)), .lit (.bool a0.bad)] false] = some (.lit (.int .u8 r), [(0, .box 108 [.lit (.string a0.s), .lit (.int .i64 z), .lit (.bool d)] false)])) (C3 : ¬ r < 48) (K4 : runL (n + 1) 78 [.ptr 0 0] [.box 108 [.lit (.string a0.s), .lit (.int .i64 z), .lit (.bool d)] false] = some (.lit (.int .u8 r2), [(0, .box 108 [.lit (.string a0.s), .lit (.int .i64 z2), .lit (.bool d2)] false)])) (C5 : ¬ 57 < r2) (K6 : runL (n + 1) 78 [.ptr 0 0] [.box 108 [.lit (.string a0.s), .lit (.int .i64 z2), .lit (.bool d2)] false] = some (.lit (.int .u8 r3), [(0, .box 108 [.lit (.string a0.s), .lit (.int .i64 z3), .lit (.bool d3)] false)])) (C7 : ¬ r3 = 48) (K8 : runL (n + 1) 78 [.ptr 0 0] [.box 108 [.lit (.string a0.s), .lit (.int .i64 z3), .lit (.bool d3)] false] = some (.lit (.int .u8 r28), [(0, .box 108 [.lit (.string a0.s), .lit (.int .i64 z22), .lit (.bool d24)] false)])) (C9 : ¬ r28 = 48) (L10 : loopG Tryz.prog (tab (n + 2)) 1 81 (livesOf 148) 8 rdg_C8 (rdg_h8 a0 a2 [] 0 z22 d24) = some (.exit 0, rdg_o8a a0 nat_8 z12 d14)) (K11 : runL (n + 1) 78 [.ptr 0 0] [.box 108 [.lit (.string a0.s), .lit (.int .i64 z12), .lit (.bool d14)] false] = some (.lit (.int .u8 r33), [(0, .box 108 [.lit (.string a0.s), .lit (.int .i64 z27), .lit (.bool d29)] false)])) (C12 : 48 ≤ r33) (K13 : runL (n + 1) 78 [.ptr 0 0] [.box 108 [.lit (.string a0.s), .lit (.int .i64 z27), .lit (.bool d29)] false] = some (.lit (.int .u8 r34), [(0, .box 108 [.lit (.string a0.s), .lit (.int .i64 z28), .lit (.bool d30)] false)])) (C14 : r34 ≤ 57) :
    runL (n + 2) 148 [.ptr 0 0, .lit (.bool a1), .lit (.int .i64 a2)] [.box 108 [.lit (.string a0.s), .lit (.int .i64 (a0.at_)), .lit (.bool a0.bad)] false] = some (natA nat_8, [(0, .box 108 [.lit (.string a0.s), .lit (.int .i64 z28), .lit (.bool true)] false)]) := by
  have C7_ : (r3 == 48) = false := by simpa using C7
  have C7_n : (r3 != 48) = true := by simpa using C7
  have C9_ : (r28 == 48) = false := by simpa using C9
  have C9_n : (r28 != 48) = true := by simpa using C9
  rw [C1] at K2
  unfold runL fnL
  simp +decide [Tryz.f148, C1, K2, C3, K4, C5, K6, C7_, C7_n, K8, C9_, C9_n, K11, C12, K13, C14]
  rw [loopX_G (C' := rdg_C8) (e := (rdg_h8 a0 a2 [] 0 z22 d24)) ?_ ?_, L10]
  rotate_left
  · kernel_rfl
  · simp +decide [rdg_h8, C1, K2, C3, K4, C5, K6, C7_, C7_n, K8, C9_, C9_n, K11, C12, K13, C14] <;> rfl
  simp +decide [rdg_o8a, C1, K2, C3, K4, C5, K6, C7_, C7_n, K8, C9_, C9_n, K11, C12, K13, C14]
theorem rdg_f24 (C1 : a0.bad = false) (K2 : runL (n + 1) 78 [.ptr 0 0] [.box 108 [.lit (.string a0.s), .lit (.int .i64 (a0.at_)), .lit (.bool a0.bad)] false] = some (.lit (.int .u8 r), [(0, .box 108 [.lit (.string a0.s), .lit (.int .i64 z), .lit (.bool d)] false)])) (C3 : ¬ r < 48) (K4 : runL (n + 1) 78 [.ptr 0 0] [.box 108 [.lit (.string a0.s), .lit (.int .i64 z), .lit (.bool d)] false] = some (.lit (.int .u8 r2), [(0, .box 108 [.lit (.string a0.s), .lit (.int .i64 z2), .lit (.bool d2)] false)])) (C5 : ¬ 57 < r2) (K6 : runL (n + 1) 78 [.ptr 0 0] [.box 108 [.lit (.string a0.s), .lit (.int .i64 z2), .lit (.bool d2)] false] = some (.lit (.int .u8 r3), [(0, .box 108 [.lit (.string a0.s), .lit (.int .i64 z3), .lit (.bool d3)] false)])) (C7 : ¬ r3 = 48) (K8 : runL (n + 1) 78 [.ptr 0 0] [.box 108 [.lit (.string a0.s), .lit (.int .i64 z3), .lit (.bool d3)] false] = some (.lit (.int .u8 r28), [(0, .box 108 [.lit (.string a0.s), .lit (.int .i64 z22), .lit (.bool d24)] false)])) (C9 : ¬ r28 = 48) (L10 : loopG Tryz.prog (tab (n + 2)) 1 81 (livesOf 148) 8 rdg_C8 (rdg_h8 a0 a2 [] 0 z22 d24) = some (.exit 0, rdg_o8a a0 nat_8 z12 d14)) (K11 : runL (n + 1) 78 [.ptr 0 0] [.box 108 [.lit (.string a0.s), .lit (.int .i64 z12), .lit (.bool d14)] false] = some (.lit (.int .u8 r33), [(0, .box 108 [.lit (.string a0.s), .lit (.int .i64 z27), .lit (.bool d29)] false)])) (C12 : 48 ≤ r33) (K13 : runL (n + 1) 78 [.ptr 0 0] [.box 108 [.lit (.string a0.s), .lit (.int .i64 z27), .lit (.bool d29)] false] = some (.lit (.int .u8 r34), [(0, .box 108 [.lit (.string a0.s), .lit (.int .i64 z28), .lit (.bool d30)] false)])) (C14 : ¬ r34 ≤ 57) :
    runL (n + 2) 148 [.ptr 0 0, .lit (.bool a1), .lit (.int .i64 a2)] [.box 108 [.lit (.string a0.s), .lit (.int .i64 (a0.at_)), .lit (.bool a0.bad)] false] = some (natA nat_8, [(0, .box 108 [.lit (.string a0.s), .lit (.int .i64 z28), .lit (.bool d30)] false)]) := by
  have C7_ : (r3 == 48) = false := by simpa using C7
  have C7_n : (r3 != 48) = true := by simpa using C7
  have C9_ : (r28 == 48) = false := by simpa using C9
  have C9_n : (r28 != 48) = true := by simpa using C9
  rw [C1] at K2
  unfold runL fnL
  simp +decide [Tryz.f148, C1, K2, C3, K4, C5, K6, C7_, C7_n, K8, C9_, C9_n, K11, C12, K13, C14]
  rw [loopX_G (C' := rdg_C8) (e := (rdg_h8 a0 a2 [] 0 z22 d24)) ?_ ?_, L10]
  rotate_left
  · kernel_rfl
  · simp +decide [rdg_h8, C1, K2, C3, K4, C5, K6, C7_, C7_n, K8, C9_, C9_n, K11, C12, K13, C14] <;> rfl
  simp +decide [rdg_o8a, C1, K2, C3, K4, C5, K6, C7_, C7_n, K8, C9_, C9_n, K11, C12, K13, C14]
theorem rdg_f25 (C1 : a0.bad = false) (K2 : runL (n + 1) 78 [.ptr 0 0] [.box 108 [.lit (.string a0.s), .lit (.int .i64 (a0.at_)), .lit (.bool a0.bad)] false] = some (.lit (.int .u8 r), [(0, .box 108 [.lit (.string a0.s), .lit (.int .i64 z), .lit (.bool d)] false)])) (C3 : ¬ r < 48) (K4 : runL (n + 1) 78 [.ptr 0 0] [.box 108 [.lit (.string a0.s), .lit (.int .i64 z), .lit (.bool d)] false] = some (.lit (.int .u8 r2), [(0, .box 108 [.lit (.string a0.s), .lit (.int .i64 z2), .lit (.bool d2)] false)])) (C5 : ¬ 57 < r2) (K6 : runL (n + 1) 78 [.ptr 0 0] [.box 108 [.lit (.string a0.s), .lit (.int .i64 z2), .lit (.bool d2)] false] = some (.lit (.int .u8 r3), [(0, .box 108 [.lit (.string a0.s), .lit (.int .i64 z3), .lit (.bool d3)] false)])) (C7 : ¬ r3 = 48) (K8 : runL (n + 1) 78 [.ptr 0 0] [.box 108 [.lit (.string a0.s), .lit (.int .i64 z3), .lit (.bool d3)] false] = some (.lit (.int .u8 r28), [(0, .box 108 [.lit (.string a0.s), .lit (.int .i64 z22), .lit (.bool d24)] false)])) (C9 : ¬ r28 = 48) (L10 : loopG Tryz.prog (tab (n + 2)) 1 81 (livesOf 148) 8 rdg_C8 (rdg_h8 a0 a2 [] 0 z22 d24) = some (.exit 0, rdg_o8a a0 nat_8 z12 d14)) (K11 : runL (n + 1) 78 [.ptr 0 0] [.box 108 [.lit (.string a0.s), .lit (.int .i64 z12), .lit (.bool d14)] false] = some (.lit (.int .u8 r33), [(0, .box 108 [.lit (.string a0.s), .lit (.int .i64 z27), .lit (.bool d29)] false)])) (C12 : ¬ 48 ≤ r33) :
    runL (n + 2) 148 [.ptr 0 0, .lit (.bool a1), .lit (.int .i64 a2)] [.box 108 [.lit (.string a0.s), .lit (.int .i64 (a0.at_)), .lit (.bool a0.bad)] false] = some (natA nat_8, [(0, .box 108 [.lit (.string a0.s), .lit (.int .i64 z27), .lit (.bool d29)] false)]) := by
  have C7_ : (r3 == 48) = false := by simpa using C7
  have C7_n : (r3 != 48) = true := by simpa using C7
  have C9_ : (r28 == 48) = false := by simpa using C9
  have C9_n : (r28 != 48) = true := by simpa using C9
  rw [C1] at K2
  unfold runL fnL
  simp +decide [Tryz.f148, C1, K2, C3, K4, C5, K6, C7_, C7_n, K8, C9_, C9_n, K11, C12]
  rw [loopX_G (C' := rdg_C8) (e := (rdg_h8 a0 a2 [] 0 z22 d24)) ?_ ?_, L10]
  rotate_left
  · kernel_rfl
  · simp +decide [rdg_h8, C1, K2, C3, K4, C5, K6, C7_, C7_n, K8, C9_, C9_n, K11, C12] <;> rfl
  simp +decide [rdg_o8a, C1, K2, C3, K4, C5, K6, C7_, C7_n, K8, C9_, C9_n, K11, C12]
end
end Go.Proofs.YtjpoanaoaeaneaaGreatDoor
