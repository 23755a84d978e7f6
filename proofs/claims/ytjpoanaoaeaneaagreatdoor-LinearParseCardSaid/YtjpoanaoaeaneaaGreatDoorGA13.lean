import Derived.Test.YtjpoanaoaeaneaaGreatDoorGA5
import Derived.Test.YtjpoanaoaeaneaaGreatDoorGA6
import Derived.Test.YtjpoanaoaeaneaaGreatDoorGA9
set_option linter.all false
set_option maxRecDepth 100000
set_option maxHeartbeats 6400000
namespace Go.Proofs.YtjpoanaoaeaneaaGreatDoor
open Go.RowKit
section
variable {a2 : Bool} {r : List Nat} {a1 : Form} {r3 : ByteArray} {r4 : Bool} {z2 : Int} {r2 : Bool} {z : Int} {a0 : Tparser} {n : Nat} {r6 : Bool} {z5 : Int} {r8 : Bool} {z3 : Int} {r5 : List Nat} {r7 : ByteArray} {z4 : Int} {z6 : Int} {r9 : List Nat} {z8 : Int} {z7 : Int} {r10 : Bool} {r11 : Form} {r15 : Bool} {r14 : Int} {z12 : Int} {z9 : Int} {r16 : Form} {R : List (Int × Rat)} {r12 : Bool} {z10 : Int} {r13 : Form} {z11 : Int} {r18 : Bool} {r17 : Int} {z13 : Int} {r19 : Form} {R2 : List (Int × Rat)} {z14 : Int} {r21 : Bool} {r20 : Int} {r22 : Form} {R3 : List (Int × Rat)}
theorem lpa_f1 (K1 : (oU fun k => natA (lmb k)) [.lit (.int .u64 1)] = some (natA r)) (K2 : runL (n + 9) 70 [.ptr 0 0, .lit (.string (⟨#[120]⟩ : ByteArray))] [.box 98 [.lit (.string a0.s), .lit (.int .i64 (a0.at_))] false] = some (.lit (.bool r2), [(0, .box 98 [.lit (.string a0.s), .lit (.int .i64 z)] false)])) (C3 : r2 = false) (K4 : runL (n + 9) 140 [.ptr 0 0, .lit (.int .i64 200), .lit (.bool true)] [.box 98 [.lit (.string a0.s), .lit (.int .i64 z)] false] = some (.tup [.lit (.string r3), .lit (.bool r4)], [(0, .box 98 [.lit (.string a0.s), .lit (.int .i64 z2)] false)])) (C5 : r4 = false) :
    runL (n + 10) 71 [.ptr 0 0, formV a1, .lit (.bool a2)] [.box 98 [.lit (.string a0.s), .lit (.int .i64 (a0.at_))] false] = some (.tup [formV a1, .lit (.bool false)], [(0, .box 98 [.lit (.string a0.s), .lit (.int .i64 z2)] false)]) := by
  rw [C3] at K2
  rw [C5] at K4
  unfold runL fnL
  simp +decide [Tryz.f71, K1, K2, C3, K4, C5]
theorem lpa_f2 (K1 : (oU fun k => natA (lmb k)) [.lit (.int .u64 1)] = some (natA r)) (K2 : runL (n + 9) 70 [.ptr 0 0, .lit (.string (⟨#[120]⟩ : ByteArray))] [.box 98 [.lit (.string a0.s), .lit (.int .i64 (a0.at_))] false] = some (.lit (.bool r2), [(0, .box 98 [.lit (.string a0.s), .lit (.int .i64 z)] false)])) (C3 : r2 = false) (K4 : runL (n + 9) 140 [.ptr 0 0, .lit (.int .i64 200), .lit (.bool true)] [.box 98 [.lit (.string a0.s), .lit (.int .i64 z)] false] = some (.tup [.lit (.string r3), .lit (.bool r4)], [(0, .box 98 [.lit (.string a0.s), .lit (.int .i64 z2)] false)])) (C5 : r4 = true) (K6 : run (n + 9) 141 [.lit (.string r3)] = some (natA r5)) (K7 : runL (n + 9) 69 [.ptr 0 0] [.box 98 [.lit (.string a0.s), .lit (.int .i64 z2)] false] = some (.tup [], [(0, .box 98 [.lit (.string a0.s), .lit (.int .i64 z3)] false)])) (K8 : runL (n + 9) 70 [.ptr 0 0, .lit (.string (⟨#[47]⟩ : ByteArray))] [.box 98 [.lit (.string a0.s), .lit (.int .i64 z3)] false] = some (.lit (.bool r6), [(0, .box 98 [.lit (.string a0.s), .lit (.int .i64 z4)] false)])) (C9 : r6 = true) (W10 : InI (z4 + 1)) (K11 : runL (n + 9) 69 [.ptr 0 0] [.box 98 [.lit (.string a0.s), .lit (.int .i64 (z4 + 1))] false] = some (.tup [], [(0, .box 98 [.lit (.string a0.s), .lit (.int .i64 z5)] false)])) (K12 : runL (n + 9) 140 [.ptr 0 0, .lit (.int .i64 200), .lit (.bool false)] [.box 98 [.lit (.string a0.s), .lit (.int .i64 z5)] false] = some (.tup [.lit (.string r7), .lit (.bool r8)], [(0, .box 98 [.lit (.string a0.s), .lit (.int .i64 z6)] false)])) (C13 : r8 = false) :
    runL (n + 10) 71 [.ptr 0 0, formV a1, .lit (.bool a2)] [.box 98 [.lit (.string a0.s), .lit (.int .i64 (a0.at_))] false] = some (.tup [formV a1, .lit (.bool false)], [(0, .box 98 [.lit (.string a0.s), .lit (.int .i64 z6)] false)]) := by
  have W10_ : IntKind.i64.wrap (z4 + 1) = z4 + 1 := wr64 W10.1 W10.2
  rw [C3] at K2
  rw [C5] at K4
  rw [C9] at K8
  rw [C13] at K12
  unfold runL fnL
  simp +decide [Tryz.f71, K1, K2, C3, K4, C5, K6, K7, K8, C9, W10_, K11, K12, C13]
theorem lpa_f3 (K1 : (oU fun k => natA (lmb k)) [.lit (.int .u64 1)] = some (natA r)) (K2 : runL (n + 9) 70 [.ptr 0 0, .lit (.string (⟨#[120]⟩ : ByteArray))] [.box 98 [.lit (.string a0.s), .lit (.int .i64 (a0.at_))] false] = some (.lit (.bool r2), [(0, .box 98 [.lit (.string a0.s), .lit (.int .i64 z)] false)])) (C3 : r2 = false) (K4 : runL (n + 9) 140 [.ptr 0 0, .lit (.int .i64 200), .lit (.bool true)] [.box 98 [.lit (.string a0.s), .lit (.int .i64 z)] false] = some (.tup [.lit (.string r3), .lit (.bool r4)], [(0, .box 98 [.lit (.string a0.s), .lit (.int .i64 z2)] false)])) (C5 : r4 = true) (K6 : run (n + 9) 141 [.lit (.string r3)] = some (natA r5)) (K7 : runL (n + 9) 69 [.ptr 0 0] [.box 98 [.lit (.string a0.s), .lit (.int .i64 z2)] false] = some (.tup [], [(0, .box 98 [.lit (.string a0.s), .lit (.int .i64 z3)] false)])) (K8 : runL (n + 9) 70 [.ptr 0 0, .lit (.string (⟨#[47]⟩ : ByteArray))] [.box 98 [.lit (.string a0.s), .lit (.int .i64 z3)] false] = some (.lit (.bool r6), [(0, .box 98 [.lit (.string a0.s), .lit (.int .i64 z4)] false)])) (C9 : r6 = true) (W10 : InI (z4 + 1)) (K11 : runL (n + 9) 69 [.ptr 0 0] [.box 98 [.lit (.string a0.s), .lit (.int .i64 (z4 + 1))] false] = some (.tup [], [(0, .box 98 [.lit (.string a0.s), .lit (.int .i64 z5)] false)])) (K12 : runL (n + 9) 140 [.ptr 0 0, .lit (.int .i64 200), .lit (.bool false)] [.box 98 [.lit (.string a0.s), .lit (.int .i64 z5)] false] = some (.tup [.lit (.string r7), .lit (.bool r8)], [(0, .box 98 [.lit (.string a0.s), .lit (.int .i64 z6)] false)])) (C13 : r8 = true) (K14 : run (n + 9) 141 [.lit (.string r7)] = some (natA r9)) (K15 : runL (n + 9) 69 [.ptr 0 0] [.box 98 [.lit (.string a0.s), .lit (.int .i64 z6)] false] = some (.tup [], [(0, .box 98 [.lit (.string a0.s), .lit (.int .i64 z7)] false)])) (K16 : runL (n + 9) 70 [.ptr 0 0, .lit (.string (⟨#[42]⟩ : ByteArray))] [.box 98 [.lit (.string a0.s), .lit (.int .i64 z7)] false] = some (.lit (.bool r10), [(0, .box 98 [.lit (.string a0.s), .lit (.int .i64 z8)] false)])) (C17 : r10 = false) (B18a : RawB (⟨a2, r5, r9⟩ : Raw)) (K19 : run (n + 9) 142 [formV a1, .agg [.sl 4 [], .lit (.bool (rawQ ((⟨a2, r5, r9⟩ : Raw).q)).s), natA (rawQ ((⟨a2, r5, r9⟩ : Raw).q)).l1, natA (rawQ ((⟨a2, r5, r9⟩ : Raw).q)).l2]] = some (formV r11)) :
    runL (n + 10) 71 [.ptr 0 0, formV a1, .lit (.bool a2)] [.box 98 [.lit (.string a0.s), .lit (.int .i64 (a0.at_))] false] = some (.tup [formV r11, .lit (.bool true)], [(0, .box 98 [.lit (.string a0.s), .lit (.int .i64 z8)] false)]) := by
  have W10_ : IntKind.i64.wrap (z4 + 1) = z4 + 1 := wr64 W10.1 W10.2
  have K18 := rr_canon B18a
  try dsimp only at K18
  try rw [show natA [] = AV.sl 1 [] from rfl] at K18
  simp only [formV] at K19
  rw [C3] at K2
  rw [C5] at K4
  rw [C9] at K8
  rw [C13] at K12
  rw [C17] at K16
  unfold runL fnL
  simp +decide [Tryz.f71, K1, K2, C3, K4, C5, K6, K7, K8, C9, W10_, K11, K12, C13, K14, K15, K16, C17, K18, K19]
theorem lpa_f4 (K1 : (oU fun k => natA (lmb k)) [.lit (.int .u64 1)] = some (natA r)) (K2 : runL (n + 9) 70 [.ptr 0 0, .lit (.string (⟨#[120]⟩ : ByteArray))] [.box 98 [.lit (.string a0.s), .lit (.int .i64 (a0.at_))] false] = some (.lit (.bool r2), [(0, .box 98 [.lit (.string a0.s), .lit (.int .i64 z)] false)])) (C3 : r2 = false) (K4 : runL (n + 9) 140 [.ptr 0 0, .lit (.int .i64 200), .lit (.bool true)] [.box 98 [.lit (.string a0.s), .lit (.int .i64 z)] false] = some (.tup [.lit (.string r3), .lit (.bool r4)], [(0, .box 98 [.lit (.string a0.s), .lit (.int .i64 z2)] false)])) (C5 : r4 = true) (K6 : run (n + 9) 141 [.lit (.string r3)] = some (natA r5)) (K7 : runL (n + 9) 69 [.ptr 0 0] [.box 98 [.lit (.string a0.s), .lit (.int .i64 z2)] false] = some (.tup [], [(0, .box 98 [.lit (.string a0.s), .lit (.int .i64 z3)] false)])) (K8 : runL (n + 9) 70 [.ptr 0 0, .lit (.string (⟨#[47]⟩ : ByteArray))] [.box 98 [.lit (.string a0.s), .lit (.int .i64 z3)] false] = some (.lit (.bool r6), [(0, .box 98 [.lit (.string a0.s), .lit (.int .i64 z4)] false)])) (C9 : r6 = true) (W10 : InI (z4 + 1)) (K11 : runL (n + 9) 69 [.ptr 0 0] [.box 98 [.lit (.string a0.s), .lit (.int .i64 (z4 + 1))] false] = some (.tup [], [(0, .box 98 [.lit (.string a0.s), .lit (.int .i64 z5)] false)])) (K12 : runL (n + 9) 140 [.ptr 0 0, .lit (.int .i64 200), .lit (.bool false)] [.box 98 [.lit (.string a0.s), .lit (.int .i64 z5)] false] = some (.tup [.lit (.string r7), .lit (.bool r8)], [(0, .box 98 [.lit (.string a0.s), .lit (.int .i64 z6)] false)])) (C13 : r8 = true) (K14 : run (n + 9) 141 [.lit (.string r7)] = some (natA r9)) (K15 : runL (n + 9) 69 [.ptr 0 0] [.box 98 [.lit (.string a0.s), .lit (.int .i64 z6)] false] = some (.tup [], [(0, .box 98 [.lit (.string a0.s), .lit (.int .i64 z7)] false)])) (K16 : runL (n + 9) 70 [.ptr 0 0, .lit (.string (⟨#[42]⟩ : ByteArray))] [.box 98 [.lit (.string a0.s), .lit (.int .i64 z7)] false] = some (.lit (.bool r10), [(0, .box 98 [.lit (.string a0.s), .lit (.int .i64 z8)] false)])) (C17 : r10 = true) (W18 : InI (z8 + 1)) (K19 : runL (n + 9) 69 [.ptr 0 0] [.box 98 [.lit (.string a0.s), .lit (.int .i64 (z8 + 1))] false] = some (.tup [], [(0, .box 98 [.lit (.string a0.s), .lit (.int .i64 z9)] false)])) (K20 : runL (n + 9) 143 [.ptr 0 0] [.box 98 [.lit (.string a0.s), .lit (.int .i64 z9)] false] = some (.tup [.lit (.int .i64 r14), .lit (.bool r15)], [(0, .box 98 [.lit (.string a0.s), .lit (.int .i64 z12)] false)])) (C21 : r15 = false) :
    runL (n + 10) 71 [.ptr 0 0, formV a1, .lit (.bool a2)] [.box 98 [.lit (.string a0.s), .lit (.int .i64 (a0.at_))] false] = some (.tup [formV a1, .lit (.bool false)], [(0, .box 98 [.lit (.string a0.s), .lit (.int .i64 z12)] false)]) := by
  have W10_ : IntKind.i64.wrap (z4 + 1) = z4 + 1 := wr64 W10.1 W10.2
  have W18_ : IntKind.i64.wrap (z8 + 1) = z8 + 1 := wr64 W18.1 W18.2
  rw [C3] at K2
  rw [C5] at K4
  rw [C9] at K8
  rw [C13] at K12
  rw [C17] at K16
  rw [C21] at K20
  unfold runL fnL
  simp +decide [Tryz.f71, K1, K2, C3, K4, C5, K6, K7, K8, C9, W10_, K11, K12, C13, K14, K15, K16, C17, W18_, K19, K20, C21]
theorem lpa_f5 (K1 : (oU fun k => natA (lmb k)) [.lit (.int .u64 1)] = some (natA r)) (K2 : runL (n + 9) 70 [.ptr 0 0, .lit (.string (⟨#[120]⟩ : ByteArray))] [.box 98 [.lit (.string a0.s), .lit (.int .i64 (a0.at_))] false] = some (.lit (.bool r2), [(0, .box 98 [.lit (.string a0.s), .lit (.int .i64 z)] false)])) (C3 : r2 = false) (K4 : runL (n + 9) 140 [.ptr 0 0, .lit (.int .i64 200), .lit (.bool true)] [.box 98 [.lit (.string a0.s), .lit (.int .i64 z)] false] = some (.tup [.lit (.string r3), .lit (.bool r4)], [(0, .box 98 [.lit (.string a0.s), .lit (.int .i64 z2)] false)])) (C5 : r4 = true) (K6 : run (n + 9) 141 [.lit (.string r3)] = some (natA r5)) (K7 : runL (n + 9) 69 [.ptr 0 0] [.box 98 [.lit (.string a0.s), .lit (.int .i64 z2)] false] = some (.tup [], [(0, .box 98 [.lit (.string a0.s), .lit (.int .i64 z3)] false)])) (K8 : runL (n + 9) 70 [.ptr 0 0, .lit (.string (⟨#[47]⟩ : ByteArray))] [.box 98 [.lit (.string a0.s), .lit (.int .i64 z3)] false] = some (.lit (.bool r6), [(0, .box 98 [.lit (.string a0.s), .lit (.int .i64 z4)] false)])) (C9 : r6 = true) (W10 : InI (z4 + 1)) (K11 : runL (n + 9) 69 [.ptr 0 0] [.box 98 [.lit (.string a0.s), .lit (.int .i64 (z4 + 1))] false] = some (.tup [], [(0, .box 98 [.lit (.string a0.s), .lit (.int .i64 z5)] false)])) (K12 : runL (n + 9) 140 [.ptr 0 0, .lit (.int .i64 200), .lit (.bool false)] [.box 98 [.lit (.string a0.s), .lit (.int .i64 z5)] false] = some (.tup [.lit (.string r7), .lit (.bool r8)], [(0, .box 98 [.lit (.string a0.s), .lit (.int .i64 z6)] false)])) (C13 : r8 = true) (K14 : run (n + 9) 141 [.lit (.string r7)] = some (natA r9)) (K15 : runL (n + 9) 69 [.ptr 0 0] [.box 98 [.lit (.string a0.s), .lit (.int .i64 z6)] false] = some (.tup [], [(0, .box 98 [.lit (.string a0.s), .lit (.int .i64 z7)] false)])) (K16 : runL (n + 9) 70 [.ptr 0 0, .lit (.string (⟨#[42]⟩ : ByteArray))] [.box 98 [.lit (.string a0.s), .lit (.int .i64 z7)] false] = some (.lit (.bool r10), [(0, .box 98 [.lit (.string a0.s), .lit (.int .i64 z8)] false)])) (C17 : r10 = true) (W18 : InI (z8 + 1)) (K19 : runL (n + 9) 69 [.ptr 0 0] [.box 98 [.lit (.string a0.s), .lit (.int .i64 (z8 + 1))] false] = some (.tup [], [(0, .box 98 [.lit (.string a0.s), .lit (.int .i64 z9)] false)])) (K20 : runL (n + 9) 143 [.ptr 0 0] [.box 98 [.lit (.string a0.s), .lit (.int .i64 z9)] false] = some (.tup [.lit (.int .i64 r14), .lit (.bool r15)], [(0, .box 98 [.lit (.string a0.s), .lit (.int .i64 z12)] false)])) (C21 : r15 = true) (K22 : runL (n + 9) 97 [.agg [.nl 4, .lit (.bool false), .nl 1, .nl 1], .lit (.int .i64 r14), .agg [.lit (.bool a2), natA r5, natA r9]] [] = some (.agg [.nl 4, .lit (.bool false), .nl 1, .nl 1], [])) (K23 : run (n + 9) 142 [formV a1, .agg [.sl 4 [], .lit (.bool false), .sl 1 [], .sl 1 []]] = some (formV r16)) :
    runL (n + 10) 71 [.ptr 0 0, formV a1, .lit (.bool a2)] [.box 98 [.lit (.string a0.s), .lit (.int .i64 (a0.at_))] false] = some (.tup [formV r16, .lit (.bool true)], [(0, .box 98 [.lit (.string a0.s), .lit (.int .i64 z12)] false)]) := by
  have W10_ : IntKind.i64.wrap (z4 + 1) = z4 + 1 := wr64 W10.1 W10.2
  have W18_ : IntKind.i64.wrap (z8 + 1) = z8 + 1 := wr64 W18.1 W18.2
  simp only [formV] at K23
  rw [C3] at K2
  rw [C5] at K4
  rw [C9] at K8
  rw [C13] at K12
  rw [C17] at K16
  rw [C21] at K20
  unfold runL fnL
  simp +decide [Tryz.f71, K1, K2, C3, K4, C5, K6, K7, K8, C9, W10_, K11, K12, C13, K14, K15, K16, C17, W18_, K19, K20, C21, K22, K23]
theorem lpa_f6 (K1 : (oU fun k => natA (lmb k)) [.lit (.int .u64 1)] = some (natA r)) (K2 : runL (n + 9) 70 [.ptr 0 0, .lit (.string (⟨#[120]⟩ : ByteArray))] [.box 98 [.lit (.string a0.s), .lit (.int .i64 (a0.at_))] false] = some (.lit (.bool r2), [(0, .box 98 [.lit (.string a0.s), .lit (.int .i64 z)] false)])) (C3 : r2 = false) (K4 : runL (n + 9) 140 [.ptr 0 0, .lit (.int .i64 200), .lit (.bool true)] [.box 98 [.lit (.string a0.s), .lit (.int .i64 z)] false] = some (.tup [.lit (.string r3), .lit (.bool r4)], [(0, .box 98 [.lit (.string a0.s), .lit (.int .i64 z2)] false)])) (C5 : r4 = true) (K6 : run (n + 9) 141 [.lit (.string r3)] = some (natA r5)) (K7 : runL (n + 9) 69 [.ptr 0 0] [.box 98 [.lit (.string a0.s), .lit (.int .i64 z2)] false] = some (.tup [], [(0, .box 98 [.lit (.string a0.s), .lit (.int .i64 z3)] false)])) (K8 : runL (n + 9) 70 [.ptr 0 0, .lit (.string (⟨#[47]⟩ : ByteArray))] [.box 98 [.lit (.string a0.s), .lit (.int .i64 z3)] false] = some (.lit (.bool r6), [(0, .box 98 [.lit (.string a0.s), .lit (.int .i64 z4)] false)])) (C9 : r6 = true) (W10 : InI (z4 + 1)) (K11 : runL (n + 9) 69 [.ptr 0 0] [.box 98 [.lit (.string a0.s), .lit (.int .i64 (z4 + 1))] false] = some (.tup [], [(0, .box 98 [.lit (.string a0.s), .lit (.int .i64 z5)] false)])) (K12 : runL (n + 9) 140 [.ptr 0 0, .lit (.int .i64 200), .lit (.bool false)] [.box 98 [.lit (.string a0.s), .lit (.int .i64 z5)] false] = some (.tup [.lit (.string r7), .lit (.bool r8)], [(0, .box 98 [.lit (.string a0.s), .lit (.int .i64 z6)] false)])) (C13 : r8 = true) (K14 : run (n + 9) 141 [.lit (.string r7)] = some (natA r9)) (K15 : runL (n + 9) 69 [.ptr 0 0] [.box 98 [.lit (.string a0.s), .lit (.int .i64 z6)] false] = some (.tup [], [(0, .box 98 [.lit (.string a0.s), .lit (.int .i64 z7)] false)])) (K16 : runL (n + 9) 70 [.ptr 0 0, .lit (.string (⟨#[42]⟩ : ByteArray))] [.box 98 [.lit (.string a0.s), .lit (.int .i64 z7)] false] = some (.lit (.bool r10), [(0, .box 98 [.lit (.string a0.s), .lit (.int .i64 z8)] false)])) (C17 : r10 = true) (W18 : InI (z8 + 1)) (K19 : runL (n + 9) 69 [.ptr 0 0] [.box 98 [.lit (.string a0.s), .lit (.int .i64 (z8 + 1))] false] = some (.tup [], [(0, .box 98 [.lit (.string a0.s), .lit (.int .i64 z9)] false)])) (K20 : runL (n + 9) 143 [.ptr 0 0] [.box 98 [.lit (.string a0.s), .lit (.int .i64 z9)] false] = some (.tup [.lit (.int .i64 r14), .lit (.bool r15)], [(0, .box 98 [.lit (.string a0.s), .lit (.int .i64 z12)] false)])) (C21 : r15 = true) (K22 : runL (n + 9) 97 [.agg [.nl 4, .lit (.bool false), .nl 1, .nl 1], .lit (.int .i64 r14), .agg [.lit (.bool a2), natA r5, natA r9]] [] = some (.agg [.own 3 R.length, .lit (.bool false), .nl 1, .nl 1], [(3, .row 82 4 (R.map termC) 0)])) (K23 : run (n + 9) 142 [formV a1, .agg [.sl 4 (R.map termC), .lit (.bool false), .sl 1 [], .sl 1 []]] = some (formV r16)) :
    runL (n + 10) 71 [.ptr 0 0, formV a1, .lit (.bool a2)] [.box 98 [.lit (.string a0.s), .lit (.int .i64 (a0.at_))] false] = some (.tup [formV r16, .lit (.bool true)], [(0, .box 98 [.lit (.string a0.s), .lit (.int .i64 z12)] false)]) := by
  have W10_ : IntKind.i64.wrap (z4 + 1) = z4 + 1 := wr64 W10.1 W10.2
  have W18_ : IntKind.i64.wrap (z8 + 1) = z8 + 1 := wr64 W18.1 W18.2
  simp only [formV] at K23
  rw [C3] at K2
  rw [C5] at K4
  rw [C9] at K8
  rw [C13] at K12
  rw [C17] at K16
  rw [C21] at K20
  unfold runL fnL
  simp +decide [Tryz.f71, K1, K2, C3, K4, C5, K6, K7, K8, C9, W10_, K11, K12, C13, K14, K15, K16, C17, W18_, K19, K20, C21, K22, K23]
theorem lpa_f7 (K1 : (oU fun k => natA (lmb k)) [.lit (.int .u64 1)] = some (natA r)) (K2 : runL (n + 9) 70 [.ptr 0 0, .lit (.string (⟨#[120]⟩ : ByteArray))] [.box 98 [.lit (.string a0.s), .lit (.int .i64 (a0.at_))] false] = some (.lit (.bool r2), [(0, .box 98 [.lit (.string a0.s), .lit (.int .i64 z)] false)])) (C3 : r2 = false) (K4 : runL (n + 9) 140 [.ptr 0 0, .lit (.int .i64 200), .lit (.bool true)] [.box 98 [.lit (.string a0.s), .lit (.int .i64 z)] false] = some (.tup [.lit (.string r3), .lit (.bool r4)], [(0, .box 98 [.lit (.string a0.s), .lit (.int .i64 z2)] false)])) (C5 : r4 = true) (K6 : run (n + 9) 141 [.lit (.string r3)] = some (natA r5)) (K7 : runL (n + 9) 69 [.ptr 0 0] [.box 98 [.lit (.string a0.s), .lit (.int .i64 z2)] false] = some (.tup [], [(0, .box 98 [.lit (.string a0.s), .lit (.int .i64 z3)] false)])) (K8 : runL (n + 9) 70 [.ptr 0 0, .lit (.string (⟨#[47]⟩ : ByteArray))] [.box 98 [.lit (.string a0.s), .lit (.int .i64 z3)] false] = some (.lit (.bool r6), [(0, .box 98 [.lit (.string a0.s), .lit (.int .i64 z4)] false)])) (C9 : r6 = false) (K10 : runL (n + 9) 70 [.ptr 0 0, .lit (.string (⟨#[42]⟩ : ByteArray))] [.box 98 [.lit (.string a0.s), .lit (.int .i64 z4)] false] = some (.lit (.bool r12), [(0, .box 98 [.lit (.string a0.s), .lit (.int .i64 z10)] false)])) (C11 : r12 = false) (B12a : RawB (⟨a2, r5, []⟩ : Raw)) (K13 : run (n + 9) 142 [formV a1, .agg [.sl 4 [], .lit (.bool (rawQ ((⟨a2, r5, []⟩ : Raw).q)).s), natA (rawQ ((⟨a2, r5, []⟩ : Raw).q)).l1, natA (rawQ ((⟨a2, r5, []⟩ : Raw).q)).l2]] = some (formV r13)) :
    runL (n + 10) 71 [.ptr 0 0, formV a1, .lit (.bool a2)] [.box 98 [.lit (.string a0.s), .lit (.int .i64 (a0.at_))] false] = some (.tup [formV r13, .lit (.bool true)], [(0, .box 98 [.lit (.string a0.s), .lit (.int .i64 z10)] false)]) := by
  have K12 := rr_canon B12a
  try dsimp only at K12
  try rw [show natA [] = AV.sl 1 [] from rfl] at K12
  simp only [formV] at K13
  rw [C3] at K2
  rw [C5] at K4
  rw [C9] at K8
  rw [C11] at K10
  unfold runL fnL
  simp +decide [Tryz.f71, K1, K2, C3, K4, C5, K6, K7, K8, C9, K10, C11, K12, K13]
theorem lpa_f8 (K1 : (oU fun k => natA (lmb k)) [.lit (.int .u64 1)] = some (natA r)) (K2 : runL (n + 9) 70 [.ptr 0 0, .lit (.string (⟨#[120]⟩ : ByteArray))] [.box 98 [.lit (.string a0.s), .lit (.int .i64 (a0.at_))] false] = some (.lit (.bool r2), [(0, .box 98 [.lit (.string a0.s), .lit (.int .i64 z)] false)])) (C3 : r2 = false) (K4 : runL (n + 9) 140 [.ptr 0 0, .lit (.int .i64 200), .lit (.bool true)] [.box 98 [.lit (.string a0.s), .lit (.int .i64 z)] false] = some (.tup [.lit (.string r3), .lit (.bool r4)], [(0, .box 98 [.lit (.string a0.s), .lit (.int .i64 z2)] false)])) (C5 : r4 = true) (K6 : run (n + 9) 141 [.lit (.string r3)] = some (natA r5)) (K7 : runL (n + 9) 69 [.ptr 0 0] [.box 98 [.lit (.string a0.s), .lit (.int .i64 z2)] false] = some (.tup [], [(0, .box 98 [.lit (.string a0.s), .lit (.int .i64 z3)] false)])) (K8 : runL (n + 9) 70 [.ptr 0 0, .lit (.string (⟨#[47]⟩ : ByteArray))] [.box 98 [.lit (.string a0.s), .lit (.int .i64 z3)] false] = some (.lit (.bool r6), [(0, .box 98 [.lit (.string a0.s), .lit (.int .i64 z4)] false)])) (C9 : r6 = false) (K10 : runL (n + 9) 70 [.ptr 0 0, .lit (.string (⟨#[42]⟩ : ByteArray))] [.box 98 [.lit (.string a0.s), .lit (.int .i64 z4)] false] = some (.lit (.bool r12), [(0, .box 98 [.lit (.string a0.s), .lit (.int .i64 z10)] false)])) (C11 : r12 = true) (W12 : InI (z10 + 1)) (K13 : runL (n + 9) 69 [.ptr 0 0] [.box 98 [.lit (.string a0.s), .lit (.int .i64 (z10 + 1))] false] = some (.tup [], [(0, .box 98 [.lit (.string a0.s), .lit (.int .i64 z11)] false)])) (K14 : runL (n + 9) 143 [.ptr 0 0] [.box 98 [.lit (.string a0.s), .lit (.int .i64 z11)] false] = some (.tup [.lit (.int .i64 r17), .lit (.bool r18)], [(0, .box 98 [.lit (.string a0.s), .lit (.int .i64 z13)] false)])) (C15 : r18 = false) :
    runL (n + 10) 71 [.ptr 0 0, formV a1, .lit (.bool a2)] [.box 98 [.lit (.string a0.s), .lit (.int .i64 (a0.at_))] false] = some (.tup [formV a1, .lit (.bool false)], [(0, .box 98 [.lit (.string a0.s), .lit (.int .i64 z13)] false)]) := by
  have W12_ : IntKind.i64.wrap (z10 + 1) = z10 + 1 := wr64 W12.1 W12.2
  rw [C3] at K2
  rw [C5] at K4
  rw [C9] at K8
  rw [C11] at K10
  rw [C15] at K14
  unfold runL fnL
  simp +decide [Tryz.f71, K1, K2, C3, K4, C5, K6, K7, K8, C9, K10, C11, W12_, K13, K14, C15]
theorem lpa_f9 (K1 : (oU fun k => natA (lmb k)) [.lit (.int .u64 1)] = some (natA r)) (K2 : runL (n + 9) 70 [.ptr 0 0, .lit (.string (⟨#[120]⟩ : ByteArray))] [.box 98 [.lit (.string a0.s), .lit (.int .i64 (a0.at_))] false] = some (.lit (.bool r2), [(0, .box 98 [.lit (.string a0.s), .lit (.int .i64 z)] false)])) (C3 : r2 = false) (K4 : runL (n + 9) 140 [.ptr 0 0, .lit (.int .i64 200), .lit (.bool true)] [.box 98 [.lit (.string a0.s), .lit (.int .i64 z)] false] = some (.tup [.lit (.string r3), .lit (.bool r4)], [(0, .box 98 [.lit (.string a0.s), .lit (.int .i64 z2)] false)])) (C5 : r4 = true) (K6 : run (n + 9) 141 [.lit (.string r3)] = some (natA r5)) (K7 : runL (n + 9) 69 [.ptr 0 0] [.box 98 [.lit (.string a0.s), .lit (.int .i64 z2)] false] = some (.tup [], [(0, .box 98 [.lit (.string a0.s), .lit (.int .i64 z3)] false)])) (K8 : runL (n + 9) 70 [.ptr 0 0, .lit (.string (⟨#[47]⟩ : ByteArray))] [.box 98 [.lit (.string a0.s), .lit (.int .i64 z3)] false] = some (.lit (.bool r6), [(0, .box 98 [.lit (.string a0.s), .lit (.int .i64 z4)] false)])) (C9 : r6 = false) (K10 : runL (n + 9) 70 [.ptr 0 0, .lit (.string (⟨#[42]⟩ : ByteArray))] [.box 98 [.lit (.string a0.s), .lit (.int .i64 z4)] false] = some (.lit (.bool r12), [(0, .box 98 [.lit (.string a0.s), .lit (.int .i64 z10)] false)])) (C11 : r12 = true) (W12 : InI (z10 + 1)) (K13 : runL (n + 9) 69 [.ptr 0 0] [.box 98 [.lit (.string a0.s), .lit (.int .i64 (z10 + 1))] false] = some (.tup [], [(0, .box 98 [.lit (.string a0.s), .lit (.int .i64 z11)] false)])) (K14 : runL (n + 9) 143 [.ptr 0 0] [.box 98 [.lit (.string a0.s), .lit (.int .i64 z11)] false] = some (.tup [.lit (.int .i64 r17), .lit (.bool r18)], [(0, .box 98 [.lit (.string a0.s), .lit (.int .i64 z13)] false)])) (C15 : r18 = true) (K16 : runL (n + 9) 97 [.agg [.nl 4, .lit (.bool false), .nl 1, .nl 1], .lit (.int .i64 r17), .agg [.lit (.bool a2), natA r5, .sl 1 []]] [] = some (.agg [.nl 4, .lit (.bool false), .nl 1, .nl 1], [])) (K17 : run (n + 9) 142 [formV a1, .agg [.sl 4 [], .lit (.bool false), .sl 1 [], .sl 1 []]] = some (formV r19)) :
    runL (n + 10) 71 [.ptr 0 0, formV a1, .lit (.bool a2)] [.box 98 [.lit (.string a0.s), .lit (.int .i64 (a0.at_))] false] = some (.tup [formV r19, .lit (.bool true)], [(0, .box 98 [.lit (.string a0.s), .lit (.int .i64 z13)] false)]) := by
  have W12_ : IntKind.i64.wrap (z10 + 1) = z10 + 1 := wr64 W12.1 W12.2
  simp only [formV] at K17
  rw [C3] at K2
  rw [C5] at K4
  rw [C9] at K8
  rw [C11] at K10
  rw [C15] at K14
  unfold runL fnL
  simp +decide [Tryz.f71, K1, K2, C3, K4, C5, K6, K7, K8, C9, K10, C11, W12_, K13, K14, C15, K16, K17]
theorem lpa_f10 (K1 : (oU fun k => natA (lmb k)) [.lit (.int .u64 1)] = some (natA r)) (K2 : runL (n + 9) 70 [.ptr 0 0, .lit (.string (⟨#[120]⟩ : ByteArray))] [.box 98 [.lit (.string a0.s), .lit (.int .i64 (a0.at_))] false] = some (.lit (.bool r2), [(0, .box 98 [.lit (.string a0.s), .lit (.int .i64 z)] false)])) (C3 : r2 = false) (K4 : runL (n + 9) 140 [.ptr 0 0, .lit (.int .i64 200), .lit (.bool true)] [.box 98 [.lit (.string a0.s), .lit (.int .i64 z)] false] = some (.tup [.lit (.string r3), .lit (.bool r4)], [(0, .box 98 [.lit (.string a0.s), .lit (.int .i64 z2)] false)])) (C5 : r4 = true) (K6 : run (n + 9) 141 [.lit (.string r3)] = some (natA r5)) (K7 : runL (n + 9) 69 [.ptr 0 0] [.box 98 [.lit (.string a0.s), .lit (.int .i64 z2)] false] = some (.tup [], [(0, .box 98 [.lit (.string a0.s), .lit (.int .i64 z3)] false)])) (K8 : runL (n + 9) 70 [.ptr 0 0, .lit (.string (⟨#[47]⟩ : ByteArray))] [.box 98 [.lit (.string a0.s), .lit (.int .i64 z3)] false] = some (.lit (.bool r6), [(0, .box 98 [.lit (.string a0.s), .lit (.int .i64 z4)] false)])) (C9 : r6 = false) (K10 : runL (n + 9) 70 [.ptr 0 0, .lit (.string (⟨#[42]⟩ : ByteArray))] [.box 98 [.lit (.string a0.s), .lit (.int .i64 z4)] false] = some (.lit (.bool r12), [(0, .box 98 [.lit (.string a0.s), .lit (.int .i64 z10)] false)])) (C11 : r12 = true) (W12 : InI (z10 + 1)) (K13 : runL (n + 9) 69 [.ptr 0 0] [.box 98 [.lit (.string a0.s), .lit (.int .i64 (z10 + 1))] false] = some (.tup [], [(0, .box 98 [.lit (.string a0.s), .lit (.int .i64 z11)] false)])) (K14 : runL (n + 9) 143 [.ptr 0 0] [.box 98 [.lit (.string a0.s), .lit (.int .i64 z11)] false] = some (.tup [.lit (.int .i64 r17), .lit (.bool r18)], [(0, .box 98 [.lit (.string a0.s), .lit (.int .i64 z13)] false)])) (C15 : r18 = true) (K16 : runL (n + 9) 97 [.agg [.nl 4, .lit (.bool false), .nl 1, .nl 1], .lit (.int .i64 r17), .agg [.lit (.bool a2), natA r5, .sl 1 []]] [] = some (.agg [.own 3 R2.length, .lit (.bool false), .nl 1, .nl 1], [(3, .row 82 4 (R2.map termC) 0)])) (K17 : run (n + 9) 142 [formV a1, .agg [.sl 4 (R2.map termC), .lit (.bool false), .sl 1 [], .sl 1 []]] = some (formV r19)) :
    runL (n + 10) 71 [.ptr 0 0, formV a1, .lit (.bool a2)] [.box 98 [.lit (.string a0.s), .lit (.int .i64 (a0.at_))] false] = some (.tup [formV r19, .lit (.bool true)], [(0, .box 98 [.lit (.string a0.s), .lit (.int .i64 z13)] false)]) := by
  have W12_ : IntKind.i64.wrap (z10 + 1) = z10 + 1 := wr64 W12.1 W12.2
  simp only [formV] at K17
  rw [C3] at K2
  rw [C5] at K4
  rw [C9] at K8
  rw [C11] at K10
  rw [C15] at K14
  unfold runL fnL
  simp +decide [Tryz.f71, K1, K2, C3, K4, C5, K6, K7, K8, C9, K10, C11, W12_, K13, K14, C15, K16, K17]
theorem lpa_f11 (K1 : (oU fun k => natA (lmb k)) [.lit (.int .u64 1)] = some (natA r)) (K2 : runL (n + 9) 70 [.ptr 0 0, .lit (.string (⟨#[120]⟩ : ByteArray))] [.box 98 [.lit (.string a0.s), .lit (.int .i64 (a0.at_))] false] = some (.lit (.bool r2), [(0, .box 98 [.lit (.string a0.s), .lit (.int .i64 z)] false)])) (C3 : r2 = true) (K4 : runL (n + 9) 143 [.ptr 0 0] [.box 98 [.lit (.string a0.s), .lit (.int .i64 z)] false] = some (.tup [.lit (.int .i64 r20), .lit (.bool r21)], [(0, .box 98 [.lit (.string a0.s), .lit (.int .i64 z14)] false)])) (C5 : r21 = false) :
    runL (n + 10) 71 [.ptr 0 0, formV a1, .lit (.bool a2)] [.box 98 [.lit (.string a0.s), .lit (.int .i64 (a0.at_))] false] = some (.tup [formV a1, .lit (.bool false)], [(0, .box 98 [.lit (.string a0.s), .lit (.int .i64 z14)] false)]) := by
  rw [C3] at K2
  rw [C5] at K4
  unfold runL fnL
  simp +decide [Tryz.f71, K1, K2, C3, K4, C5]
theorem lpa_f12 (K1 : (oU fun k => natA (lmb k)) [.lit (.int .u64 1)] = some (natA r)) (K2 : runL (n + 9) 70 [.ptr 0 0, .lit (.string (⟨#[120]⟩ : ByteArray))] [.box 98 [.lit (.string a0.s), .lit (.int .i64 (a0.at_))] false] = some (.lit (.bool r2), [(0, .box 98 [.lit (.string a0.s), .lit (.int .i64 z)] false)])) (C3 : r2 = true) (K4 : runL (n + 9) 143 [.ptr 0 0] [.box 98 [.lit (.string a0.s), .lit (.int .i64 z)] false] = some (.tup [.lit (.int .i64 r20), .lit (.bool r21)], [(0, .box 98 [.lit (.string a0.s), .lit (.int .i64 z14)] false)])) (C5 : r21 = true) (K6 : runL (n + 9) 97 [.agg [.nl 4, .lit (.bool false), .nl 1, .nl 1], .lit (.int .i64 r20), .agg [.lit (.bool a2), natA r, .sl 1 []]] [] = some (.agg [.nl 4, .lit (.bool false), .nl 1, .nl 1], [])) (K7 : run (n + 9) 142 [formV a1, .agg [.sl 4 [], .lit (.bool false), .sl 1 [], .sl 1 []]] = some (formV r22)) :
    runL (n + 10) 71 [.ptr 0 0, formV a1, .lit (.bool a2)] [.box 98 [.lit (.string a0.s), .lit (.int .i64 (a0.at_))] false] = some (.tup [formV r22, .lit (.bool true)], [(0, .box 98 [.lit (.string a0.s), .lit (.int .i64 z14)] false)]) := by
  simp only [formV] at K7
  rw [C3] at K2
  rw [C5] at K4
  unfold runL fnL
  simp +decide [Tryz.f71, K1, K2, C3, K4, C5, K6, K7]
theorem lpa_f13 (K1 : (oU fun k => natA (lmb k)) [.lit (.int .u64 1)] = some (natA r)) (K2 : runL (n + 9) 70 [.ptr 0 0, .lit (.string (⟨#[120]⟩ : ByteArray))] [.box 98 [.lit (.string a0.s), .lit (.int .i64 (a0.at_))] false] = some (.lit (.bool r2), [(0, .box 98 [.lit (.string a0.s), .lit (.int .i64 z)] false)])) (C3 : r2 = true) (K4 : runL (n + 9) 143 [.ptr 0 0] [.box 98 [.lit (.string a0.s), .lit (.int .i64 z)] false] = some (.tup [.lit (.int .i64 r20), .lit (.bool r21)], [(0, .box 98 [.lit (.string a0.s), .lit (.int .i64 z14)] false)])) (C5 : r21 = true) (K6 : runL (n + 9) 97 [.agg [.nl 4, .lit (.bool false), .nl 1, .nl 1], .lit (.int .i64 r20), .agg [.lit (.bool a2), natA r, .sl 1 []]] [] = some (.agg [.own 3 R3.length, .lit (.bool false), .nl 1, .nl 1], [(3, .row 82 4 (R3.map termC) 0)])) (K7 : run (n + 9) 142 [formV a1, .agg [.sl 4 (R3.map termC), .lit (.bool false), .sl 1 [], .sl 1 []]] = some (formV r22)) :
    runL (n + 10) 71 [.ptr 0 0, formV a1, .lit (.bool a2)] [.box 98 [.lit (.string a0.s), .lit (.int .i64 (a0.at_))] false] = some (.tup [formV r22, .lit (.bool true)], [(0, .box 98 [.lit (.string a0.s), .lit (.int .i64 z14)] false)]) := by
  simp only [formV] at K7
  rw [C3] at K2
  rw [C5] at K4
  unfold runL fnL
  simp +decide [Tryz.f71, K1, K2, C3, K4, C5, K6, K7]
end
end Go.Proofs.YtjpoanaoaeaneaaGreatDoor
set_option linter.all false
set_option maxRecDepth 100000
set_option maxHeartbeats 6400000
namespace Go.Proofs.YtjpoanaoaeaneaaGreatDoor
open Go.RowKit
theorem pt_new {n : Nat} {F : List (Int × Rat)} {v : Int} {q k : Rat} (hq : H q ≤ 17179869184) (h0 : q ≠ 0) (hF : F.length ≤ 10000000) :
    runL n 97 [.agg [.own 0 F.length, .lit (.bool (rawQ k).s), natA (rawQ k).l1, natA (rawQ k).l2], .lit (.int .i64 v), .agg [.lit (.bool (rawQ q).s), natA (rawQ q).l1, natA (rawQ q).l2]] [.row 82 4 (F.map termC) 0] = some (.agg [.own 4 (F ++ [(v, q)]).length, .lit (.bool (rawQ k).s), natA (rawQ k).l1, natA (rawQ k).l2], [(4, .row 82 4 ((F ++ [(v, q)]).map termC) 0)]) := by
  unfold runL fnL
  have hs := r_sign (p := q) hq
  have hc := r_canon (p := q) hq
  have e2 : (sgR q == 0) = false := by simpa using fun h => h0 (sgR_eq_zero.1 h)
  have e3 : (sgR q != 0) = true := by simpa using fun h => h0 (sgR_eq_zero.1 h)
  have hr : ∀ b, b ≤ 10000 → roomy (F.length + 1) b = true := fun b hb => roomy_s (by omega) hb
  simp +decide [Tryz.f97, hs, hc, e2, e3, hr]
theorem pt_same {n : Nat} {F : List (Int × Rat)} {v : Int} {q k : Rat} (hq : H q ≤ 17179869184) (h0 : q = 0) :
    runL n 97 [.agg [.own 0 F.length, .lit (.bool (rawQ k).s), natA (rawQ k).l1, natA (rawQ k).l2], .lit (.int .i64 v), .agg [.lit (.bool (rawQ q).s), natA (rawQ q).l1, natA (rawQ q).l2]] [.row 82 4 (F.map termC) 0] = some (.agg [.own 0 F.length, .lit (.bool (rawQ k).s), natA (rawQ k).l1, natA (rawQ k).l2], [(0, .row 82 4 (F.map termC) 0)]) := by
  unfold runL fnL
  have hs := r_sign (p := q) hq
  have e2 : (sgR q == 0) = true := by rw [sgR_eq_zero.2 h0]; rfl
  have e3 : (sgR q != 0) = false := by rw [sgR_eq_zero.2 h0]; rfl
  simp +decide [Tryz.f97, hs, e2, e3]
end Go.Proofs.YtjpoanaoaeaneaaGreatDoor
