import Derived.Test.YtjpoanaoaeaneaaGreatDoorGA5
import Derived.Test.YtjpoanaoaeaneaaGreatDoorGA6
import Derived.Test.YtjpoanaoaeaneaaGreatDoorGA9
set_option linter.all false
set_option maxRecDepth 100000
set_option maxHeartbeats 6400000
namespace Go.Proofs.YtjpoanaoaeaneaaGreatDoor
open Go.RowKit
section
variable {a2 : Bool} {z : Int} {d7 : Bool} {d8 : Bool} {z5 : Int} {n : Nat} {d2 : Bool} {r : Int} {r4 : List Nat} {z8 : Int} {z7 : Int} {d : Bool} {d6 : Bool} {z6 : Int} {r3 : Int} {d5 : Bool} {a0 : Treader} {z3 : Int} {a1 : Form} {z2 : Int} {r2 : List Nat} {d4 : Bool} {z4 : Int} {d3 : Bool} {d9 : Bool} {r5 : Int} {z9 : Int} {d10 : Bool} {z11 : Int} {r6 : Int} {z10 : Int} {d11 : Bool} {r9 : Int} {z15 : Int} {d15 : Bool} {r10 : Form} {d12 : Bool} {r7 : Int} {z12 : Int} {d14 : Bool} {z14 : Int} {d13 : Bool} {z13 : Int} {r8 : Int} {z16 : Int} {r11 : Int} {d16 : Bool} {r12 : Form} {d17 : Bool} {z17 : Int} {r13 : Int} {r14 : Form}
theorem rpa_f1 (K1 : runL (n + 3) 77 [.ptr 0 0] [.box 108 [.lit (.string a0.s), .lit (.int .i64 (a0.at_)), .lit (.bool a0.bad)] false] = some (.tup [], [(0, .box 108 [.lit (.string a0.s), .lit (.int .i64 z), .lit (.bool d)] false)])) (K3 : runL (n + 3) 78 [.ptr 0 0] [.box 108 [.lit (.string a0.s), .lit (.int .i64 z), .lit (.bool d)] false] = some (.lit (.int .u8 r), [(0, .box 108 [.lit (.string a0.s), .lit (.int .i64 z2), .lit (.bool d2)] false)])) (C4 : ¬ r = 120) (K5 : runL (n + 3) 148 [.ptr 0 0, .lit (.bool true), .lit (.int .i64 200)] [.box 108 [.lit (.string a0.s), .lit (.int .i64 z2), .lit (.bool d2)] false] = some (natA r2, [(0, .box 108 [.lit (.string a0.s), .lit (.int .i64 z3), .lit (.bool d3)] false)])) (K6 : runL (n + 3) 77 [.ptr 0 0] [.box 108 [.lit (.string a0.s), .lit (.int .i64 z3), .lit (.bool d3)] false] = some (.tup [], [(0, .box 108 [.lit (.string a0.s), .lit (.int .i64 z4), .lit (.bool d4)] false)])) (C7 : d4 = false) (K8 : runL (n + 3) 78 [.ptr 0 0] [.box 108 [.lit (.string a0.s), .lit (.int .i64 z4), .lit (.bool d4)] false] = some (.lit (.int .u8 r3), [(0, .box 108 [.lit (.string a0.s), .lit (.int .i64 z5), .lit (.bool d5)] false)])) (C9 : r3 = 47) (W10 : InI (z5 + 1)) (K11 : runL (n + 3) 77 [.ptr 0 0] [.box 108 [.lit (.string a0.s), .lit (.int .i64 (z5 + 1)), .lit (.bool d5)] false] = some (.tup [], [(0, .box 108 [.lit (.string a0.s), .lit (.int .i64 z6), .lit (.bool d6)] false)])) (K12 : runL (n + 3) 148 [.ptr 0 0, .lit (.bool false), .lit (.int .i64 200)] [.box 108 [.lit (.string a0.s), .lit (.int .i64 z6), .lit (.bool d6)] false] = some (natA r4, [(0, .box 108 [.lit (.string a0.s), .lit (.int .i64 z7), .lit (.bool d7)] false)])) (K13 : runL (n + 3) 77 [.ptr 0 0] [.box 108 [.lit (.string a0.s), .lit (.int .i64 z7), .lit (.bool d7)] false] = some (.tup [], [(0, .box 108 [.lit (.string a0.s), .lit (.int .i64 z8), .lit (.bool d8)] false)])) (C14 : d8 = true) :
    runL (n + 4) 79 [.ptr 0 0, formV a1, .lit (.bool a2)] [.box 108 [.lit (.string a0.s), .lit (.int .i64 (a0.at_)), .lit (.bool a0.bad)] false] = some (formV a1, [(0, .box 108 [.lit (.string a0.s), .lit (.int .i64 z8), .lit (.bool d8)] false)]) := by
  have K2 := r_ofq (z := 1) (by omega) (by omega)
  have C4_ : (r == 120) = false := by simpa using C4
  have C4_n : (r != 120) = true := by simpa using C4
  have C9_ : (r3 == 47) = true := by rw [C9]; simp
  have C9_n : (r3 != 47) = false := by rw [C9]; simp
  have W10_ : IntKind.i64.wrap (z5 + 1) = z5 + 1 := wr64 W10.1 W10.2
  rw [C7] at K6
  rw [C7] at K8
  rw [C14] at K13
  unfold runL fnL
  simp +decide [Tryz.f79, K1, K2, K3, C4_, C4_n, K5, K6, C7, K8, C9_, C9_n, W10_, K11, K12, K13, C14]
theorem rpa_f2 (K1 : runL (n + 3) 77 [.ptr 0 0] [.box 108 [.lit (.string a0.s), .lit (.int .i64 (a0.at_)), .lit (.bool a0.bad)] false] = some (.tup [], [(0, .box 108 [.lit (.string a0.s), .lit (.int .i64 z), .lit (.bool d)] false)])) (K3 : runL (n + 3) 78 [.ptr 0 0] [.box 108 [.lit (.string a0.s), .lit (.int .i64 z), .lit (.bool d)] false] = some (.lit (.int .u8 r), [(0, .box 108 [.lit (.string a0.s), .lit (.int .i64 z2), .lit (.bool d2)] false)])) (C4 : ¬ r = 120) (K5 : runL (n + 3) 148 [.ptr 0 0, .lit (.bool true), .lit (.int .i64 200)] [.box 108 [.lit (.string a0.s), .lit (.int .i64 z2), .lit (.bool d2)] false] = some (natA r2, [(0, .box 108 [.lit (.string a0.s), .lit (.int .i64 z3), .lit (.bool d3)] false)])) (K6 : runL (n + 3) 77 [.ptr 0 0] [.box 108 [.lit (.string a0.s), .lit (.int .i64 z3), .lit (.bool d3)] false] = some (.tup [], [(0, .box 108 [.lit (.string a0.s), .lit (.int .i64 z4), .lit (.bool d4)] false)])) (C7 : d4 = false) (K8 : runL (n + 3) 78 [.ptr 0 0] [.box 108 [.lit (.string a0.s), .lit (.int .i64 z4), .lit (.bool d4)] false] = some (.lit (.int .u8 r3), [(0, .box 108 [.lit (.string a0.s), .lit (.int .i64 z5), .lit (.bool d5)] false)])) (C9 : r3 = 47) (W10 : InI (z5 + 1)) (K11 : runL (n + 3) 77 [.ptr 0 0] [.box 108 [.lit (.string a0.s), .lit (.int .i64 (z5 + 1)), .lit (.bool d5)] false] = some (.tup [], [(0, .box 108 [.lit (.string a0.s), .lit (.int .i64 z6), .lit (.bool d6)] false)])) (K12 : runL (n + 3) 148 [.ptr 0 0, .lit (.bool false), .lit (.int .i64 200)] [.box 108 [.lit (.string a0.s), .lit (.int .i64 z6), .lit (.bool d6)] false] = some (natA r4, [(0, .box 108 [.lit (.string a0.s), .lit (.int .i64 z7), .lit (.bool d7)] false)])) (K13 : runL (n + 3) 77 [.ptr 0 0] [.box 108 [.lit (.string a0.s), .lit (.int .i64 z7), .lit (.bool d7)] false] = some (.tup [], [(0, .box 108 [.lit (.string a0.s), .lit (.int .i64 z8), .lit (.bool d8)] false)])) (C14 : d8 = false) (K15 : runL (n + 3) 78 [.ptr 0 0] [.box 108 [.lit (.string a0.s), .lit (.int .i64 z8), .lit (.bool d8)] false] = some (.lit (.int .u8 r5), [(0, .box 108 [.lit (.string a0.s), .lit (.int .i64 z9), .lit (.bool d9)] false)])) (C16 : ¬ r5 = 42) (B17aH : H a1.2 ≤ 17179869184) (B17b : RawB (⟨a2, r2, r4⟩ : Raw)) :
    runL (n + 4) 79 [.ptr 0 0, formV a1, .lit (.bool a2)] [.box 108 [.lit (.string a0.s), .lit (.int .i64 (a0.at_)), .lit (.bool a0.bad)] false] = some (formV (a1.1, a1.2 + ((⟨a2, r2, r4⟩ : Raw).q)), [(0, .box 108 [.lit (.string a0.s), .lit (.int .i64 z9), .lit (.bool d9)] false)]) := by
  have K2 := r_ofq (z := 1) (by omega) (by omega)
  have C4_ : (r == 120) = false := by simpa using C4
  have C4_n : (r != 120) = true := by simpa using C4
  have C9_ : (r3 == 47) = true := by rw [C9]; simp
  have C9_n : (r3 != 47) = false := by rw [C9]; simp
  have W10_ : IntKind.i64.wrap (z5 + 1) = z5 + 1 := wr64 W10.1 W10.2
  have C16_ : (r5 == 42) = false := by simpa using C16
  have C16_n : (r5 != 42) = true := by simpa using C16
  have B17a := rawB_q B17aH
  have K17 := rr_add B17a B17b
  simp only [rawQ_q] at K17
  try dsimp only at K17
  try rw [show natA [] = AV.sl 1 [] from rfl] at K17
  rw [C7] at K6
  rw [C7] at K8
  rw [C14] at K13
  rw [C14] at K15
  unfold runL fnL
  simp +decide [Tryz.f79, K1, K2, K3, C4_, C4_n, K5, K6, C7, K8, C9_, C9_n, W10_, K11, K12, K13, C14, K15, C16_, C16_n, K17]
theorem rpa_f3 (K1 : runL (n + 3) 77 [.ptr 0 0] [.box 108 [.lit (.string a0.s), .lit (.int .i64 (a0.at_)), .lit (.bool a0.bad)] false] = some (.tup [], [(0, .box 108 [.lit (.string a0.s), .lit (.int .i64 z), .lit (.bool d)] false)])) (K3 : runL (n + 3) 78 [.ptr 0 0] [.box 108 [.lit (.string a0.s), .lit (.int .i64 z), .lit (.bool d)] false] = some (.lit (.int .u8 r), [(0, .box 108 [.lit (.string a0.s), .lit (.int .i64 z2), .lit (.bool d2)] false)])) (C4 : ¬ r = 120) (K5 : runL (n + 3) 148 [.ptr 0 0, .lit (.bool true), .lit (.int .i64 200)] [.box 108 [.lit (.string a0.s), .lit (.int .i64 z2), .lit (.bool d2)] false] = some (natA r2, [(0, .box 108 [.lit (.string a0.s), .lit (.int .i64 z3), .lit (.bool d3)] false)])) (K6 : runL (n + 3) 77 [.ptr 0 0] [.box 108 [.lit (.string a0.s), .lit (.int .i64 z3), .lit (.bool d3)] false] = some (.tup [], [(0, .box 108 [.lit (.string a0.s), .lit (.int .i64 z4), .lit (.bool d4)] false)])) (C7 : d4 = false) (K8 : runL (n + 3) 78 [.ptr 0 0] [.box 108 [.lit (.string a0.s), .lit (.int .i64 z4), .lit (.bool d4)] false] = some (.lit (.int .u8 r3), [(0, .box 108 [.lit (.string a0.s), .lit (.int .i64 z5), .lit (.bool d5)] false)])) (C9 : r3 = 47) (W10 : InI (z5 + 1)) (K11 : runL (n + 3) 77 [.ptr 0 0] [.box 108 [.lit (.string a0.s), .lit (.int .i64 (z5 + 1)), .lit (.bool d5)] false] = some (.tup [], [(0, .box 108 [.lit (.string a0.s), .lit (.int .i64 z6), .lit (.bool d6)] false)])) (K12 : runL (n + 3) 148 [.ptr 0 0, .lit (.bool false), .lit (.int .i64 200)] [.box 108 [.lit (.string a0.s), .lit (.int .i64 z6), .lit (.bool d6)] false] = some (natA r4, [(0, .box 108 [.lit (.string a0.s), .lit (.int .i64 z7), .lit (.bool d7)] false)])) (K13 : runL (n + 3) 77 [.ptr 0 0] [.box 108 [.lit (.string a0.s), .lit (.int .i64 z7), .lit (.bool d7)] false] = some (.tup [], [(0, .box 108 [.lit (.string a0.s), .lit (.int .i64 z8), .lit (.bool d8)] false)])) (C14 : d8 = false) (K15 : runL (n + 3) 78 [.ptr 0 0] [.box 108 [.lit (.string a0.s), .lit (.int .i64 z8), .lit (.bool d8)] false] = some (.lit (.int .u8 r5), [(0, .box 108 [.lit (.string a0.s), .lit (.int .i64 z9), .lit (.bool d9)] false)])) (C16 : r5 = 42) (W17 : InI (z9 + 1)) (K18 : runL (n + 3) 77 [.ptr 0 0] [.box 108 [.lit (.string a0.s), .lit (.int .i64 (z9 + 1)), .lit (.bool d9)] false] = some (.tup [], [(0, .box 108 [.lit (.string a0.s), .lit (.int .i64 z10), .lit (.bool d10)] false)])) (K19 : runL (n + 3) 78 [.ptr 0 0] [.box 108 [.lit (.string a0.s), .lit (.int .i64 z10), .lit (.bool d10)] false] = some (.lit (.int .u8 r6), [(0, .box 108 [.lit (.string a0.s), .lit (.int .i64 z11), .lit (.bool d11)] false)])) (C20 : ¬ r6 = 120) :
    runL (n + 4) 79 [.ptr 0 0, formV a1, .lit (.bool a2)] [.box 108 [.lit (.string a0.s), .lit (.int .i64 (a0.at_)), .lit (.bool a0.bad)] false] = some (formV a1, [(0, .box 108 [.lit (.string a0.s), .lit (.int .i64 z11), .lit (.bool true)] false)]) := by
  have K2 := r_ofq (z := 1) (by omega) (by omega)
  have C4_ : (r == 120) = false := by simpa using C4
  have C4_n : (r != 120) = true := by simpa using C4
  have C9_ : (r3 == 47) = true := by rw [C9]; simp
  have C9_n : (r3 != 47) = false := by rw [C9]; simp
  have W10_ : IntKind.i64.wrap (z5 + 1) = z5 + 1 := wr64 W10.1 W10.2
  have C16_ : (r5 == 42) = true := by rw [C16]; simp
  have C16_n : (r5 != 42) = false := by rw [C16]; simp
  have W17_ : IntKind.i64.wrap (z9 + 1) = z9 + 1 := wr64 W17.1 W17.2
  have C20_ : (r6 == 120) = false := by simpa using C20
  have C20_n : (r6 != 120) = true := by simpa using C20
  rw [C7] at K6
  rw [C7] at K8
  rw [C14] at K13
  rw [C14] at K15
  unfold runL fnL
  simp +decide [Tryz.f79, K1, K2, K3, C4_, C4_n, K5, K6, C7, K8, C9_, C9_n, W10_, K11, K12, K13, C14, K15, C16_, C16_n, W17_, K18, K19, C20_, C20_n]
theorem rpa_f4 (K1 : runL (n + 3) 77 [.ptr 0 0] [.box 108 [.lit (.string a0.s), .lit (.int .i64 (a0.at_)), .lit (.bool a0.bad)] false] = some (.tup [], [(0, .box 108 [.lit (.string a0.s), .lit (.int .i64 z), .lit (.bool d)] false)])) (K3 : runL (n + 3) 78 [.ptr 0 0] [.box 108 [.lit (.string a0.s), .lit (.int .i64 z), .lit (.bool d)] false] = some (.lit (.int .u8 r), [(0, .box 108 [.lit (.string a0.s), .lit (.int .i64 z2), .lit (.bool d2)] false)])) (C4 : ¬ r = 120) (K5 : runL (n + 3) 148 [.ptr 0 0, .lit (.bool true), .lit (.int .i64 200)] [.box 108 [.lit (.string a0.s), .lit (.int .i64 z2), .lit (.bool d2)] false] = some (natA r2, [(0, .box 108 [.lit (.string a0.s), .lit (.int .i64 z3), .lit (.bool d3)] false)])) (K6 : runL (n + 3) 77 [.ptr 0 0] [.box 108 [.lit (.string a0.s), .lit (.int .i64 z3), .lit (.bool d3)] false] = some (.tup [], [(0, .box 108 [.lit (.string a0.s), .lit (.int .i64 z4), .lit (.bool d4)] false)])) (C7 : d4 = false) (K8 : runL (n + 3) 78 [.ptr 0 0] [.box 108 [.lit (.string a0.s), .lit (.int .i64 z4), .lit (.bool d4)] false] = some (.lit (.int .u8 r3), [(0, .box 108 [.lit (.string a0.s), .lit (.int .i64 z5), .lit (.bool d5)] false)])) (C9 : r3 = 47) (W10 : InI (z5 + 1)) (K11 : runL (n + 3) 77 [.ptr 0 0] [.box 108 [.lit (.string a0.s), .lit (.int .i64 (z5 + 1)), .lit (.bool d5)] false] = some (.tup [], [(0, .box 108 [.lit (.string a0.s), .lit (.int .i64 z6), .lit (.bool d6)] false)])) (K12 : runL (n + 3) 148 [.ptr 0 0, .lit (.bool false), .lit (.int .i64 200)] [.box 108 [.lit (.string a0.s), .lit (.int .i64 z6), .lit (.bool d6)] false] = some (natA r4, [(0, .box 108 [.lit (.string a0.s), .lit (.int .i64 z7), .lit (.bool d7)] false)])) (K13 : runL (n + 3) 77 [.ptr 0 0] [.box 108 [.lit (.string a0.s), .lit (.int .i64 z7), .lit (.bool d7)] false] = some (.tup [], [(0, .box 108 [.lit (.string a0.s), .lit (.int .i64 z8), .lit (.bool d8)] false)])) (C14 : d8 = false) (K15 : runL (n + 3) 78 [.ptr 0 0] [.box 108 [.lit (.string a0.s), .lit (.int .i64 z8), .lit (.bool d8)] false] = some (.lit (.int .u8 r5), [(0, .box 108 [.lit (.string a0.s), .lit (.int .i64 z9), .lit (.bool d9)] false)])) (C16 : r5 = 42) (W17 : InI (z9 + 1)) (K18 : runL (n + 3) 77 [.ptr 0 0] [.box 108 [.lit (.string a0.s), .lit (.int .i64 (z9 + 1)), .lit (.bool d9)] false] = some (.tup [], [(0, .box 108 [.lit (.string a0.s), .lit (.int .i64 z10), .lit (.bool d10)] false)])) (K19 : runL (n + 3) 78 [.ptr 0 0] [.box 108 [.lit (.string a0.s), .lit (.int .i64 z10), .lit (.bool d10)] false] = some (.lit (.int .u8 r6), [(0, .box 108 [.lit (.string a0.s), .lit (.int .i64 z11), .lit (.bool d11)] false)])) (C20 : r6 = 120) (K21 : runL (n + 3) 149 [.ptr 0 0] [.box 108 [.lit (.string a0.s), .lit (.int .i64 z11), .lit (.bool d11)] false] = some (.lit (.int .i64 r9), [(0, .box 108 [.lit (.string a0.s), .lit (.int .i64 z15), .lit (.bool d15)] false)])) (C22 : d15 = true) :
    runL (n + 4) 79 [.ptr 0 0, formV a1, .lit (.bool a2)] [.box 108 [.lit (.string a0.s), .lit (.int .i64 (a0.at_)), .lit (.bool a0.bad)] false] = some (formV a1, [(0, .box 108 [.lit (.string a0.s), .lit (.int .i64 z15), .lit (.bool d15)] false)]) := by
  have K2 := r_ofq (z := 1) (by omega) (by omega)
  have C4_ : (r == 120) = false := by simpa using C4
  have C4_n : (r != 120) = true := by simpa using C4
  have C9_ : (r3 == 47) = true := by rw [C9]; simp
  have C9_n : (r3 != 47) = false := by rw [C9]; simp
  have W10_ : IntKind.i64.wrap (z5 + 1) = z5 + 1 := wr64 W10.1 W10.2
  have C16_ : (r5 == 42) = true := by rw [C16]; simp
  have C16_n : (r5 != 42) = false := by rw [C16]; simp
  have W17_ : IntKind.i64.wrap (z9 + 1) = z9 + 1 := wr64 W17.1 W17.2
  have C20_ : (r6 == 120) = true := by rw [C20]; simp
  have C20_n : (r6 != 120) = false := by rw [C20]; simp
  rw [C7] at K6
  rw [C7] at K8
  rw [C14] at K13
  rw [C14] at K15
  rw [C22] at K21
  unfold runL fnL
  simp +decide [Tryz.f79, K1, K2, K3, C4_, C4_n, K5, K6, C7, K8, C9_, C9_n, W10_, K11, K12, K13, C14, K15, C16_, C16_n, W17_, K18, K19, C20_, C20_n, K21, C22]
theorem rpa_f5 (K1 : runL (n + 3) 77 [.ptr 0 0] [.box 108 [.lit (.string a0.s), .lit (.int .i64 (a0.at_)), .lit (.bool a0.bad)] false] = some (.tup [], [(0, .box 108 [.lit (.string a0.s), .lit (.int .i64 z), .lit (.bool d)] false)])) (K3 : runL (n + 3) 78 [.ptr 0 0] [.box 108 [.lit (.string a0.s), .lit (.int .i64 z), .lit (.bool d)] false] = some (.lit (.int .u8 r), [(0, .box 108 [.lit (.string a0.s), .lit (.int .i64 z2), .lit (.bool d2)] false)])) (C4 : ¬ r = 120) (K5 : runL (n + 3) 148 [.ptr 0 0, .lit (.bool true), .lit (.int .i64 200)] [.box 108 [.lit (.string a0.s), .lit (.int .i64 z2), .lit (.bool d2)] false] = some (natA r2, [(0, .box 108 [.lit (.string a0.s), .lit (.int .i64 z3), .lit (.bool d3)] false)])) (K6 : runL (n + 3) 77 [.ptr 0 0] [.box 108 [.lit (.string a0.s), .lit (.int .i64 z3), .lit (.bool d3)] false] = some (.tup [], [(0, .box 108 [.lit (.string a0.s), .lit (.int .i64 z4), .lit (.bool d4)] false)])) (C7 : d4 = false) (K8 : runL (n + 3) 78 [.ptr 0 0] [.box 108 [.lit (.string a0.s), .lit (.int .i64 z4), .lit (.bool d4)] false] = some (.lit (.int .u8 r3), [(0, .box 108 [.lit (.string a0.s), .lit (.int .i64 z5), .lit (.bool d5)] false)])) (C9 : r3 = 47) (W10 : InI (z5 + 1)) (K11 : runL (n + 3) 77 [.ptr 0 0] [.box 108 [.lit (.string a0.s), .lit (.int .i64 (z5 + 1)), .lit (.bool d5)] false] = some (.tup [], [(0, .box 108 [.lit (.string a0.s), .lit (.int .i64 z6), .lit (.bool d6)] false)])) (K12 : runL (n + 3) 148 [.ptr 0 0, .lit (.bool false), .lit (.int .i64 200)] [.box 108 [.lit (.string a0.s), .lit (.int .i64 z6), .lit (.bool d6)] false] = some (natA r4, [(0, .box 108 [.lit (.string a0.s), .lit (.int .i64 z7), .lit (.bool d7)] false)])) (K13 : runL (n + 3) 77 [.ptr 0 0] [.box 108 [.lit (.string a0.s), .lit (.int .i64 z7), .lit (.bool d7)] false] = some (.tup [], [(0, .box 108 [.lit (.string a0.s), .lit (.int .i64 z8), .lit (.bool d8)] false)])) (C14 : d8 = false) (K15 : runL (n + 3) 78 [.ptr 0 0] [.box 108 [.lit (.string a0.s), .lit (.int .i64 z8), .lit (.bool d8)] false] = some (.lit (.int .u8 r5), [(0, .box 108 [.lit (.string a0.s), .lit (.int .i64 z9), .lit (.bool d9)] false)])) (C16 : r5 = 42) (W17 : InI (z9 + 1)) (K18 : runL (n + 3) 77 [.ptr 0 0] [.box 108 [.lit (.string a0.s), .lit (.int .i64 (z9 + 1)), .lit (.bool d9)] false] = some (.tup [], [(0, .box 108 [.lit (.string a0.s), .lit (.int .i64 z10), .lit (.bool d10)] false)])) (K19 : runL (n + 3) 78 [.ptr 0 0] [.box 108 [.lit (.string a0.s), .lit (.int .i64 z10), .lit (.bool d10)] false] = some (.lit (.int .u8 r6), [(0, .box 108 [.lit (.string a0.s), .lit (.int .i64 z11), .lit (.bool d11)] false)])) (C20 : r6 = 120) (K21 : runL (n + 3) 149 [.ptr 0 0] [.box 108 [.lit (.string a0.s), .lit (.int .i64 z11), .lit (.bool d11)] false] = some (.lit (.int .i64 r9), [(0, .box 108 [.lit (.string a0.s), .lit (.int .i64 z15), .lit (.bool d15)] false)])) (C22 : d15 = false) (K23 : run (n + 3) 98 [formV a1, .lit (.int .i64 r9), .agg [.lit (.bool a2), natA r2, natA r4]] = some (formV r10)) :
    runL (n + 4) 79 [.ptr 0 0, formV a1, .lit (.bool a2)] [.box 108 [.lit (.string a0.s), .lit (.int .i64 (a0.at_)), .lit (.bool a0.bad)] false] = some (formV r10, [(0, .box 108 [.lit (.string a0.s), .lit (.int .i64 z15), .lit (.bool d15)] false)]) := by
  have K2 := r_ofq (z := 1) (by omega) (by omega)
  have C4_ : (r == 120) = false := by simpa using C4
  have C4_n : (r != 120) = true := by simpa using C4
  have C9_ : (r3 == 47) = true := by rw [C9]; simp
  have C9_n : (r3 != 47) = false := by rw [C9]; simp
  have W10_ : IntKind.i64.wrap (z5 + 1) = z5 + 1 := wr64 W10.1 W10.2
  have C16_ : (r5 == 42) = true := by rw [C16]; simp
  have C16_n : (r5 != 42) = false := by rw [C16]; simp
  have W17_ : IntKind.i64.wrap (z9 + 1) = z9 + 1 := wr64 W17.1 W17.2
  have C20_ : (r6 == 120) = true := by rw [C20]; simp
  have C20_n : (r6 != 120) = false := by rw [C20]; simp
  simp only [formV] at K23
  rw [C7] at K6
  rw [C7] at K8
  rw [C14] at K13
  rw [C14] at K15
  rw [C22] at K21
  unfold runL fnL
  simp +decide [Tryz.f79, K1, K2, K3, C4_, C4_n, K5, K6, C7, K8, C9_, C9_n, W10_, K11, K12, K13, C14, K15, C16_, C16_n, W17_, K18, K19, C20_, C20_n, K21, C22, K23]
theorem rpa_f7 (K1 : runL (n + 3) 77 [.ptr 0 0] [.box 108 [.lit (.string a0.s), .lit (.int .i64 (a0.at_)), .lit (.bool a0.bad)] false] = some (.tup [], [(0, .box 108 [.lit (.string a0.s), .lit (.int .i64 z), .lit (.bool d)] false)])) (K3 : runL (n + 3) 78 [.ptr 0 0] [.box 108 [.lit (.string a0.s), .lit (.int .i64 z), .lit (.bool d)] false] = some (.lit (.int .u8 r), [(0, .box 108 [.lit (.string a0.s), .lit (.int .i64 z2), .lit (.bool d2)] false)])) (C4 : ¬ r = 120) (K5 : runL (n + 3) 148 [.ptr 0 0, .lit (.bool true), .lit (.int .i64 200)] [.box 108 [.lit (.string a0.s), .lit (.int .i64 z2), .lit (.bool d2)] false] = some (natA r2, [(0, .box 108 [.lit (.string a0.s), .lit (.int .i64 z3), .lit (.bool d3)] false)])) (K6 : runL (n + 3) 77 [.ptr 0 0] [.box 108 [.lit (.string a0.s), .lit (.int .i64 z3), .lit (.bool d3)] false] = some (.tup [], [(0, .box 108 [.lit (.string a0.s), .lit (.int .i64 z4), .lit (.bool d4)] false)])) (C7 : d4 = false) (K8 : runL (n + 3) 78 [.ptr 0 0] [.box 108 [.lit (.string a0.s), .lit (.int .i64 z4), .lit (.bool d4)] false] = some (.lit (.int .u8 r3), [(0, .box 108 [.lit (.string a0.s), .lit (.int .i64 z5), .lit (.bool d5)] false)])) (C9 : ¬ r3 = 47) (C10 : d5 = false) (K11 : runL (n + 3) 78 [.ptr 0 0] [.box 108 [.lit (.string a0.s), .lit (.int .i64 z5), .lit (.bool d5)] false] = some (.lit (.int .u8 r7), [(0, .box 108 [.lit (.string a0.s), .lit (.int .i64 z12), .lit (.bool d12)] false)])) (C12 : ¬ r7 = 42) (B13aH : H a1.2 ≤ 17179869184) (B13b : RawB ((⟨a2, r2, (rawQ (ofQ 1)).l2⟩ : Raw))) :
    runL (n + 4) 79 [.ptr 0 0, formV a1, .lit (.bool a2)] [.box 108 [.lit (.string a0.s), .lit (.int .i64 (a0.at_)), .lit (.bool a0.bad)] false] = some (formV (a1.1, a1.2 + (((⟨a2, r2, (rawQ (ofQ 1)).l2⟩ : Raw)).q)), [(0, .box 108 [.lit (.string a0.s), .lit (.int .i64 z12), .lit (.bool d12)] false)]) := by
  have K2 := r_ofq (z := 1) (by omega) (by omega)
  have C4_ : (r == 120) = false := by simpa using C4
  have C4_n : (r != 120) = true := by simpa using C4
  have C9_ : (r3 == 47) = false := by simpa using C9
  have C9_n : (r3 != 47) = true := by simpa using C9
  have C12_ : (r7 == 42) = false := by simpa using C12
  have C12_n : (r7 != 42) = true := by simpa using C12
  have B13a := rawB_q B13aH
  have K13 := rr_add B13a B13b
  simp only [rawQ_q] at K13
  try dsimp only at K13
  try rw [show natA [] = AV.sl 1 [] from rfl] at K13
  rw [C7] at K6
  rw [C7] at K8
  rw [C10] at K8
  rw [C10] at K11
  unfold runL fnL
  simp +decide [Tryz.f79, K1, K2, K3, C4_, C4_n, K5, K6, C7, K8, C9_, C9_n, C10, K11, C12_, C12_n, K13]
theorem rpa_f8 (K1 : runL (n + 3) 77 [.ptr 0 0] [.box 108 [.lit (.string a0.s), .lit (.int .i64 (a0.at_)), .lit (.bool a0.bad)] false] = some (.tup [], [(0, .box 108 [.lit (.string a0.s), .lit (.int .i64 z), .lit (.bool d)] false)])) (K3 : runL (n + 3) 78 [.ptr 0 0] [.box 108 [.lit (.string a0.s), .lit (.int .i64 z), .lit (.bool d)] false] = some (.lit (.int .u8 r), [(0, .box 108 [.lit (.string a0.s), .lit (.int .i64 z2), .lit (.bool d2)] false)])) (C4 : ¬ r = 120) (K5 : runL (n + 3) 148 [.ptr 0 0, .lit (.bool true), .lit (.int .i64 200)] [.box 108 [.lit (.string a0.s), .lit (.int .i64 z2), .lit (.bool d2)] false] = some (natA r2, [(0, .box 108 [.lit (.string a0.s), .lit (.int .i64 z3), .lit (.bool d3)] false)])) (K6 : runL (n + 3) 77 [.ptr 0 0] [.box 108 [.lit (.string a0.s), .lit (.int .i64 z3), .lit (.bool d3)] false] = some (.tup [], [(0, .box 108 [.lit (.string a0.s), .lit (.int .i64 z4), .lit (.bool d4)] false)])) (C7 : d4 = false) (K8 : runL (n + 3) 78 [.ptr 0 0] [.box 108 [.lit (.string a0.s), .lit (.int .i64 z4), .lit (.bool d4)] false] = some (.lit (.int .u8 r3), [(0, .box 108 [.lit (.string a0.s), .lit (.int .i64 z5), .lit (.bool d5)] false)])) (C9 : ¬ r3 = 47) (C10 : d5 = false) (K11 : runL (n + 3) 78 [.ptr 0 0] [.box 108 [.lit (.string a0.s), .lit (.int .i64 z5), .lit (.bool d5)] false] = some (.lit (.int .u8 r7), [(0, .box 108 [.lit (.string a0.s), .lit (.int .i64 z12), .lit (.bool d12)] false)])) (C12 : r7 = 42) (W13 : InI (z12 + 1)) (K14 : runL (n + 3) 77 [.ptr 0 0] [.box 108 [.lit (.string a0.s), .lit (.int .i64 (z12 + 1)), .lit (.bool d12)] false] = some (.tup [], [(0, .box 108 [.lit (.string a0.s), .lit (.int .i64 z13), .lit (.bool d13)] false)])) (K15 : runL (n + 3) 78 [.ptr 0 0] [.box 108 [.lit (.string a0.s), .lit (.int .i64 z13), .lit (.bool d13)] false] = some (.lit (.int .u8 r8), [(0, .box 108 [.lit (.string a0.s), .lit (.int .i64 z14), .lit (.bool d14)] false)])) (C16 : ¬ r8 = 120) :
    runL (n + 4) 79 [.ptr 0 0, formV a1, .lit (.bool a2)] [.box 108 [.lit (.string a0.s), .lit (.int .i64 (a0.at_)), .lit (.bool a0.bad)] false] = some (formV a1, [(0, .box 108 [.lit (.string a0.s), .lit (.int .i64 z14), .lit (.bool true)] false)]) := by
  have K2 := r_ofq (z := 1) (by omega) (by omega)
  have C4_ : (r == 120) = false := by simpa using C4
  have C4_n : (r != 120) = true := by simpa using C4
  have C9_ : (r3 == 47) = false := by simpa using C9
  have C9_n : (r3 != 47) = true := by simpa using C9
  have C12_ : (r7 == 42) = true := by rw [C12]; simp
  have C12_n : (r7 != 42) = false := by rw [C12]; simp
  have W13_ : IntKind.i64.wrap (z12 + 1) = z12 + 1 := wr64 W13.1 W13.2
  have C16_ : (r8 == 120) = false := by simpa using C16
  have C16_n : (r8 != 120) = true := by simpa using C16
  rw [C7] at K6
  rw [C7] at K8
  rw [C10] at K8
  rw [C10] at K11
  unfold runL fnL
  simp +decide [Tryz.f79, K1, K2, K3, C4_, C4_n, K5, K6, C7, K8, C9_, C9_n, C10, K11, C12_, C12_n, W13_, K14, K15, C16_, C16_n]
theorem rpa_f9 (K1 : runL (n + 3) 77 [.ptr 0 0] [.box 108 [.lit (.string a0.s), .lit (.int .i64 (a0.at_)), .lit (.bool a0.bad)] false] = some (.tup [], [(0, .box 108 [.lit (.string a0.s), .lit (.int .i64 z), .lit (.bool d)] false)])) (K3 : runL (n + 3) 78 [.ptr 0 0] [.box 108 [.lit (.string a0.s), .lit (.int .i64 z), .lit (.bool d)] false] = some (.lit (.int .u8 r), [(0, .box 108 [.lit (.string a0.s), .lit (.int .i64 z2), .lit (.bool d2)] false)])) (C4 : ¬ r = 120) (K5 : runL (n + 3) 148 [.ptr 0 0, .lit (.bool true), .lit (.int .i64 200)] [.box 108 [.lit (.string a0.s), .lit (.int .i64 z2), .lit (.bool d2)] false] = some (natA r2, [(0, .box 108 [.lit (.string a0.s), .lit (.int .i64 z3), .lit (.bool d3)] false)])) (K6 : runL (n + 3) 77 [.ptr 0 0] [.box 108 [.lit (.string a0.s), .lit (.int .i64 z3), .lit (.bool d3)] false] = some (.tup [], [(0, .box 108 [.lit (.string a0.s), .lit (.int .i64 z4), .lit (.bool d4)] false)])) (C7 : d4 = false) (K8 : runL (n + 3) 78 [.ptr 0 0] [.box 108 [.lit (.string a0.s), .lit (.int .i64 z4), .lit (.bool d4)] false] = some (.lit (.int .u8 r3), [(0, .box 108 [.lit (.string a0.s), .lit (.int .i64 z5), .lit (.bool d5)] false)])) (C9 : ¬ r3 = 47) (C10 : d5 = false) (K11 : runL (n + 3) 78 [.ptr 0 0] [.box 108 [.lit (.string a0.s), .lit (.int .i64 z5), .lit (.bool d5)] false] = some (.lit (.int .u8 r7), [(0, .box 108 [.lit (.string a0.s), .lit (.int .i64 z12), .lit (.bool d12)] false)])) (C12 : r7 = 42) (W13 : InI (z12 + 1)) (K14 : runL (n + 3) 77 [.ptr 0 0] [.box 108 [.lit (.string a0.s), .lit (.int .i64 (z12 + 1)), .lit (.bool d12)] false] = some (.tup [], [(0, .box 108 [.lit (.string a0.s), .lit (.int .i64 z13), .lit (.bool d13)] false)])) (K15 : runL (n + 3) 78 [.ptr 0 0] [.box 108 [.lit (.string a0.s), .lit (.int .i64 z13), .lit (.bool d13)] false] = some (.lit (.int .u8 r8), [(0, .box 108 [.lit (.string a0.s), .lit (.int .i64 z14), .lit (.bool d14)] false)])) (C16 : r8 = 120) (K17 : runL (n + 3) 149 [.ptr 0 0] [.box 108 [.lit (.string a0.s), .lit (.int .i64 z14), .lit (.bool d14)] false] = some (.lit (.int .i64 r11), [(0, .box 108 [.lit (.string a0.s), .lit (.int .i64 z16), .lit (.bool d16)] false)])) (C18 : d16 = true) :
    runL (n + 4) 79 [.ptr 0 0, formV a1, .lit (.bool a2)] [.box 108 [.lit (.string a0.s), .lit (.int .i64 (a0.at_)), .lit (.bool a0.bad)] false] = some (formV a1, [(0, .box 108 [.lit (.string a0.s), .lit (.int .i64 z16), .lit (.bool d16)] false)]) := by
  have K2 := r_ofq (z := 1) (by omega) (by omega)
  have C4_ : (r == 120) = false := by simpa using C4
  have C4_n : (r != 120) = true := by simpa using C4
  have C9_ : (r3 == 47) = false := by simpa using C9
  have C9_n : (r3 != 47) = true := by simpa using C9
  have C12_ : (r7 == 42) = true := by rw [C12]; simp
  have C12_n : (r7 != 42) = false := by rw [C12]; simp
  have W13_ : IntKind.i64.wrap (z12 + 1) = z12 + 1 := wr64 W13.1 W13.2
  have C16_ : (r8 == 120) = true := by rw [C16]; simp
  have C16_n : (r8 != 120) = false := by rw [C16]; simp
  rw [C7] at K6
  rw [C7] at K8
  rw [C10] at K8
  rw [C10] at K11
  rw [C18] at K17
  unfold runL fnL
  simp +decide [Tryz.f79, K1, K2, K3, C4_, C4_n, K5, K6, C7, K8, C9_, C9_n, C10, K11, C12_, C12_n, W13_, K14, K15, C16_, C16_n, K17, C18]
theorem rpa_f10 (K1 : runL (n + 3) 77 [.ptr 0 0] [.box 108 [.lit (.string a0.s), .lit (.int .i64 (a0.at_)), .lit (.bool a0.bad)] false] = some (.tup [], [(0, .box 108 [.lit (.string a0.s), .lit (.int .i64 z), .lit (.bool d)] false)])) (K3 : runL (n + 3) 78 [.ptr 0 0] [.box 108 [.lit (.string a0.s), .lit (.int .i64 z), .lit (.bool d)] false] = some (.lit (.int .u8 r), [(0, .box 108 [.lit (.string a0.s), .lit (.int .i64 z2), .lit (.bool d2)] false)])) (C4 : ¬ r = 120) (K5 : runL (n + 3) 148 [.ptr 0 0, .lit (.bool true), .lit (.int .i64 200)] [.box 108 [.lit (.string a0.s), .lit (.int .i64 z2), .lit (.bool d2)] false] = some (natA r2, [(0, .box 108 [.lit (.string a0.s), .lit (.int .i64 z3), .lit (.bool d3)] false)])) (K6 : runL (n + 3) 77 [.ptr 0 0] [.box 108 [.lit (.string a0.s), .lit (.int .i64 z3), .lit (.bool d3)] false] = some (.tup [], [(0, .box 108 [.lit (.string a0.s), .lit (.int .i64 z4), .lit (.bool d4)] false)])) (C7 : d4 = false) (K8 : runL (n + 3) 78 [.ptr 0 0] [.box 108 [.lit (.string a0.s), .lit (.int .i64 z4), .lit (.bool d4)] false] = some (.lit (.int .u8 r3), [(0, .box 108 [.lit (.string a0.s), .lit (.int .i64 z5), .lit (.bool d5)] false)])) (C9 : ¬ r3 = 47) (C10 : d5 = false) (K11 : runL (n + 3) 78 [.ptr 0 0] [.box 108 [.lit (.string a0.s), .lit (.int .i64 z5), .lit (.bool d5)] false] = some (.lit (.int .u8 r7), [(0, .box 108 [.lit (.string a0.s), .lit (.int .i64 z12), .lit (.bool d12)] false)])) (C12 : r7 = 42) (W13 : InI (z12 + 1)) (K14 : runL (n + 3) 77 [.ptr 0 0] [.box 108 [.lit (.string a0.s), .lit (.int .i64 (z12 + 1)), .lit (.bool d12)] false] = some (.tup [], [(0, .box 108 [.lit (.string a0.s), .lit (.int .i64 z13), .lit (.bool d13)] false)])) (K15 : runL (n + 3) 78 [.ptr 0 0] [.box 108 [.lit (.string a0.s), .lit (.int .i64 z13), .lit (.bool d13)] false] = some (.lit (.int .u8 r8), [(0, .box 108 [.lit (.string a0.s), .lit (.int .i64 z14), .lit (.bool d14)] false)])) (C16 : r8 = 120) (K17 : runL (n + 3) 149 [.ptr 0 0] [.box 108 [.lit (.string a0.s), .lit (.int .i64 z14), .lit (.bool d14)] false] = some (.lit (.int .i64 r11), [(0, .box 108 [.lit (.string a0.s), .lit (.int .i64 z16), .lit (.bool d16)] false)])) (C18 : d16 = false) (K19 : run (n + 3) 98 [formV a1, .lit (.int .i64 r11), .agg [.lit (.bool a2), natA r2, natA (rawQ (ofQ 1)).l2]] = some (formV r12)) :
    runL (n + 4) 79 [.ptr 0 0, formV a1, .lit (.bool a2)] [.box 108 [.lit (.string a0.s), .lit (.int .i64 (a0.at_)), .lit (.bool a0.bad)] false] = some (formV r12, [(0, .box 108 [.lit (.string a0.s), .lit (.int .i64 z16), .lit (.bool d16)] false)]) := by
  have K2 := r_ofq (z := 1) (by omega) (by omega)
  have C4_ : (r == 120) = false := by simpa using C4
  have C4_n : (r != 120) = true := by simpa using C4
  have C9_ : (r3 == 47) = false := by simpa using C9
  have C9_n : (r3 != 47) = true := by simpa using C9
  have C12_ : (r7 == 42) = true := by rw [C12]; simp
  have C12_n : (r7 != 42) = false := by rw [C12]; simp
  have W13_ : IntKind.i64.wrap (z12 + 1) = z12 + 1 := wr64 W13.1 W13.2
  have C16_ : (r8 == 120) = true := by rw [C16]; simp
  have C16_n : (r8 != 120) = false := by rw [C16]; simp
  simp only [formV] at K19
  rw [C7] at K6
  rw [C7] at K8
  rw [C10] at K8
  rw [C10] at K11
  rw [C18] at K17
  unfold runL fnL
  simp +decide [Tryz.f79, K1, K2, K3, C4_, C4_n, K5, K6, C7, K8, C9_, C9_n, C10, K11, C12_, C12_n, W13_, K14, K15, C16_, C16_n, K17, C18, K19]
theorem rpa_f11 (K1 : runL (n + 3) 77 [.ptr 0 0] [.box 108 [.lit (.string a0.s), .lit (.int .i64 (a0.at_)), .lit (.bool a0.bad)] false] = some (.tup [], [(0, .box 108 [.lit (.string a0.s), .lit (.int .i64 z), .lit (.bool d)] false)])) (K3 : runL (n + 3) 78 [.ptr 0 0] [.box 108 [.lit (.string a0.s), .lit (.int .i64 z), .lit (.bool d)] false] = some (.lit (.int .u8 r), [(0, .box 108 [.lit (.string a0.s), .lit (.int .i64 z2), .lit (.bool d2)] false)])) (C4 : ¬ r = 120) (K5 : runL (n + 3) 148 [.ptr 0 0, .lit (.bool true), .lit (.int .i64 200)] [.box 108 [.lit (.string a0.s), .lit (.int .i64 z2), .lit (.bool d2)] false] = some (natA r2, [(0, .box 108 [.lit (.string a0.s), .lit (.int .i64 z3), .lit (.bool d3)] false)])) (K6 : runL (n + 3) 77 [.ptr 0 0] [.box 108 [.lit (.string a0.s), .lit (.int .i64 z3), .lit (.bool d3)] false] = some (.tup [], [(0, .box 108 [.lit (.string a0.s), .lit (.int .i64 z4), .lit (.bool d4)] false)])) (C7 : d4 = true) :
    runL (n + 4) 79 [.ptr 0 0, formV a1, .lit (.bool a2)] [.box 108 [.lit (.string a0.s), .lit (.int .i64 (a0.at_)), .lit (.bool a0.bad)] false] = some (formV a1, [(0, .box 108 [.lit (.string a0.s), .lit (.int .i64 z4), .lit (.bool d4)] false)]) := by
  have K2 := r_ofq (z := 1) (by omega) (by omega)
  have C4_ : (r == 120) = false := by simpa using C4
  have C4_n : (r != 120) = true := by simpa using C4
  rw [C7] at K6
  unfold runL fnL
  simp +decide [Tryz.f79, K1, K2, K3, C4_, C4_n, K5, K6, C7]
theorem rpa_f12 (K1 : runL (n + 3) 77 [.ptr 0 0] [.box 108 [.lit (.string a0.s), .lit (.int .i64 (a0.at_)), .lit (.bool a0.bad)] false] = some (.tup [], [(0, .box 108 [.lit (.string a0.s), .lit (.int .i64 z), .lit (.bool d)] false)])) (K3 : runL (n + 3) 78 [.ptr 0 0] [.box 108 [.lit (.string a0.s), .lit (.int .i64 z), .lit (.bool d)] false] = some (.lit (.int .u8 r), [(0, .box 108 [.lit (.string a0.s), .lit (.int .i64 z2), .lit (.bool d2)] false)])) (C4 : r = 120) (K5 : runL (n + 3) 149 [.ptr 0 0] [.box 108 [.lit (.string a0.s), .lit (.int .i64 z2), .lit (.bool d2)] false] = some (.lit (.int .i64 r13), [(0, .box 108 [.lit (.string a0.s), .lit (.int .i64 z17), .lit (.bool d17)] false)])) (C6 : d17 = true) :
    runL (n + 4) 79 [.ptr 0 0, formV a1, .lit (.bool a2)] [.box 108 [.lit (.string a0.s), .lit (.int .i64 (a0.at_)), .lit (.bool a0.bad)] false] = some (formV a1, [(0, .box 108 [.lit (.string a0.s), .lit (.int .i64 z17), .lit (.bool d17)] false)]) := by
  have K2 := r_ofq (z := 1) (by omega) (by omega)
  have C4_ : (r == 120) = true := by rw [C4]; simp
  have C4_n : (r != 120) = false := by rw [C4]; simp
  rw [C6] at K5
  unfold runL fnL
  simp +decide [Tryz.f79, K1, K2, K3, C4_, C4_n, K5, C6]
theorem rpa_f13 (K1 : runL (n + 3) 77 [.ptr 0 0] [.box 108 [.lit (.string a0.s), .lit (.int .i64 (a0.at_)), .lit (.bool a0.bad)] false] = some (.tup [], [(0, .box 108 [.lit (.string a0.s), .lit (.int .i64 z), .lit (.bool d)] false)])) (K3 : runL (n + 3) 78 [.ptr 0 0] [.box 108 [.lit (.string a0.s), .lit (.int .i64 z), .lit (.bool d)] false] = some (.lit (.int .u8 r), [(0, .box 108 [.lit (.string a0.s), .lit (.int .i64 z2), .lit (.bool d2)] false)])) (C4 : r = 120) (K5 : runL (n + 3) 149 [.ptr 0 0] [.box 108 [.lit (.string a0.s), .lit (.int .i64 z2), .lit (.bool d2)] false] = some (.lit (.int .i64 r13), [(0, .box 108 [.lit (.string a0.s), .lit (.int .i64 z17), .lit (.bool d17)] false)])) (C6 : d17 = false) (K7 : run (n + 3) 98 [formV a1, .lit (.int .i64 r13), .agg [.lit (.bool a2), natA (rawQ (ofQ 1)).l1, natA (rawQ (ofQ 1)).l2]] = some (formV r14)) :
    runL (n + 4) 79 [.ptr 0 0, formV a1, .lit (.bool a2)] [.box 108 [.lit (.string a0.s), .lit (.int .i64 (a0.at_)), .lit (.bool a0.bad)] false] = some (formV r14, [(0, .box 108 [.lit (.string a0.s), .lit (.int .i64 z17), .lit (.bool d17)] false)]) := by
  have K2 := r_ofq (z := 1) (by omega) (by omega)
  have C4_ : (r == 120) = true := by rw [C4]; simp
  have C4_n : (r != 120) = false := by rw [C4]; simp
  simp only [formV] at K7
  rw [C6] at K5
  unfold runL fnL
  simp +decide [Tryz.f79, K1, K2, K3, C4_, C4_n, K5, C6, K7]
end
end Go.Proofs.YtjpoanaoaeaneaaGreatDoor
