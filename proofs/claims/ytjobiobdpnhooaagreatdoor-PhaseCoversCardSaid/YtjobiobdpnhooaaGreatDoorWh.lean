/- Walks: relucertref19.Valid. -/
import Derived.Test.YtjobiobdpnhooaaGreatDoorUe
set_option linter.all false
set_option linter.all false
set_option maxRecDepth 100000
set_option maxHeartbeats 6400000
namespace Go.Proofs.YtjobiobdpnhooaaGreatDoor
open Go.RowKit

/-! relucertref19.Valid, level 2 -/
noncomputable def vr19_C6 : Code := (loopsOf (bodyOf Tryz.f56)).getD 0 .skip
def vr19_h6 (a0 : TRegion) (a1 : Int) (i_6 : Nat) : St :=
  ⟨[(1, .lit (.int .i64 a1)), (2, .ptr 0 0), (5, .lit (.int .i64 (i_6 : Int)))],
   [(0, some (.box 36 [.sl 3 (a0.Lo.map ratC), .sl 3 (a0.Hi.map ratC), .sl 4 (a0.Rows.map formC)] false))], 1⟩
def vr19_o6a  : St :=
  ⟨[(4, .lit (.bool false))],
   [], 0⟩
def vr19_o6b  : St :=
  ⟨[(4, .any)],
   [], 0⟩
theorem vr19_r6_1 {n : Nat} {a0 : TRegion} {a1 : Int} {i_6 : Nat} {x5 : Rat} {x6 : Rat} (C1 : (i_6 : Int) < a1) (E2 : a0.Lo[i_6]? = some x5) (E3 : a0.Hi[i_6]? = some x6) (B4a : H x5 ≤ 17179869184) (B4b : H x6 ≤ 17179869184) (C5 : ¬ 0 < sgR (x5 - x6)) (W6 : InI ((i_6 : Int) + 1)) :
    Cont 0 (exec Tryz.prog (tab (n + 2)) 0 66 (livesOf 56) big vr19_C6) (livesOf 56 6) (vr19_h6 a0 a1 i_6) (vr19_h6 a0 a1 (i_6 + 1)) := by
  obtain ⟨EL2, EG2⟩ := List.getElem?_eq_some_iff.1 E2
  obtain ⟨EL3, EG3⟩ := List.getElem?_eq_some_iff.1 E3
  have K4 := r_cmp (p := x5) (q := x6) B4a B4b
  have W6_ : IntKind.i64.wrap ((i_6 : Int) + 1) = (i_6 : Int) + 1 := wr64 W6.1 W6.2
  unfold Cont
  simp +decide [vr19_h6, loopsOf, Tryz.f56, vr19_C6, C1, EL2, EG2, E2, EL3, EG3, E3, K4, C5, W6_]
theorem vr19_x6_1 {n : Nat} {a0 : TRegion} {a1 : Int} {i_6 : Nat} {x5 : Rat} {x6 : Rat} (C1 : (i_6 : Int) < a1) (E2 : a0.Lo[i_6]? = some x5) (E3 : a0.Hi[i_6]? = some x6) (B4a : H x5 ≤ 17179869184) (B4b : H x6 ≤ 17179869184) (C5 : 0 < sgR (x5 - x6)) :
    Leave 0 (exec Tryz.prog (tab (n + 2)) 0 66 (livesOf 56) big vr19_C6) (livesOf 56 (outOf 6)) (vr19_h6 a0 a1 i_6) (.ret) (vr19_o6a ) := by
  obtain ⟨EL2, EG2⟩ := List.getElem?_eq_some_iff.1 E2
  obtain ⟨EL3, EG3⟩ := List.getElem?_eq_some_iff.1 E3
  have K4 := r_cmp (p := x5) (q := x6) B4a B4b
  unfold Leave
  simp +decide [vr19_h6, loopsOf, Tryz.f56, vr19_o6a, vr19_C6, C1, EL2, EG2, E2, EL3, EG3, E3, K4, C5]
theorem vr19_x6_2 {n : Nat} {a0 : TRegion} {a1 : Int} {i_6 : Nat} (C1 : ¬ (i_6 : Int) < a1) :
    Leave 0 (exec Tryz.prog (tab (n + 2)) 0 66 (livesOf 56) big vr19_C6) (livesOf 56 (outOf 6)) (vr19_h6 a0 a1 i_6) (.exit 0) (vr19_o6b ) := by
  unfold Leave
  simp +decide [vr19_h6, loopsOf, Tryz.f56, vr19_o6b, vr19_C6, C1]
theorem vr19_f1 {n : Nat} {a0 : TRegion} {a1 : Int} (C1 : a1 < 1) :
    run (n + 2) 56 [regionV a0, .lit (.int .i64 a1)] = some (.lit (.bool false)) := by
  unfold run fnP
  simp +decide [Tryz.f56, C1]
theorem vr19_f2 {n : Nat} {a0 : TRegion} {a1 : Int} (C1 : ¬ a1 < 1) (C2 : 256 < a1) :
    run (n + 2) 56 [regionV a0, .lit (.int .i64 a1)] = some (.lit (.bool false)) := by
  unfold run fnP
  simp +decide [Tryz.f56, C1, C2]
theorem vr19_f3 {n : Nat} {a0 : TRegion} {a1 : Int} (C1 : ¬ a1 < 1) (C2 : ¬ 256 < a1) (C3 : ¬ (a0.Lo.length : Int) = a1) :
    run (n + 2) 56 [regionV a0, .lit (.int .i64 a1)] = some (.lit (.bool false)) := by
  have C3_ : ((a0.Lo.length : Int) == a1) = false := by simpa using C3
  have C3_n : ((a0.Lo.length : Int) != a1) = true := by simpa using C3
  unfold run fnP
  simp +decide [Tryz.f56, C1, C2, C3_, C3_n]
theorem vr19_f4 {n : Nat} {a0 : TRegion} {a1 : Int} (C1 : ¬ a1 < 1) (C2 : ¬ 256 < a1) (C3 : (a0.Lo.length : Int) = a1) (C4 : ¬ (a0.Hi.length : Int) = a1) :
    run (n + 2) 56 [regionV a0, .lit (.int .i64 a1)] = some (.lit (.bool false)) := by
  have C3_ : ((a0.Lo.length : Int) == a1) = true := by rw [C3]; simp
  have C3_n : ((a0.Lo.length : Int) != a1) = false := by rw [C3]; simp
  have C4_ : ((a0.Hi.length : Int) == a1) = false := by simpa using C4
  have C4_n : ((a0.Hi.length : Int) != a1) = true := by simpa using C4
  unfold run fnP
  simp +decide [Tryz.f56, C1, C2, C3_, C3_n, C4_, C4_n]
theorem vr19_f5 {n : Nat} {a0 : TRegion} {a1 : Int} (C1 : ¬ a1 < 1) (C2 : ¬ 256 < a1) (C3 : (a0.Lo.length : Int) = a1) (C4 : (a0.Hi.length : Int) = a1) (C5 : 256 < (a0.Rows.length : Int)) :
    run (n + 2) 56 [regionV a0, .lit (.int .i64 a1)] = some (.lit (.bool false)) := by
  have C3_ : ((a0.Lo.length : Int) == a1) = true := by rw [C3]; simp
  have C3_n : ((a0.Lo.length : Int) != a1) = false := by rw [C3]; simp
  have C4_ : ((a0.Hi.length : Int) == a1) = true := by rw [C4]; simp
  have C4_n : ((a0.Hi.length : Int) != a1) = false := by rw [C4]; simp
  have C5_ : 256 < a0.Rows.length := by omega
  unfold run fnP
  simp +decide [Tryz.f56, C1, C2, C3_, C3_n, C4_, C4_n, C5, C5_]
theorem vr19_f6 {n : Nat} {a0 : TRegion} {a1 : Int} {r : Bool} (C1 : ¬ a1 < 1) (C2 : ¬ 256 < a1) (C3 : (a0.Lo.length : Int) = a1) (C4 : (a0.Hi.length : Int) = a1) (C5 : ¬ 256 < (a0.Rows.length : Int)) (K6 : run (n + 1) 87 [.sl 3 (a0.Lo.map ratC)] = some (.lit (.bool r))) (C7 : r = false) :
    run (n + 2) 56 [regionV a0, .lit (.int .i64 a1)] = some (.lit (.bool false)) := by
  have C3_ : ((a0.Lo.length : Int) == a1) = true := by rw [C3]; simp
  have C3_n : ((a0.Lo.length : Int) != a1) = false := by rw [C3]; simp
  have C4_ : ((a0.Hi.length : Int) == a1) = true := by rw [C4]; simp
  have C4_n : ((a0.Hi.length : Int) != a1) = false := by rw [C4]; simp
  have C5_ : ¬ 256 < a0.Rows.length := by omega
  unfold run fnP
  simp +decide [Tryz.f56, C1, C2, C3_, C3_n, C4_, C4_n, C5, C5_, K6, C7]
theorem vr19_f7 {n : Nat} {a0 : TRegion} {a1 : Int} {r : Bool} {r2 : Bool} (C1 : ¬ a1 < 1) (C2 : ¬ 256 < a1) (C3 : (a0.Lo.length : Int) = a1) (C4 : (a0.Hi.length : Int) = a1) (C5 : ¬ 256 < (a0.Rows.length : Int)) (K6 : run (n + 1) 87 [.sl 3 (a0.Lo.map ratC)] = some (.lit (.bool r))) (C7 : r = true) (K8 : run (n + 1) 87 [.sl 3 (a0.Hi.map ratC)] = some (.lit (.bool r2))) (C9 : r2 = false) :
    run (n + 2) 56 [regionV a0, .lit (.int .i64 a1)] = some (.lit (.bool false)) := by
  have C3_ : ((a0.Lo.length : Int) == a1) = true := by rw [C3]; simp
  have C3_n : ((a0.Lo.length : Int) != a1) = false := by rw [C3]; simp
  have C4_ : ((a0.Hi.length : Int) == a1) = true := by rw [C4]; simp
  have C4_n : ((a0.Hi.length : Int) != a1) = false := by rw [C4]; simp
  have C5_ : ¬ 256 < a0.Rows.length := by omega
  unfold run fnP
  simp +decide [Tryz.f56, C1, C2, C3_, C3_n, C4_, C4_n, C5, C5_, K6, C7, K8, C9]
theorem vr19_f8 {n : Nat} {a0 : TRegion} {a1 : Int} {r : Bool} {r2 : Bool} {r3 : Bool} (C1 : ¬ a1 < 1) (C2 : ¬ 256 < a1) (C3 : (a0.Lo.length : Int) = a1) (C4 : (a0.Hi.length : Int) = a1) (C5 : ¬ 256 < (a0.Rows.length : Int)) (K6 : run (n + 1) 87 [.sl 3 (a0.Lo.map ratC)] = some (.lit (.bool r))) (C7 : r = true) (K8 : run (n + 1) 87 [.sl 3 (a0.Hi.map ratC)] = some (.lit (.bool r2))) (C9 : r2 = true) (K10 : run (n + 1) 86 [.sl 4 (a0.Rows.map formC), .lit (.int .i64 a1)] = some (.lit (.bool r3))) (C11 : r3 = false) :
    run (n + 2) 56 [regionV a0, .lit (.int .i64 a1)] = some (.lit (.bool false)) := by
  have C3_ : ((a0.Lo.length : Int) == a1) = true := by rw [C3]; simp
  have C3_n : ((a0.Lo.length : Int) != a1) = false := by rw [C3]; simp
  have C4_ : ((a0.Hi.length : Int) == a1) = true := by rw [C4]; simp
  have C4_n : ((a0.Hi.length : Int) != a1) = false := by rw [C4]; simp
  have C5_ : ¬ 256 < a0.Rows.length := by omega
  unfold run fnP
  simp +decide [Tryz.f56, C1, C2, C3_, C3_n, C4_, C4_n, C5, C5_, K6, C7, K8, C9, K10, C11]
theorem vr19_f9 {n : Nat} {a0 : TRegion} {a1 : Int} {r : Bool} {r2 : Bool} {r3 : Bool} (C1 : ¬ a1 < 1) (C2 : ¬ 256 < a1) (C3 : (a0.Lo.length : Int) = a1) (C4 : (a0.Hi.length : Int) = a1) (C5 : ¬ 256 < (a0.Rows.length : Int)) (K6 : run (n + 1) 87 [.sl 3 (a0.Lo.map ratC)] = some (.lit (.bool r))) (C7 : r = true) (K8 : run (n + 1) 87 [.sl 3 (a0.Hi.map ratC)] = some (.lit (.bool r2))) (C9 : r2 = true) (K10 : run (n + 1) 86 [.sl 4 (a0.Rows.map formC), .lit (.int .i64 a1)] = some (.lit (.bool r3))) (C11 : r3 = true) (L12 : loopG Tryz.prog (tab (n + 2)) 0 66 (livesOf 56) 6 vr19_C6 (vr19_h6 a0 a1 0) = some (.ret, vr19_o6a )) :
    run (n + 2) 56 [regionV a0, .lit (.int .i64 a1)] = some (.lit (.bool false)) := by
  have C3_ : ((a0.Lo.length : Int) == a1) = true := by rw [C3]; simp
  have C3_n : ((a0.Lo.length : Int) != a1) = false := by rw [C3]; simp
  have C4_ : ((a0.Hi.length : Int) == a1) = true := by rw [C4]; simp
  have C4_n : ((a0.Hi.length : Int) != a1) = false := by rw [C4]; simp
  have C5_ : ¬ 256 < a0.Rows.length := by omega
  unfold run fnP
  simp +decide [Tryz.f56, C1, C2, C3_, C3_n, C4_, C4_n, C5, C5_, K6, C7, K8, C9, K10, C11]
  rw [loopX_G (C' := vr19_C6) (e := (vr19_h6 a0 a1 0)) ?_ ?_, L12]
  rotate_left
  · kernel_rfl
  · simp +decide [vr19_h6, C1, C2, C3_, C3_n, C4_, C4_n, C5, C5_, K6, C7, K8, C9, K10, C11]
  simp +decide [vr19_o6a, C1, C2, C3_, C3_n, C4_, C4_n, C5, C5_, K6, C7, K8, C9, K10, C11]
theorem vr19_f10 {n : Nat} {a0 : TRegion} {a1 : Int} {r : Bool} {r2 : Bool} {r3 : Bool} (C1 : ¬ a1 < 1) (C2 : ¬ 256 < a1) (C3 : (a0.Lo.length : Int) = a1) (C4 : (a0.Hi.length : Int) = a1) (C5 : ¬ 256 < (a0.Rows.length : Int)) (K6 : run (n + 1) 87 [.sl 3 (a0.Lo.map ratC)] = some (.lit (.bool r))) (C7 : r = true) (K8 : run (n + 1) 87 [.sl 3 (a0.Hi.map ratC)] = some (.lit (.bool r2))) (C9 : r2 = true) (K10 : run (n + 1) 86 [.sl 4 (a0.Rows.map formC), .lit (.int .i64 a1)] = some (.lit (.bool r3))) (C11 : r3 = true) (L12 : loopG Tryz.prog (tab (n + 2)) 0 66 (livesOf 56) 6 vr19_C6 (vr19_h6 a0 a1 0) = some (.exit 0, vr19_o6b )) :
    run (n + 2) 56 [regionV a0, .lit (.int .i64 a1)] = some (.lit (.bool true)) := by
  have C3_ : ((a0.Lo.length : Int) == a1) = true := by rw [C3]; simp
  have C3_n : ((a0.Lo.length : Int) != a1) = false := by rw [C3]; simp
  have C4_ : ((a0.Hi.length : Int) == a1) = true := by rw [C4]; simp
  have C4_n : ((a0.Hi.length : Int) != a1) = false := by rw [C4]; simp
  have C5_ : ¬ 256 < a0.Rows.length := by omega
  unfold run fnP
  simp +decide [Tryz.f56, C1, C2, C3_, C3_n, C4_, C4_n, C5, C5_, K6, C7, K8, C9, K10, C11]
  rw [loopX_G (C' := vr19_C6) (e := (vr19_h6 a0 a1 0)) ?_ ?_, L12]
  rotate_left
  · kernel_rfl
  · simp +decide [vr19_h6, C1, C2, C3_, C3_n, C4_, C4_n, C5, C5_, K6, C7, K8, C9, K10, C11]
  simp +decide [vr19_o6b, C1, C2, C3_, C3_n, C4_, C4_n, C5, C5_, K6, C7, K8, C9, K10, C11]
end Go.Proofs.YtjobiobdpnhooaaGreatDoor
