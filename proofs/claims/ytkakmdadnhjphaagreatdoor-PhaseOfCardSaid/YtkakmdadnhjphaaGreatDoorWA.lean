/- Walks: relucertref15.Feed.Next, relucertref15.Feed.Number, relucertref07.Var, relucertref07.Eval. Walks: relucertref07.plus. Walks: relucertref07.Add, relucertref07.Scale. Walks: relucertref15.Feed.Form, relucertref15.Feed.Graph. -/
import Derived.Test.YtkakmdadnhjphaaGreatDoorUA
set_option linter.all false
set_option linter.all false
set_option maxRecDepth 100000
set_option maxHeartbeats 6400000
namespace Go.Proofs.YtkakmdadnhjphaaGreatDoor
open Go.RowKit

/-! (*relucertref15.Feed).Next, level 0 -/
theorem nx_f1 {n : Nat} {a0 : TFeed} {a1 : Int} (C1 : (a0.Raw.length : Int) ≤ a0.At) :
    runL n 61 [.ptr 0 0, .lit (.int .i64 a1)] [.box 192 [.sl 1 (a0.Raw.map intU8C), .lit (.int .i64 (a0.At))] false] = some (.lit (.int .i64 0), [(0, .box 192 [.sl 1 (a0.Raw.map intU8C), .lit (.int .i64 (a0.At))] false)]) := by
  unfold runL fnL
  simp +decide [Tryz.f61, C1]
theorem nx_f2 {n : Nat} {a0 : TFeed} {a1 : Int} {x : Int} (C1 : ¬ (a0.Raw.length : Int) ≤ a0.At) (W2 : InI (a0.At + 1)) (W3 : InI (a0.At)) (E4 : a0.Raw[a0.At.toNat]? = some x) (Z4 : 0 ≤ a0.At) (W5 : InI (x)) (N6 : a1 ≠ 0) :
    runL n 61 [.ptr 0 0, .lit (.int .i64 a1)] [.box 192 [.sl 1 (a0.Raw.map intU8C), .lit (.int .i64 (a0.At))] false] = some (.lit (.int .i64 (x.tmod a1)), [(0, .box 192 [.sl 1 (a0.Raw.map intU8C), .lit (.int .i64 (a0.At + 1))] false)]) := by
  have W2_ : IntKind.i64.wrap (a0.At + 1) = a0.At + 1 := wr64 W2.1 W2.2
  have W3_ : IntKind.i64.wrap (a0.At) = a0.At := wr64 W3.1 W3.2
  obtain ⟨EL4, EG4⟩ := List.getElem?_eq_some_iff.1 E4
  have W5_ : IntKind.i64.wrap (x) = x := wr64 W5.1 W5.2
  unfold runL fnL
  simp +decide [Tryz.f61, C1, W2_, W3_, EL4, EG4, E4, Z4, W5_, N6]
/-! (*relucertref15.Feed).Number, level 1 -/
theorem nu_f1 {n : Nat} {a0 : TFeed} {r : Int} {z : Int} {r2 : Int} {z2 : Int} (K1 : runL n 61 [.ptr 0 0, .lit (.int .i64 9)] [.box 192 [.sl 1 (a0.Raw.map intU8C), .lit (.int .i64 (a0.At))] false] = some (.lit (.int .i64 r), [(0, .box 192 [.sl 1 (a0.Raw.map intU8C), .lit (.int .i64 z)] false)])) (W2 : InI (r - 4)) (K3 : runL n 61 [.ptr 0 0, .lit (.int .i64 4)] [.box 192 [.sl 1 (a0.Raw.map intU8C), .lit (.int .i64 z)] false] = some (.lit (.int .i64 r2), [(0, .box 192 [.sl 1 (a0.Raw.map intU8C), .lit (.int .i64 z2)] false)])) (C4 : r2 = 0) (W5 : InI (r - 4)) :
    runL (n + 1) 62 [.ptr 0 0] [.box 192 [.sl 1 (a0.Raw.map intU8C), .lit (.int .i64 (a0.At))] false] = some (ratV (fracQ (r - 4) 1), [(0, .box 192 [.sl 1 (a0.Raw.map intU8C), .lit (.int .i64 z2)] false)]) := by
  have W2_ : IntKind.i64.wrap (r - 4) = r - 4 := wr64 W2.1 W2.2
  have K5 := r_frac (x := r - 4) (y := 1) W5 (by omega) (by omega)
  unfold runL fnL
  simp +decide [Tryz.f62, K1, W2_, K3, C4, K5]
theorem nu_f2 {n : Nat} {a0 : TFeed} {r : Int} {z : Int} {r2 : Int} {z2 : Int} (K1 : runL n 61 [.ptr 0 0, .lit (.int .i64 9)] [.box 192 [.sl 1 (a0.Raw.map intU8C), .lit (.int .i64 (a0.At))] false] = some (.lit (.int .i64 r), [(0, .box 192 [.sl 1 (a0.Raw.map intU8C), .lit (.int .i64 z)] false)])) (W2 : InI (r - 4)) (K3 : runL n 61 [.ptr 0 0, .lit (.int .i64 4)] [.box 192 [.sl 1 (a0.Raw.map intU8C), .lit (.int .i64 z)] false] = some (.lit (.int .i64 r2), [(0, .box 192 [.sl 1 (a0.Raw.map intU8C), .lit (.int .i64 z2)] false)])) (C4 : r2 ≠ 0) (C5 : r2 = 1) (W6 : InI (r - 4)) :
    runL (n + 1) 62 [.ptr 0 0] [.box 192 [.sl 1 (a0.Raw.map intU8C), .lit (.int .i64 (a0.At))] false] = some (ratV (fracQ (r - 4) 1), [(0, .box 192 [.sl 1 (a0.Raw.map intU8C), .lit (.int .i64 z2)] false)]) := by
  have W2_ : IntKind.i64.wrap (r - 4) = r - 4 := wr64 W2.1 W2.2
  have K6 := r_frac (x := r - 4) (y := 1) W6 (by omega) (by omega)
  unfold runL fnL
  simp +decide [Tryz.f62, K1, W2_, K3, C5, K6]
theorem nu_f3 {n : Nat} {a0 : TFeed} {r : Int} {z : Int} {r2 : Int} {z2 : Int} (K1 : runL n 61 [.ptr 0 0, .lit (.int .i64 9)] [.box 192 [.sl 1 (a0.Raw.map intU8C), .lit (.int .i64 (a0.At))] false] = some (.lit (.int .i64 r), [(0, .box 192 [.sl 1 (a0.Raw.map intU8C), .lit (.int .i64 z)] false)])) (W2 : InI (r - 4)) (K3 : runL n 61 [.ptr 0 0, .lit (.int .i64 4)] [.box 192 [.sl 1 (a0.Raw.map intU8C), .lit (.int .i64 z)] false] = some (.lit (.int .i64 r2), [(0, .box 192 [.sl 1 (a0.Raw.map intU8C), .lit (.int .i64 z2)] false)])) (C4 : r2 ≠ 0) (C5 : r2 ≠ 1) (C6 : r2 = 2) (W7 : InI (r - 4)) :
    runL (n + 1) 62 [.ptr 0 0] [.box 192 [.sl 1 (a0.Raw.map intU8C), .lit (.int .i64 (a0.At))] false] = some (ratV (fracQ (r - 4) 2), [(0, .box 192 [.sl 1 (a0.Raw.map intU8C), .lit (.int .i64 z2)] false)]) := by
  have W2_ : IntKind.i64.wrap (r - 4) = r - 4 := wr64 W2.1 W2.2
  have K7 := r_frac (x := r - 4) (y := 2) W7 (by omega) (by omega)
  unfold runL fnL
  simp +decide [Tryz.f62, K1, W2_, K3, C6, K7]
theorem nu_f4 {n : Nat} {a0 : TFeed} {r : Int} {z : Int} {r2 : Int} {z2 : Int} (K1 : runL n 61 [.ptr 0 0, .lit (.int .i64 9)] [.box 192 [.sl 1 (a0.Raw.map intU8C), .lit (.int .i64 (a0.At))] false] = some (.lit (.int .i64 r), [(0, .box 192 [.sl 1 (a0.Raw.map intU8C), .lit (.int .i64 z)] false)])) (W2 : InI (r - 4)) (K3 : runL n 61 [.ptr 0 0, .lit (.int .i64 4)] [.box 192 [.sl 1 (a0.Raw.map intU8C), .lit (.int .i64 z)] false] = some (.lit (.int .i64 r2), [(0, .box 192 [.sl 1 (a0.Raw.map intU8C), .lit (.int .i64 z2)] false)])) (C4 : r2 ≠ 0) (C5 : r2 ≠ 1) (C6 : r2 ≠ 2) (C7 : r2 = 3) (W8 : InI (r - 4)) :
    runL (n + 1) 62 [.ptr 0 0] [.box 192 [.sl 1 (a0.Raw.map intU8C), .lit (.int .i64 (a0.At))] false] = some (ratV (fracQ (r - 4) 4), [(0, .box 192 [.sl 1 (a0.Raw.map intU8C), .lit (.int .i64 z2)] false)]) := by
  have W2_ : IntKind.i64.wrap (r - 4) = r - 4 := wr64 W2.1 W2.2
  have K8 := r_frac (x := r - 4) (y := 4) W8 (by omega) (by omega)
  unfold runL fnL
  simp +decide [Tryz.f62, K1, W2_, K3, C7, K8]
/-! relucertref07.Var, level 0 -/
theorem vr_f1 {n : Nat} {a0 : Int}  :
    run n 110 [.lit (.int .i64 a0)] = some (.agg [.sl 4 [[.lit (.int .i64 a0), .lit (.bool (rawQ (ofQ 1)).s), natA (rawQ (ofQ 1)).l1, natA (rawQ (ofQ 1)).l2]], .lit (.bool false), .sl 1 [], .sl 1 []]) := by
  have K1 := r_ofq (z := 1) (by omega) (by omega)
  unfold run fnP
  simp +decide [Tryz.f110, K1]
/-! relucertref07.Eval, level 0 -/
end Go.Proofs.YtkakmdadnhjphaaGreatDoor
set_option linter.all false
set_option maxRecDepth 100000
set_option maxHeartbeats 6400000
namespace Go.Proofs.YtkakmdadnhjphaaGreatDoor
open Go.RowKit

/-! relucertref07.plus, level 1 -/
noncomputable def pl_C4 : Code := (loopsOf (bodyOf Tryz.f183)).getD 0 .skip
def pl_h4 (a0 : Form) (a1 : Int) (a2 : Rat) (out_4 : List (Int × Rat)) (d_4 : Bool) (i_4 : Nat) : St :=
  ⟨[(1, .lit (.int .i64 a1)), (3, .ptr 0 0), (5, .ptr 1 0), (6, .ptr 2 0), (7, .own 3 out_4.length), (8, .lit (.bool d_4)), (9, .lit (.int .i64 (i_4 : Int)))],
   [(0, some (.box 43 [.sl 4 (a0.1.map termC), .lit (.bool (rawQ a0.2).s), natA (rawQ a0.2).l1, natA (rawQ a0.2).l2] false)),
    (1, some (.box 28 [.lit (.bool (rawQ a2).s), natA (rawQ a2).l1, natA (rawQ a2).l2] false)),
    (2, some (.box 43 [.nl 4, .lit (.bool false), .nl 1, .nl 1] false)),
    (3, some (.row 119 4 (out_4.map termC) 0))], 4⟩
def pl_o4a (a0 : Form) (a1 : Int) (a2 : Rat) (out_4 : List (Int × Rat)) (d_4 : Bool) : St :=
  ⟨[(1, .lit (.int .i64 a1)), (3, .ptr 0 0), (5, .ptr 1 0), (6, .ptr 2 0), (7, .own 3 out_4.length), (8, .lit (.bool d_4))],
   [(0, some (.box 43 [.sl 4 (a0.1.map termC), .lit (.bool (rawQ a0.2).s), natA (rawQ a0.2).l1, natA (rawQ a0.2).l2] false)),
    (1, some (.box 28 [.lit (.bool (rawQ a2).s), natA (rawQ a2).l1, natA (rawQ a2).l2] false)),
    (2, some (.box 43 [.nl 4, .lit (.bool false), .nl 1, .nl 1] false)),
    (3, some (.row 119 4 (out_4.map termC) 0))], 4⟩
theorem pl_r4_1 {n : Nat} {a0 : Form} {a1 : Int} {a2 : Rat} {i_4 : Nat} {v3 : Int} {q3 : Rat} {out_4 : List (Int × Rat)} {d_4 : Bool} (C1 : (i_4 : Int) < (a0.1.length : Int)) (E2 : a0.1[i_4]? = some (v3, q3)) (C3 : v3 = a1) (B4a : H q3 ≤ 17179869184) (B4b : H a2 ≤ 17179869184) (K5 : runL n 179 [.own 0 out_4.length, .agg [.lit (.int .i64 v3), .lit (.bool (rawQ (q3 + a2)).s), natA (rawQ (q3 + a2)).l1, natA (rawQ (q3 + a2)).l2]] [.row 119 4 (out_4.map termC) 0] = some (.own 0 out_4.length, [(0, .row 119 4 (out_4.map termC) 0), (0, .row 119 4 (out_4.map termC) 0)])) (W6 : InI ((i_4 : Int) + 1)) :
    Cont 0 (exec Tryz.prog (tab (n + 1)) 0 61 (livesOf 183) big pl_C4) (livesOf 183 4) (pl_h4 a0 a1 a2 out_4 d_4 i_4) (pl_h4 a0 a1 a2 out_4 true (i_4 + 1)) := by
  have C1_ : i_4 < a0.1.length := by omega
  obtain ⟨EL2, EG2⟩ := List.getElem?_eq_some_iff.1 E2
  have C3_ : (v3 == a1) = true := by rw [C3]; simp
  have C3_n : (v3 != a1) = false := by rw [C3]; simp
  have K4 := r_add (p := q3) (q := a2) B4a B4b
  have W6_ : IntKind.i64.wrap ((i_4 : Int) + 1) = (i_4 : Int) + 1 := wr64 W6.1 W6.2
  unfold Cont
  simp +decide [pl_h4, loopsOf, Tryz.f183, pl_C4, C1, C1_, EL2, EG2, E2, C3_, C3_n, K4, K5, W6_]
theorem pl_r4_2 {n : Nat} {a0 : Form} {a1 : Int} {a2 : Rat} {i_4 : Nat} {v3 : Int} {q3 : Rat} {out_4 : List (Int × Rat)} {R12 : List (Int × Rat)} {d_4 : Bool} (C1 : (i_4 : Int) < (a0.1.length : Int)) (E2 : a0.1[i_4]? = some (v3, q3)) (C3 : v3 = a1) (B4a : H q3 ≤ 17179869184) (B4b : H a2 ≤ 17179869184) (K5 : runL n 179 [.own 0 out_4.length, .agg [.lit (.int .i64 v3), .lit (.bool (rawQ (q3 + a2)).s), natA (rawQ (q3 + a2)).l1, natA (rawQ (q3 + a2)).l2]] [.row 119 4 (out_4.map termC) 0] = some (.own 3 R12.length, [(3, .row 119 4 (R12.map termC) 0)])) (W6 : InI ((i_4 : Int) + 1)) :
    Cont 0 (exec Tryz.prog (tab (n + 1)) 0 61 (livesOf 183) big pl_C4) (livesOf 183 4) (pl_h4 a0 a1 a2 out_4 d_4 i_4) (pl_h4 a0 a1 a2 R12 true (i_4 + 1)) := by
  have C1_ : i_4 < a0.1.length := by omega
  obtain ⟨EL2, EG2⟩ := List.getElem?_eq_some_iff.1 E2
  have C3_ : (v3 == a1) = true := by rw [C3]; simp
  have C3_n : (v3 != a1) = false := by rw [C3]; simp
  have K4 := r_add (p := q3) (q := a2) B4a B4b
  have W6_ : IntKind.i64.wrap ((i_4 : Int) + 1) = (i_4 : Int) + 1 := wr64 W6.1 W6.2
  unfold Cont
  simp +decide [pl_h4, loopsOf, Tryz.f183, pl_C4, C1, C1_, EL2, EG2, E2, C3_, C3_n, K4, K5, W6_]
theorem pl_r4_4 {n : Nat} {a0 : Form} {a1 : Int} {a2 : Rat} {i_4 : Nat} {v3 : Int} {q3 : Rat} {d_4 : Bool} {out_4 : List (Int × Rat)} {R14 : List (Int × Rat)} (C1 : (i_4 : Int) < (a0.1.length : Int)) (E2 : a0.1[i_4]? = some (v3, q3)) (C3 : ¬ v3 = a1) (C4 : d_4 = false) (C5 : a1 < v3) (B6a : H a2 ≤ 17179869184) (K7 : runL n 179 [.own 0 out_4.length, .agg [.lit (.int .i64 a1), .lit (.bool (rawQ a2).s), natA (rawQ a2).l1, natA (rawQ a2).l2]] [.row 119 4 (out_4.map termC) 0] = some (.own 0 out_4.length, [(0, .row 119 4 (out_4.map termC) 0), (0, .row 119 4 (out_4.map termC) 0)])) (K8 : runL n 179 [.own 0 out_4.length, .agg [.lit (.int .i64 v3), .lit (.bool (rawQ q3).s), natA (rawQ q3).l1, natA (rawQ q3).l2]] [.row 119 4 (out_4.map termC) 0] = some (.own 3 R14.length, [(3, .row 119 4 (R14.map termC) 0)])) (W9 : InI ((i_4 : Int) + 1)) :
    Cont 0 (exec Tryz.prog (tab (n + 1)) 0 61 (livesOf 183) big pl_C4) (livesOf 183 4) (pl_h4 a0 a1 a2 out_4 d_4 i_4) (pl_h4 a0 a1 a2 R14 true (i_4 + 1)) := by
  have C1_ : i_4 < a0.1.length := by omega
  obtain ⟨EL2, EG2⟩ := List.getElem?_eq_some_iff.1 E2
  have C3_ : (v3 == a1) = false := by simpa using C3
  have C3_n : (v3 != a1) = true := by simpa using C3
  have K6 := r_canon (p := a2) B6a
  have W9_ : IntKind.i64.wrap ((i_4 : Int) + 1) = (i_4 : Int) + 1 := wr64 W9.1 W9.2
  unfold Cont
  simp +decide [pl_h4, loopsOf, Tryz.f183, pl_C4, C1, C1_, EL2, EG2, E2, C3_, C3_n, C4, C5, K6, K7, K8, W9_]
theorem pl_r4_6 {n : Nat} {a0 : Form} {a1 : Int} {a2 : Rat} {i_4 : Nat} {v3 : Int} {q3 : Rat} {d_4 : Bool} {out_4 : List (Int × Rat)} {R13 : List (Int × Rat)} {R15 : List (Int × Rat)} (C1 : (i_4 : Int) < (a0.1.length : Int)) (E2 : a0.1[i_4]? = some (v3, q3)) (C3 : ¬ v3 = a1) (C4 : d_4 = false) (C5 : a1 < v3) (B6a : H a2 ≤ 17179869184) (K7 : runL n 179 [.own 0 out_4.length, .agg [.lit (.int .i64 a1), .lit (.bool (rawQ a2).s), natA (rawQ a2).l1, natA (rawQ a2).l2]] [.row 119 4 (out_4.map termC) 0] = some (.own 3 R13.length, [(3, .row 119 4 (R13.map termC) 0)])) (K8 : runL n 179 [.own 0 R13.length, .agg [.lit (.int .i64 v3), .lit (.bool (rawQ q3).s), natA (rawQ q3).l1, natA (rawQ q3).l2]] [.row 119 4 (R13.map termC) 0] = some (.own 3 R15.length, [(3, .row 119 4 (R15.map termC) 0)])) (W9 : InI ((i_4 : Int) + 1)) :
    Cont 0 (exec Tryz.prog (tab (n + 1)) 0 61 (livesOf 183) big pl_C4) (livesOf 183 4) (pl_h4 a0 a1 a2 out_4 d_4 i_4) (pl_h4 a0 a1 a2 R15 true (i_4 + 1)) := by
  have C1_ : i_4 < a0.1.length := by omega
  obtain ⟨EL2, EG2⟩ := List.getElem?_eq_some_iff.1 E2
  have C3_ : (v3 == a1) = false := by simpa using C3
  have C3_n : (v3 != a1) = true := by simpa using C3
  have K6 := r_canon (p := a2) B6a
  have W9_ : IntKind.i64.wrap ((i_4 : Int) + 1) = (i_4 : Int) + 1 := wr64 W9.1 W9.2
  unfold Cont
  simp +decide [pl_h4, loopsOf, Tryz.f183, pl_C4, C1, C1_, EL2, EG2, E2, C3_, C3_n, C4, C5, K6, K7, K8, W9_]
theorem pl_r4_8 {n : Nat} {a0 : Form} {a1 : Int} {a2 : Rat} {i_4 : Nat} {v3 : Int} {q3 : Rat} {d_4 : Bool} {out_4 : List (Int × Rat)} {R16 : List (Int × Rat)} (C1 : (i_4 : Int) < (a0.1.length : Int)) (E2 : a0.1[i_4]? = some (v3, q3)) (C3 : ¬ v3 = a1) (C4 : d_4 = false) (C5 : ¬ a1 < v3) (K6 : runL n 179 [.own 0 out_4.length, .agg [.lit (.int .i64 v3), .lit (.bool (rawQ q3).s), natA (rawQ q3).l1, natA (rawQ q3).l2]] [.row 119 4 (out_4.map termC) 0] = some (.own 3 R16.length, [(3, .row 119 4 (R16.map termC) 0)])) (W7 : InI ((i_4 : Int) + 1)) :
    Cont 0 (exec Tryz.prog (tab (n + 1)) 0 61 (livesOf 183) big pl_C4) (livesOf 183 4) (pl_h4 a0 a1 a2 out_4 d_4 i_4) (pl_h4 a0 a1 a2 R16 d_4 (i_4 + 1)) := by
  have C1_ : i_4 < a0.1.length := by omega
  obtain ⟨EL2, EG2⟩ := List.getElem?_eq_some_iff.1 E2
  have C3_ : (v3 == a1) = false := by simpa using C3
  have C3_n : (v3 != a1) = true := by simpa using C3
  have W7_ : IntKind.i64.wrap ((i_4 : Int) + 1) = (i_4 : Int) + 1 := wr64 W7.1 W7.2
  unfold Cont
  simp +decide [pl_h4, loopsOf, Tryz.f183, pl_C4, C1, C1_, EL2, EG2, E2, C3_, C3_n, C4, C5, K6, W7_]
theorem pl_r4_10 {n : Nat} {a0 : Form} {a1 : Int} {a2 : Rat} {i_4 : Nat} {v3 : Int} {q3 : Rat} {d_4 : Bool} {out_4 : List (Int × Rat)} {R17 : List (Int × Rat)} (C1 : (i_4 : Int) < (a0.1.length : Int)) (E2 : a0.1[i_4]? = some (v3, q3)) (C3 : ¬ v3 = a1) (C4 : d_4 = true) (K5 : runL n 179 [.own 0 out_4.length, .agg [.lit (.int .i64 v3), .lit (.bool (rawQ q3).s), natA (rawQ q3).l1, natA (rawQ q3).l2]] [.row 119 4 (out_4.map termC) 0] = some (.own 3 R17.length, [(3, .row 119 4 (R17.map termC) 0)])) (W6 : InI ((i_4 : Int) + 1)) :
    Cont 0 (exec Tryz.prog (tab (n + 1)) 0 61 (livesOf 183) big pl_C4) (livesOf 183 4) (pl_h4 a0 a1 a2 out_4 d_4 i_4) (pl_h4 a0 a1 a2 R17 d_4 (i_4 + 1)) := by
  have C1_ : i_4 < a0.1.length := by omega
  obtain ⟨EL2, EG2⟩ := List.getElem?_eq_some_iff.1 E2
  have C3_ : (v3 == a1) = false := by simpa using C3
  have C3_n : (v3 != a1) = true := by simpa using C3
  have W6_ : IntKind.i64.wrap ((i_4 : Int) + 1) = (i_4 : Int) + 1 := wr64 W6.1 W6.2
  unfold Cont
  simp +decide [pl_h4, loopsOf, Tryz.f183, pl_C4, C1, C1_, EL2, EG2, E2, C3_, C3_n, C4, K5, W6_]
theorem pl_x4_1 {n : Nat} {a0 : Form} {a1 : Int} {a2 : Rat} {i_4 : Nat} {out_4 : List (Int × Rat)} {d_4 : Bool} (C1 : ¬ (i_4 : Int) < (a0.1.length : Int)) :
    Leave 0 (exec Tryz.prog (tab (n + 1)) 0 61 (livesOf 183) big pl_C4) (livesOf 183 (outOf 4)) (pl_h4 a0 a1 a2 out_4 d_4 i_4) (.exit 0) (pl_o4a a0 a1 a2 out_4 d_4) := by
  have C1_ : ¬ i_4 < a0.1.length := by omega
  unfold Leave
  simp +decide [pl_h4, loopsOf, Tryz.f183, pl_o4a, pl_C4, C1, C1_]
theorem pl_f1 {n : Nat} {a0 : Form} {a1 : Int} {a2 : Rat} {out_4 : List (Int × Rat)} {d_4 : Bool} (L1 : loopG Tryz.prog (tab (n + 1)) 0 61 (livesOf 183) 4 pl_C4 (pl_h4 a0 a1 a2 [] false 0) = some (.exit 0, pl_o4a a0 a1 a2 out_4 d_4)) (C2 : d_4 = false) (B3a : H a2 ≤ 17179869184) (K4 : runL n 179 [.own 0 out_4.length, .agg [.lit (.int .i64 a1), .lit (.bool (rawQ a2).s), natA (rawQ a2).l1, natA (rawQ a2).l2]] [.row 119 4 (out_4.map termC) 0] = some (.own 0 out_4.length, [(0, .row 119 4 (out_4.map termC) 0), (0, .row 119 4 (out_4.map termC) 0)])) :
    run (n + 1) 183 [formV a0, .lit (.int .i64 a1), ratV a2] = some (formV (out_4, a0.2)) := by
  have K3 := r_canon (p := a2) B3a
  unfold run fnP
  simp +decide [Tryz.f183, C2, K3, K4]
  rw [loopX_G (C' := pl_C4) (e := (pl_h4 a0 a1 a2 [] false 0)) ?_ ?_, L1]
  rotate_left
  · kernel_rfl
  · simp +decide [pl_h4, C2, K3, K4]
  simp +decide [pl_o4a, C2, K3, K4]
theorem pl_f2 {n : Nat} {a0 : Form} {a1 : Int} {a2 : Rat} {out_4 : List (Int × Rat)} {d_4 : Bool} {R18 : List (Int × Rat)} (L1 : loopG Tryz.prog (tab (n + 1)) 0 61 (livesOf 183) 4 pl_C4 (pl_h4 a0 a1 a2 [] false 0) = some (.exit 0, pl_o4a a0 a1 a2 out_4 d_4)) (C2 : d_4 = false) (B3a : H a2 ≤ 17179869184) (K4 : runL n 179 [.own 0 out_4.length, .agg [.lit (.int .i64 a1), .lit (.bool (rawQ a2).s), natA (rawQ a2).l1, natA (rawQ a2).l2]] [.row 119 4 (out_4.map termC) 0] = some (.own 3 R18.length, [(3, .row 119 4 (R18.map termC) 0)])) :
    run (n + 1) 183 [formV a0, .lit (.int .i64 a1), ratV a2] = some (formV (R18, a0.2)) := by
  have K3 := r_canon (p := a2) B3a
  unfold run fnP
  simp +decide [Tryz.f183, C2, K3, K4]
  rw [loopX_G (C' := pl_C4) (e := (pl_h4 a0 a1 a2 [] false 0)) ?_ ?_, L1]
  rotate_left
  · kernel_rfl
  · simp +decide [pl_h4, C2, K3, K4]
  simp +decide [pl_o4a, C2, K3, K4]
theorem pl_f3 {n : Nat} {a0 : Form} {a1 : Int} {a2 : Rat} {out_4 : List (Int × Rat)} {d_4 : Bool} (L1 : loopG Tryz.prog (tab (n + 1)) 0 61 (livesOf 183) 4 pl_C4 (pl_h4 a0 a1 a2 [] false 0) = some (.exit 0, pl_o4a a0 a1 a2 out_4 d_4)) (C2 : d_4 = true) :
    run (n + 1) 183 [formV a0, .lit (.int .i64 a1), ratV a2] = some (formV (out_4, a0.2)) := by
  unfold run fnP
  simp +decide [Tryz.f183, C2]
  rw [loopX_G (C' := pl_C4) (e := (pl_h4 a0 a1 a2 [] false 0)) ?_ ?_, L1]
  rotate_left
  · kernel_rfl
  · simp +decide [pl_h4, C2]
  simp +decide [pl_o4a, C2]
end Go.Proofs.YtkakmdadnhjphaaGreatDoor
set_option linter.all false
set_option maxRecDepth 100000
set_option maxHeartbeats 6400000
namespace Go.Proofs.YtkakmdadnhjphaaGreatDoor
open Go.RowKit

/-! relucertref07.Add, level 2 -/
noncomputable def ad_C3 : Code := (loopsOf (bodyOf Tryz.f98)).getD 0 .skip
def ad_h3 (a1 : Form) (i_3 : Nat) (l_3 : List (Int × Rat)) (s_3 : Rat) : St :=
  ⟨[(3, .ptr 0 0), (4, .ptr 1 0), (5, .ptr 2 0), (6, .lit (.int .i64 (i_3 : Int)))],
   [(0, some (.box 43 [.sl 4 (a1.1.map termC), .lit (.bool (rawQ a1.2).s), natA (rawQ a1.2).l1, natA (rawQ a1.2).l2] false)),
    (1, some (.box 43 [.nl 4, .lit (.bool false), .nl 1, .nl 1] false)),
    (2, some (.box 43 [.sl 4 (l_3.map termC), .lit (.bool (rawQ s_3).s), natA (rawQ s_3).l1, natA (rawQ s_3).l2] false))], 3⟩
def ad_o3a (l_3 : List (Int × Rat)) (s_3 : Rat) : St :=
  ⟨[(4, .ptr 0 0), (5, .ptr 1 0)],
   [(0, some (.box 43 [.nl 4, .lit (.bool false), .nl 1, .nl 1] false)),
    (1, some (.box 43 [.sl 4 (l_3.map termC), .lit (.bool (rawQ s_3).s), natA (rawQ s_3).l1, natA (rawQ s_3).l2] false))], 2⟩
theorem ad_r3_1 {n : Nat} {a1 : Form} {i_3 : Nat} {v3 : Int} {q3 : Rat} {l_3 : List (Int × Rat)} {s_3 : Rat} {r3 : Form} (C1 : (i_3 : Int) < (a1.1.length : Int)) (E2 : a1.1[i_3]? = some (v3, q3)) (K3 : run (n + 1) 183 [formV (l_3, s_3), .lit (.int .i64 v3), ratV q3] = some (formV r3)) (W4 : InI ((i_3 : Int) + 1)) :
    Cont 0 (exec Tryz.prog (tab (n + 2)) 0 43 (livesOf 98) big ad_C3) (livesOf 98 3) (ad_h3 a1 i_3 l_3 s_3) (ad_h3 a1 (i_3 + 1) r3.1 r3.2) := by
  have C1_ : i_3 < a1.1.length := by omega
  obtain ⟨EL2, EG2⟩ := List.getElem?_eq_some_iff.1 E2
  simp only [ratV, formV] at K3
  have W4_ : IntKind.i64.wrap ((i_3 : Int) + 1) = (i_3 : Int) + 1 := wr64 W4.1 W4.2
  unfold Cont
  simp +decide [ad_h3, loopsOf, Tryz.f98, ad_C3, C1, C1_, EL2, EG2, E2, K3, W4_]
theorem ad_x3_1 {n : Nat} {a1 : Form} {i_3 : Nat} {l_3 : List (Int × Rat)} {s_3 : Rat} (C1 : ¬ (i_3 : Int) < (a1.1.length : Int)) :
    Leave 0 (exec Tryz.prog (tab (n + 2)) 0 43 (livesOf 98) big ad_C3) (livesOf 98 (outOf 3)) (ad_h3 a1 i_3 l_3 s_3) (.exit 0) (ad_o3a l_3 s_3) := by
  have C1_ : ¬ i_3 < a1.1.length := by omega
  unfold Leave
  simp +decide [ad_h3, loopsOf, Tryz.f98, ad_o3a, ad_C3, C1, C1_]
theorem ad_f1 {n : Nat} {a0 : Form} {a1 : Form} {l_3 : List (Int × Rat)} {s_3 : Rat} (B1a : H a0.2 ≤ 17179869184) (B1b : H a1.2 ≤ 17179869184) (L2 : loopG Tryz.prog (tab (n + 2)) 0 43 (livesOf 98) 3 ad_C3 (ad_h3 a1 0 a0.1 (a0.2 + a1.2)) = some (.exit 0, ad_o3a l_3 s_3)) (M3 : l_3.length ≤ 100000000) :
    run (n + 2) 98 [formV a0, formV a1] = some (formV (l_3, s_3)) := by
  have K1 := r_add (p := a0.2) (q := a1.2) B1a B1b
  have M3_ : ∀ b, b ≤ 10000 → roomy (l_3.length) b = true := fun b hb => roomy_s M3 hb
  unfold run fnP
  simp +decide [Tryz.f98, K1, M3_]
  rw [loopX_G (C' := ad_C3) (e := (ad_h3 a1 0 a0.1 (a0.2 + a1.2))) ?_ ?_, L2]
  rotate_left
  · kernel_rfl
  · simp +decide [ad_h3, K1, M3_]
  simp +decide [ad_o3a, K1, M3_]
/-! relucertref07.Scale, level 1 -/
noncomputable def sc_C3 : Code := (loopsOf (bodyOf Tryz.f89)).getD 0 .skip
def sc_h3 (a0 : Form) (a1 : Rat) (i_3 : Nat) (out_3 : List (Int × Rat)) : St :=
  ⟨[(2, .ptr 0 0), (3, .ptr 1 0), (4, .ptr 2 0), (5, .ptr 3 0), (6, .lit (.int .i64 (i_3 : Int)))],
   [(0, some (.box 43 [.sl 4 (a0.1.map termC), .lit (.bool (rawQ a0.2).s), natA (rawQ a0.2).l1, natA (rawQ a0.2).l2] false)),
    (1, some (.box 28 [.lit (.bool (rawQ a1).s), natA (rawQ a1).l1, natA (rawQ a1).l2] false)),
    (2, some (.box 43 [.nl 4, .lit (.bool false), .nl 1, .nl 1] false)),
    (3, some (.box 43 [.own 4 out_3.length, .lit (.bool (rawQ (a0.2 * a1)).s), natA (rawQ (a0.2 * a1)).l1, natA (rawQ (a0.2 * a1)).l2] false)),
    (4, some (.row 119 4 (out_3.map termC) 0))], 5⟩
def sc_o3a (a0 : Form) (a1 : Rat) (out_3 : List (Int × Rat)) : St :=
  ⟨[(4, .ptr 0 0), (5, .ptr 1 0)],
   [(0, some (.box 43 [.nl 4, .lit (.bool false), .nl 1, .nl 1] false)),
    (1, some (.box 43 [.own 2 out_3.length, .lit (.bool (rawQ (a0.2 * a1)).s), natA (rawQ (a0.2 * a1)).l1, natA (rawQ (a0.2 * a1)).l2] false)),
    (2, some (.row 119 4 (out_3.map termC) 0))], 3⟩
theorem sc_r3_1 {n : Nat} {a0 : Form} {a1 : Rat} {i_3 : Nat} {v3 : Int} {q3 : Rat} {out_3 : List (Int × Rat)} (C1 : (i_3 : Int) < (a0.1.length : Int)) (E2 : a0.1[i_3]? = some (v3, q3)) (B3a : H q3 ≤ 17179869184) (B3b : H a1 ≤ 17179869184) (K4 : runL n 179 [.own 0 out_3.length, .agg [.lit (.int .i64 v3), .lit (.bool (rawQ (q3 * a1)).s), natA (rawQ (q3 * a1)).l1, natA (rawQ (q3 * a1)).l2]] [.row 119 4 (out_3.map termC) 0] = some (.own 0 out_3.length, [(0, .row 119 4 (out_3.map termC) 0), (0, .row 119 4 (out_3.map termC) 0)])) (W5 : InI ((i_3 : Int) + 1)) :
    Cont 0 (exec Tryz.prog (tab (n + 1)) 0 39 (livesOf 89) big sc_C3) (livesOf 89 3) (sc_h3 a0 a1 i_3 out_3) (sc_h3 a0 a1 (i_3 + 1) out_3) := by
  have C1_ : i_3 < a0.1.length := by omega
  obtain ⟨EL2, EG2⟩ := List.getElem?_eq_some_iff.1 E2
  have K3 := r_mul (p := q3) (q := a1) B3a B3b
  have W5_ : IntKind.i64.wrap ((i_3 : Int) + 1) = (i_3 : Int) + 1 := wr64 W5.1 W5.2
  unfold Cont
  simp +decide [sc_h3, loopsOf, Tryz.f89, sc_C3, C1, C1_, EL2, EG2, E2, K3, K4, W5_]
theorem sc_r3_2 {n : Nat} {a0 : Form} {a1 : Rat} {i_3 : Nat} {v3 : Int} {q3 : Rat} {out_3 : List (Int × Rat)} {R3 : List (Int × Rat)} (C1 : (i_3 : Int) < (a0.1.length : Int)) (E2 : a0.1[i_3]? = some (v3, q3)) (B3a : H q3 ≤ 17179869184) (B3b : H a1 ≤ 17179869184) (K4 : runL n 179 [.own 0 out_3.length, .agg [.lit (.int .i64 v3), .lit (.bool (rawQ (q3 * a1)).s), natA (rawQ (q3 * a1)).l1, natA (rawQ (q3 * a1)).l2]] [.row 119 4 (out_3.map termC) 0] = some (.own 3 R3.length, [(3, .row 119 4 (R3.map termC) 0)])) (W5 : InI ((i_3 : Int) + 1)) :
    Cont 0 (exec Tryz.prog (tab (n + 1)) 0 39 (livesOf 89) big sc_C3) (livesOf 89 3) (sc_h3 a0 a1 i_3 out_3) (sc_h3 a0 a1 (i_3 + 1) R3) := by
  have C1_ : i_3 < a0.1.length := by omega
  obtain ⟨EL2, EG2⟩ := List.getElem?_eq_some_iff.1 E2
  have K3 := r_mul (p := q3) (q := a1) B3a B3b
  have W5_ : IntKind.i64.wrap ((i_3 : Int) + 1) = (i_3 : Int) + 1 := wr64 W5.1 W5.2
  unfold Cont
  simp +decide [sc_h3, loopsOf, Tryz.f89, sc_C3, C1, C1_, EL2, EG2, E2, K3, K4, W5_]
theorem sc_x3_1 {n : Nat} {a0 : Form} {a1 : Rat} {i_3 : Nat} {out_3 : List (Int × Rat)} (C1 : ¬ (i_3 : Int) < (a0.1.length : Int)) :
    Leave 0 (exec Tryz.prog (tab (n + 1)) 0 39 (livesOf 89) big sc_C3) (livesOf 89 (outOf 3)) (sc_h3 a0 a1 i_3 out_3) (.exit 0) (sc_o3a a0 a1 out_3) := by
  have C1_ : ¬ i_3 < a0.1.length := by omega
  unfold Leave
  simp +decide [sc_h3, loopsOf, Tryz.f89, sc_o3a, sc_C3, C1, C1_]
theorem sc_f1 {n : Nat} {a0 : Form} {a1 : Rat} {out_3 : List (Int × Rat)} (B1a : H a0.2 ≤ 17179869184) (B1b : H a1 ≤ 17179869184) (L2 : loopG Tryz.prog (tab (n + 1)) 0 39 (livesOf 89) 3 sc_C3 (sc_h3 a0 a1 0 []) = some (.exit 0, sc_o3a a0 a1 out_3)) :
    run (n + 1) 89 [formV a0, ratV a1] = some (formV (out_3, a0.2 * a1)) := by
  have K1 := r_mul (p := a0.2) (q := a1) B1a B1b
  unfold run fnP
  simp +decide [Tryz.f89, K1]
  rw [loopX_G (C' := sc_C3) (e := (sc_h3 a0 a1 0 [])) ?_ ?_, L2]
  rotate_left
  · kernel_rfl
  · simp +decide [sc_h3, K1]
  simp +decide [sc_o3a, K1]
end Go.Proofs.YtkakmdadnhjphaaGreatDoor
set_option linter.all false
set_option maxRecDepth 100000
set_option maxHeartbeats 6400000
namespace Go.Proofs.YtkakmdadnhjphaaGreatDoor
open Go.RowKit

/-! (*relucertref15.Feed).Form, level 3 -/
noncomputable def fo_C3 : Code := (loopsOf (bodyOf Tryz.f146)).getD 0 .skip
def fo_h3 (a0 : TFeed) (a1 : Int) (i_3 : Nat) (i2_3 : Int) (l_3 : List (Int × Rat)) (s_3 : Rat) : St :=
  ⟨[(0, .ptr 0 0), (1, .lit (.int .i64 a1)), (4, .ptr 1 0), (5, .ptr 2 0), (6, .lit (.int .i64 (i_3 : Int)))],
   [(0, some (.box 192 [.sl 1 (a0.Raw.map intU8C), .lit (.int .i64 i2_3)] false)),
    (1, some (.box 43 [.nl 4, .lit (.bool false), .nl 1, .nl 1] false)),
    (2, some (.box 43 [.sl 4 (l_3.map termC), .lit (.bool (rawQ s_3).s), natA (rawQ s_3).l1, natA (rawQ s_3).l2] false))], 3⟩
def fo_o3a (a0 : TFeed) (i2_3 : Int) (l_3 : List (Int × Rat)) (s_3 : Rat) : St :=
  ⟨[(4, .ptr 1 0), (5, .ptr 2 0)],
   [(0, some (.box 192 [.sl 1 (a0.Raw.map intU8C), .lit (.int .i64 i2_3)] false)),
    (1, some (.box 43 [.nl 4, .lit (.bool false), .nl 1, .nl 1] false)),
    (2, some (.box 43 [.sl 4 (l_3.map termC), .lit (.bool (rawQ s_3).s), natA (rawQ s_3).l1, natA (rawQ s_3).l2] false))], 3⟩
theorem fo_r3_1 {n : Nat} {a0 : TFeed} {a1 : Int} {i_3 : Nat} {i2_3 : Int} {r12 : Int} {z6 : Int} {r13 : Form} {r14 : Rat} {z7 : Int} {r15 : Form} {l_3 : List (Int × Rat)} {s_3 : Rat} {r16 : Form} (C1 : (i_3 : Int) < a1) (K2 : runL (n + 2) 61 [.ptr 0 0, .lit (.int .i64 3)] [.box 192 [.sl 1 (a0.Raw.map intU8C), .lit (.int .i64 i2_3)] false] = some (.lit (.int .i64 r12), [(0, .box 192 [.sl 1 (a0.Raw.map intU8C), .lit (.int .i64 z6)] false)])) (C3 : 0 < r12) (K4 : run (n + 2) 110 [.lit (.int .i64 (i_3 : Int))] = some (formV r13)) (K5 : runL (n + 2) 62 [.ptr 0 0] [.box 192 [.sl 1 (a0.Raw.map intU8C), .lit (.int .i64 z6)] false] = some (ratV r14, [(0, .box 192 [.sl 1 (a0.Raw.map intU8C), .lit (.int .i64 z7)] false)])) (K6 : run (n + 2) 89 [formV r13, ratV r14] = some (formV r15)) (K7 : run (n + 2) 98 [formV (l_3, s_3), formV r15] = some (formV r16)) (W8 : InI ((i_3 : Int) + 1)) :
    Cont 1 (exec Tryz.prog (tab (n + 3)) 1 26 (livesOf 146) big fo_C3) (livesOf 146 3) (fo_h3 a0 a1 i_3 i2_3 l_3 s_3) (fo_h3 a0 a1 (i_3 + 1) z7 r16.1 r16.2) := by
  simp only [formV] at K4
  simp only [ratV] at K5
  simp only [ratV, formV] at K6
  simp only [formV] at K7
  have W8_ : IntKind.i64.wrap ((i_3 : Int) + 1) = (i_3 : Int) + 1 := wr64 W8.1 W8.2
  unfold Cont
  simp +decide [fo_h3, loopsOf, Tryz.f146, fo_C3, C1, K2, C3, K4, K5, K6, K7, W8_]
theorem fo_r3_2 {n : Nat} {a0 : TFeed} {a1 : Int} {i_3 : Nat} {i2_3 : Int} {r12 : Int} {z6 : Int} {l_3 : List (Int × Rat)} {s_3 : Rat} (C1 : (i_3 : Int) < a1) (K2 : runL (n + 2) 61 [.ptr 0 0, .lit (.int .i64 3)] [.box 192 [.sl 1 (a0.Raw.map intU8C), .lit (.int .i64 i2_3)] false] = some (.lit (.int .i64 r12), [(0, .box 192 [.sl 1 (a0.Raw.map intU8C), .lit (.int .i64 z6)] false)])) (C3 : ¬ 0 < r12) (W4 : InI ((i_3 : Int) + 1)) :
    Cont 1 (exec Tryz.prog (tab (n + 3)) 1 26 (livesOf 146) big fo_C3) (livesOf 146 3) (fo_h3 a0 a1 i_3 i2_3 l_3 s_3) (fo_h3 a0 a1 (i_3 + 1) z6 l_3 s_3) := by
  have W4_ : IntKind.i64.wrap ((i_3 : Int) + 1) = (i_3 : Int) + 1 := wr64 W4.1 W4.2
  unfold Cont
  simp +decide [fo_h3, loopsOf, Tryz.f146, fo_C3, C1, K2, C3, W4_]
theorem fo_x3_1 {n : Nat} {a0 : TFeed} {a1 : Int} {i_3 : Nat} {i2_3 : Int} {l_3 : List (Int × Rat)} {s_3 : Rat} (C1 : ¬ (i_3 : Int) < a1) :
    Leave 1 (exec Tryz.prog (tab (n + 3)) 1 26 (livesOf 146) big fo_C3) (livesOf 146 (outOf 3)) (fo_h3 a0 a1 i_3 i2_3 l_3 s_3) (.exit 0) (fo_o3a a0 i2_3 l_3 s_3) := by
  unfold Leave
  simp +decide [fo_h3, loopsOf, Tryz.f146, fo_o3a, fo_C3, C1]
theorem fo_f1 {n : Nat} {a0 : TFeed} {a1 : Int} {r : Rat} {z : Int} {i2_3 : Int} {l_3 : List (Int × Rat)} {s_3 : Rat} (K1 : runL (n + 2) 62 [.ptr 0 0] [.box 192 [.sl 1 (a0.Raw.map intU8C), .lit (.int .i64 (a0.At))] false] = some (ratV r, [(0, .box 192 [.sl 1 (a0.Raw.map intU8C), .lit (.int .i64 z)] false)])) (L2 : loopG Tryz.prog (tab (n + 3)) 1 26 (livesOf 146) 3 fo_C3 (fo_h3 a0 a1 0 z [] r) = some (.exit 0, fo_o3a a0 i2_3 l_3 s_3)) :
    runL (n + 3) 146 [.ptr 0 0, .lit (.int .i64 a1)] [.box 192 [.sl 1 (a0.Raw.map intU8C), .lit (.int .i64 (a0.At))] false] = some (formV (l_3, s_3), [(0, .box 192 [.sl 1 (a0.Raw.map intU8C), .lit (.int .i64 i2_3)] false)]) := by
  simp only [ratV] at K1
  unfold runL fnL
  simp +decide [Tryz.f146, K1]
  rw [loopX_G (C' := fo_C3) (e := (fo_h3 a0 a1 0 z [] r)) ?_ ?_, L2]
  rotate_left
  · kernel_rfl
  · simp +decide [fo_h3, K1]
  simp +decide [fo_o3a, K1]
/-! (*relucertref15.Feed).Graph, level 4 -/
noncomputable def gr_C4 : Code := (loopsOf (bodyOf Tryz.f144)).getD 0 .skip
noncomputable def gr_C8 : Code := (loopsOf (bodyOf Tryz.f144)).getD 1 .skip
def gr_h4 (a0 : TFeed) (r2 : Int) (r3 : Int) (i_4 : Nat) (i2_4 : Int) (r : Int) (out_4 : List Form) : St :=
  ⟨[(0, .ptr 0 0), (2, .ptr 1 0), (3, .ptr 2 0), (4, .lit (.int .i64 r2)), (5, .lit (.int .i64 (1 + r3))), (6, .lit (.int .i64 (i_4 : Int)))],
   [(0, some (.box 192 [.sl 1 (a0.Raw.map intU8C), .lit (.int .i64 i2_4)] false)),
    (1, some (.box 37 [.lit (.int .i64 0), .nl 4, .nl 4] false)),
    (2, some (.box 37 [.lit (.int .i64 (1 + r)), .own 3 out_4.length, .nl 4] false)),
    (3, some (.row 43 4 (out_4.map formC) 0))], 4⟩
def gr_h8 (a0 : TFeed) (r2 : Int) (r3 : Int) (i_8 : Nat) (i2_8 : Int) (r : Int) (out_4 : List Form) (out_8 : List Form) : St :=
  ⟨[(0, .ptr 0 0), (2, .ptr 1 0), (3, .ptr 2 0), (4, .lit (.int .i64 r2)), (5, .lit (.int .i64 (1 + r3))), (7, .lit (.int .i64 (i_8 : Int)))],
   [(0, some (.box 192 [.sl 1 (a0.Raw.map intU8C), .lit (.int .i64 i2_8)] false)),
    (1, some (.box 37 [.lit (.int .i64 0), .nl 4, .nl 4] false)),
    (2, some (.box 37 [.lit (.int .i64 (1 + r)), .own 3 out_4.length, .own 4 out_8.length] false)),
    (3, some (.row 43 4 (out_4.map formC) 0)),
    (4, some (.row 43 4 (out_8.map formC) 0))], 5⟩
def gr_o4a (a0 : TFeed) (r2 : Int) (r3 : Int) (i2_4 : Int) (r : Int) (out_4 : List Form) : St :=
  ⟨[(0, .ptr 0 0), (2, .ptr 1 0), (3, .ptr 2 0), (4, .lit (.int .i64 r2)), (5, .lit (.int .i64 (1 + r3)))],
   [(0, some (.box 192 [.sl 1 (a0.Raw.map intU8C), .lit (.int .i64 i2_4)] false)),
    (1, some (.box 37 [.lit (.int .i64 0), .nl 4, .nl 4] false)),
    (2, some (.box 37 [.lit (.int .i64 (1 + r)), .own 3 out_4.length, .nl 4] false)),
    (3, some (.row 43 4 (out_4.map formC) 0))], 4⟩
def gr_o8a (a0 : TFeed) (i2_8 : Int) (r : Int) (out_4 : List Form) (out_8 : List Form) : St :=
  ⟨[(2, .ptr 1 0), (3, .ptr 2 0)],
   [(0, some (.box 192 [.sl 1 (a0.Raw.map intU8C), .lit (.int .i64 i2_8)] false)),
    (1, some (.box 37 [.lit (.int .i64 0), .nl 4, .nl 4] false)),
    (2, some (.box 37 [.lit (.int .i64 (1 + r)), .own 3 out_4.length, .own 4 out_8.length] false)),
    (3, some (.row 43 4 (out_4.map formC) 0)),
    (4, some (.row 43 4 (out_8.map formC) 0))], 5⟩
theorem gr_r4_1 {n : Nat} {a0 : TFeed} {i_4 : Nat} {r2 : Int} {r : Int} {i2_4 : Int} {r6 : Form} {z6 : Int} {out_4 : List Form} {r3 : Int} (C1 : (i_4 : Int) < r2) (W2 : InI ((1 + r) + (i_4 : Int))) (K3 : runL (n + 3) 146 [.ptr 0 0, .lit (.int .i64 ((1 + r) + (i_4 : Int)))] [.box 192 [.sl 1 (a0.Raw.map intU8C), .lit (.int .i64 i2_4)] false] = some (formV r6, [(0, .box 192 [.sl 1 (a0.Raw.map intU8C), .lit (.int .i64 z6)] false)])) (M4 : out_4.length + 1 ≤ 100000000) (W5 : InI ((i_4 : Int) + 1)) :
    Cont 1 (exec Tryz.prog (tab (n + 4)) 1 50 (livesOf 144) big gr_C4) (livesOf 144 4) (gr_h4 a0 r2 r3 i_4 i2_4 r out_4) (gr_h4 a0 r2 r3 (i_4 + 1) z6 r (out_4 ++ [r6])) := by
  have W2_ : IntKind.i64.wrap ((1 + r) + (i_4 : Int)) = (1 + r) + (i_4 : Int) := wr64 W2.1 W2.2
  simp only [formV] at K3
  have M4_ : ∀ b, b ≤ 10000 → roomy (out_4.length + 1) b = true := fun b hb => roomy_s M4 hb
  have W5_ : IntKind.i64.wrap ((i_4 : Int) + 1) = (i_4 : Int) + 1 := wr64 W5.1 W5.2
  unfold Cont
  simp +decide [gr_h4, loopsOf, Tryz.f144, gr_C4, C1, W2_, K3, M4_, W5_]
theorem gr_x4_1 {n : Nat} {a0 : TFeed} {i_4 : Nat} {r2 : Int} {r3 : Int} {i2_4 : Int} {r : Int} {out_4 : List Form} (C1 : ¬ (i_4 : Int) < r2) :
    Leave 1 (exec Tryz.prog (tab (n + 4)) 1 50 (livesOf 144) big gr_C4) (livesOf 144 (outOf 4)) (gr_h4 a0 r2 r3 i_4 i2_4 r out_4) (.exit 0) (gr_o4a a0 r2 r3 i2_4 r out_4) := by
  unfold Leave
  simp +decide [gr_h4, loopsOf, Tryz.f144, gr_o4a, gr_C4, C1]
theorem gr_r8_1 {n : Nat} {a0 : TFeed} {i_8 : Nat} {r3 : Int} {r : Int} {r2 : Int} {i2_8 : Int} {r9 : Form} {z9 : Int} {out_8 : List Form} {out_4 : List Form} (C1 : (i_8 : Int) < 1 + r3) (W2 : InI ((1 + r) + r2)) (K3 : runL (n + 3) 146 [.ptr 0 0, .lit (.int .i64 ((1 + r) + r2))] [.box 192 [.sl 1 (a0.Raw.map intU8C), .lit (.int .i64 i2_8)] false] = some (formV r9, [(0, .box 192 [.sl 1 (a0.Raw.map intU8C), .lit (.int .i64 z9)] false)])) (M4 : out_8.length + 1 ≤ 100000000) (W5 : InI ((i_8 : Int) + 1)) :
    Cont 1 (exec Tryz.prog (tab (n + 4)) 1 50 (livesOf 144) big gr_C8) (livesOf 144 8) (gr_h8 a0 r2 r3 i_8 i2_8 r out_4 out_8) (gr_h8 a0 r2 r3 (i_8 + 1) z9 r out_4 (out_8 ++ [r9])) := by
  have W2_ : IntKind.i64.wrap ((1 + r) + r2) = (1 + r) + r2 := wr64 W2.1 W2.2
  simp only [formV] at K3
  have M4_ : ∀ b, b ≤ 10000 → roomy (out_8.length + 1) b = true := fun b hb => roomy_s M4 hb
  have W5_ : IntKind.i64.wrap ((i_8 : Int) + 1) = (i_8 : Int) + 1 := wr64 W5.1 W5.2
  unfold Cont
  simp +decide [gr_h8, loopsOf, Tryz.f144, gr_C8, C1, W2_, K3, M4_, W5_]
theorem gr_x8_1 {n : Nat} {a0 : TFeed} {i_8 : Nat} {r3 : Int} {r2 : Int} {i2_8 : Int} {r : Int} {out_4 : List Form} {out_8 : List Form} (C1 : ¬ (i_8 : Int) < 1 + r3) :
    Leave 1 (exec Tryz.prog (tab (n + 4)) 1 50 (livesOf 144) big gr_C8) (livesOf 144 (outOf 8)) (gr_h8 a0 r2 r3 i_8 i2_8 r out_4 out_8) (.exit 2) (gr_o8a a0 i2_8 r out_4 out_8) := by
  unfold Leave
  simp +decide [gr_h8, loopsOf, Tryz.f144, gr_o8a, gr_C8, C1]
theorem gr_f1 {n : Nat} {a0 : TFeed} {r : Int} {z : Int} {r2 : Int} {z2 : Int} {r3 : Int} {z3 : Int} {i2_4 : Int} {out_4 : List Form} {i2_8 : Int} {out_8 : List Form} (K1 : runL (n + 3) 61 [.ptr 0 0, .lit (.int .i64 3)] [.box 192 [.sl 1 (a0.Raw.map intU8C), .lit (.int .i64 (a0.At))] false] = some (.lit (.int .i64 r), [(0, .box 192 [.sl 1 (a0.Raw.map intU8C), .lit (.int .i64 z)] false)])) (W2 : InI (1 + r)) (K3 : runL (n + 3) 61 [.ptr 0 0, .lit (.int .i64 5)] [.box 192 [.sl 1 (a0.Raw.map intU8C), .lit (.int .i64 z)] false] = some (.lit (.int .i64 r2), [(0, .box 192 [.sl 1 (a0.Raw.map intU8C), .lit (.int .i64 z2)] false)])) (K4 : runL (n + 3) 61 [.ptr 0 0, .lit (.int .i64 3)] [.box 192 [.sl 1 (a0.Raw.map intU8C), .lit (.int .i64 z2)] false] = some (.lit (.int .i64 r3), [(0, .box 192 [.sl 1 (a0.Raw.map intU8C), .lit (.int .i64 z3)] false)])) (W5 : InI (1 + r3)) (L6 : loopG Tryz.prog (tab (n + 4)) 1 50 (livesOf 144) 4 gr_C4 (gr_h4 a0 r2 r3 0 z3 r []) = some (.exit 0, gr_o4a a0 r2 r3 i2_4 r out_4)) (L7 : loopG Tryz.prog (tab (n + 4)) 1 50 (livesOf 144) 8 gr_C8 (gr_h8 a0 r2 r3 0 i2_4 r out_4 []) = some (.exit 2, gr_o8a a0 i2_8 r out_4 out_8)) :
    runL (n + 4) 144 [.ptr 0 0] [.box 192 [.sl 1 (a0.Raw.map intU8C), .lit (.int .i64 (a0.At))] false] = some (.agg [.lit (.int .i64 (1 + r)), .sl 4 (out_4.map formC), .sl 4 (out_8.map formC)], [(0, .box 192 [.sl 1 (a0.Raw.map intU8C), .lit (.int .i64 i2_8)] false)]) := by
  have W2_ : IntKind.i64.wrap (1 + r) = 1 + r := wr64 W2.1 W2.2
  have W5_ : IntKind.i64.wrap (1 + r3) = 1 + r3 := wr64 W5.1 W5.2
  unfold runL fnL
  simp +decide [Tryz.f144, K1, W2_, K3, K4, W5_]
  rw [loopX_G (C' := gr_C4) (e := (gr_h4 a0 r2 r3 0 z3 r [])) ?_ ?_, L6]
  rotate_left
  · kernel_rfl
  · simp +decide [gr_h4, K1, W2_, K3, K4, W5_]
  simp +decide [gr_o4a, K1, W2_, K3, K4, W5_]
  rw [loopX_G (C' := gr_C8) (e := (gr_h8 a0 r2 r3 0 i2_4 r out_4 [])) ?_ ?_, L7]
  rotate_left
  · kernel_rfl
  · simp +decide [gr_h8, K1, W2_, K3, K4, W5_]
  simp +decide [gr_o8a, K1, W2_, K3, K4, W5_]
end Go.Proofs.YtkakmdadnhjphaaGreatDoor
