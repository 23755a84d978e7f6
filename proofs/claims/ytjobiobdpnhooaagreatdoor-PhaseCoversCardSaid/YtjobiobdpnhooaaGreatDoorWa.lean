/- Walks: relucertref15.Feed.Next, relucertref15.Feed.Number, relucertref07.Var, relucertref03.Max, relucertref07.Eval. -/
import Derived.Test.YtjobiobdpnhooaaGreatDoorUe
set_option linter.all false
set_option linter.all false
set_option maxRecDepth 100000
set_option maxHeartbeats 6400000
namespace Go.Proofs.YtjobiobdpnhooaaGreatDoor
open Go.RowKit

/-! (*relucertref15.Feed).Next, level 0 -/
theorem nx_f1 {n : Nat} {a0 : TFeed} {a1 : Int} (C1 : (a0.Raw.length : Int) ≤ a0.At) :
    runL n 30 [.ptr 0 0, .lit (.int .i64 a1)] [.box 100 [.sl 1 (a0.Raw.map intU8C), .lit (.int .i64 (a0.At))] false] = some (.lit (.int .i64 0), [(0, .box 100 [.sl 1 (a0.Raw.map intU8C), .lit (.int .i64 (a0.At))] false)]) := by
  unfold runL fnL
  simp +decide [Tryz.f30, C1]
theorem nx_f2 {n : Nat} {a0 : TFeed} {a1 : Int} {x : Int} (C1 : ¬ (a0.Raw.length : Int) ≤ a0.At) (W2 : InI (a0.At + 1)) (W3 : InI (a0.At)) (E4 : a0.Raw[a0.At.toNat]? = some x) (Z4 : 0 ≤ a0.At) (W5 : InI (x)) (N6 : a1 ≠ 0) :
    runL n 30 [.ptr 0 0, .lit (.int .i64 a1)] [.box 100 [.sl 1 (a0.Raw.map intU8C), .lit (.int .i64 (a0.At))] false] = some (.lit (.int .i64 (x.tmod a1)), [(0, .box 100 [.sl 1 (a0.Raw.map intU8C), .lit (.int .i64 (a0.At + 1))] false)]) := by
  have W2_ : IntKind.i64.wrap (a0.At + 1) = a0.At + 1 := wr64 W2.1 W2.2
  have W3_ : IntKind.i64.wrap (a0.At) = a0.At := wr64 W3.1 W3.2
  obtain ⟨EL4, EG4⟩ := List.getElem?_eq_some_iff.1 E4
  have W5_ : IntKind.i64.wrap (x) = x := wr64 W5.1 W5.2
  unfold runL fnL
  simp +decide [Tryz.f30, C1, W2_, W3_, EL4, EG4, E4, Z4, W5_, N6]
/-! (*relucertref15.Feed).Number, level 1 -/
theorem nu_f1 {n : Nat} {a0 : TFeed} {r : Int} {z : Int} {r2 : Int} {z2 : Int} (K1 : runL n 30 [.ptr 0 0, .lit (.int .i64 9)] [.box 100 [.sl 1 (a0.Raw.map intU8C), .lit (.int .i64 (a0.At))] false] = some (.lit (.int .i64 r), [(0, .box 100 [.sl 1 (a0.Raw.map intU8C), .lit (.int .i64 z)] false)])) (W2 : InI (r - 4)) (K3 : runL n 30 [.ptr 0 0, .lit (.int .i64 4)] [.box 100 [.sl 1 (a0.Raw.map intU8C), .lit (.int .i64 z)] false] = some (.lit (.int .i64 r2), [(0, .box 100 [.sl 1 (a0.Raw.map intU8C), .lit (.int .i64 z2)] false)])) (C4 : r2 = 0) (W5 : InI (r - 4)) :
    runL (n + 1) 31 [.ptr 0 0] [.box 100 [.sl 1 (a0.Raw.map intU8C), .lit (.int .i64 (a0.At))] false] = some (ratV (fracQ (r - 4) 1), [(0, .box 100 [.sl 1 (a0.Raw.map intU8C), .lit (.int .i64 z2)] false)]) := by
  have W2_ : IntKind.i64.wrap (r - 4) = r - 4 := wr64 W2.1 W2.2
  have K5 := r_frac (x := r - 4) (y := 1) W5 (by omega) (by omega)
  unfold runL fnL
  simp +decide [Tryz.f31, K1, W2_, K3, C4, K5]
theorem nu_f2 {n : Nat} {a0 : TFeed} {r : Int} {z : Int} {r2 : Int} {z2 : Int} (K1 : runL n 30 [.ptr 0 0, .lit (.int .i64 9)] [.box 100 [.sl 1 (a0.Raw.map intU8C), .lit (.int .i64 (a0.At))] false] = some (.lit (.int .i64 r), [(0, .box 100 [.sl 1 (a0.Raw.map intU8C), .lit (.int .i64 z)] false)])) (W2 : InI (r - 4)) (K3 : runL n 30 [.ptr 0 0, .lit (.int .i64 4)] [.box 100 [.sl 1 (a0.Raw.map intU8C), .lit (.int .i64 z)] false] = some (.lit (.int .i64 r2), [(0, .box 100 [.sl 1 (a0.Raw.map intU8C), .lit (.int .i64 z2)] false)])) (C4 : r2 ≠ 0) (C5 : r2 = 1) (W6 : InI (r - 4)) :
    runL (n + 1) 31 [.ptr 0 0] [.box 100 [.sl 1 (a0.Raw.map intU8C), .lit (.int .i64 (a0.At))] false] = some (ratV (fracQ (r - 4) 1), [(0, .box 100 [.sl 1 (a0.Raw.map intU8C), .lit (.int .i64 z2)] false)]) := by
  have W2_ : IntKind.i64.wrap (r - 4) = r - 4 := wr64 W2.1 W2.2
  have K6 := r_frac (x := r - 4) (y := 1) W6 (by omega) (by omega)
  unfold runL fnL
  simp +decide [Tryz.f31, K1, W2_, K3, C5, K6]
theorem nu_f3 {n : Nat} {a0 : TFeed} {r : Int} {z : Int} {r2 : Int} {z2 : Int} (K1 : runL n 30 [.ptr 0 0, .lit (.int .i64 9)] [.box 100 [.sl 1 (a0.Raw.map intU8C), .lit (.int .i64 (a0.At))] false] = some (.lit (.int .i64 r), [(0, .box 100 [.sl 1 (a0.Raw.map intU8C), .lit (.int .i64 z)] false)])) (W2 : InI (r - 4)) (K3 : runL n 30 [.ptr 0 0, .lit (.int .i64 4)] [.box 100 [.sl 1 (a0.Raw.map intU8C), .lit (.int .i64 z)] false] = some (.lit (.int .i64 r2), [(0, .box 100 [.sl 1 (a0.Raw.map intU8C), .lit (.int .i64 z2)] false)])) (C4 : r2 ≠ 0) (C5 : r2 ≠ 1) (C6 : r2 = 2) (W7 : InI (r - 4)) :
    runL (n + 1) 31 [.ptr 0 0] [.box 100 [.sl 1 (a0.Raw.map intU8C), .lit (.int .i64 (a0.At))] false] = some (ratV (fracQ (r - 4) 2), [(0, .box 100 [.sl 1 (a0.Raw.map intU8C), .lit (.int .i64 z2)] false)]) := by
  have W2_ : IntKind.i64.wrap (r - 4) = r - 4 := wr64 W2.1 W2.2
  have K7 := r_frac (x := r - 4) (y := 2) W7 (by omega) (by omega)
  unfold runL fnL
  simp +decide [Tryz.f31, K1, W2_, K3, C6, K7]
theorem nu_f4 {n : Nat} {a0 : TFeed} {r : Int} {z : Int} {r2 : Int} {z2 : Int} (K1 : runL n 30 [.ptr 0 0, .lit (.int .i64 9)] [.box 100 [.sl 1 (a0.Raw.map intU8C), .lit (.int .i64 (a0.At))] false] = some (.lit (.int .i64 r), [(0, .box 100 [.sl 1 (a0.Raw.map intU8C), .lit (.int .i64 z)] false)])) (W2 : InI (r - 4)) (K3 : runL n 30 [.ptr 0 0, .lit (.int .i64 4)] [.box 100 [.sl 1 (a0.Raw.map intU8C), .lit (.int .i64 z)] false] = some (.lit (.int .i64 r2), [(0, .box 100 [.sl 1 (a0.Raw.map intU8C), .lit (.int .i64 z2)] false)])) (C4 : r2 ≠ 0) (C5 : r2 ≠ 1) (C6 : r2 ≠ 2) (C7 : r2 = 3) (W8 : InI (r - 4)) :
    runL (n + 1) 31 [.ptr 0 0] [.box 100 [.sl 1 (a0.Raw.map intU8C), .lit (.int .i64 (a0.At))] false] = some (ratV (fracQ (r - 4) 4), [(0, .box 100 [.sl 1 (a0.Raw.map intU8C), .lit (.int .i64 z2)] false)]) := by
  have W2_ : IntKind.i64.wrap (r - 4) = r - 4 := wr64 W2.1 W2.2
  have K8 := r_frac (x := r - 4) (y := 4) W8 (by omega) (by omega)
  unfold runL fnL
  simp +decide [Tryz.f31, K1, W2_, K3, C7, K8]
/-! relucertref07.Var, level 0 -/
theorem vr_f1 {n : Nat} {a0 : Int}  :
    run n 78 [.lit (.int .i64 a0)] = some (.agg [.sl 4 [[.lit (.int .i64 a0), .lit (.bool (rawQ (ofQ 1)).s), natA (rawQ (ofQ 1)).l1, natA (rawQ (ofQ 1)).l2]], .lit (.bool false), .sl 1 [], .sl 1 []]) := by
  have K1 := r_ofq (z := 1) (by omega) (by omega)
  unfold run fnP
  simp +decide [Tryz.f78, K1]
/-! relucertref03.Max, level 0 -/
theorem mx_f1 {n : Nat} {a0 : Rat} {a1 : Rat} (B1a : H a0 ≤ 17179869184) (B1b : H a1 ≤ 17179869184) (C2 : 0 ≤ sgR (a0 - a1)) :
    run n 114 [ratV a0, ratV a1] = some (ratV a0) := by
  have K1 := r_cmp (p := a0) (q := a1) B1a B1b
  have K3 := r_canon (p := a0) B1a
  unfold run fnP
  simp +decide [Tryz.f114, K1, C2, K3]
theorem mx_f2 {n : Nat} {a0 : Rat} {a1 : Rat} (B1a : H a0 ≤ 17179869184) (B1b : H a1 ≤ 17179869184) (C2 : ¬ 0 ≤ sgR (a0 - a1)) :
    run n 114 [ratV a0, ratV a1] = some (ratV a1) := by
  have K1 := r_cmp (p := a0) (q := a1) B1a B1b
  have K3 := r_canon (p := a1) B1b
  unfold run fnP
  simp +decide [Tryz.f114, K1, C2, K3]
/-! relucertref07.Eval, level 0 -/
noncomputable def ev_C3 : Code := (loopsOf (bodyOf Tryz.f90)).getD 0 .skip
def ev_h3 (a0 : Form) (a1 : List Rat) (i_3 : Nat) (s_3 : Rat) : St :=
  ⟨[(1, .sl 3 (a1.map ratC)), (2, .ptr 0 0), (4, .ptr 1 0), (6, .ptr 2 0), (7, .lit (.int .i64 (i_3 : Int)))],
   [(0, some (.box 39 [.sl 4 (a0.1.map termC), .lit (.bool (rawQ a0.2).s), natA (rawQ a0.2).l1, natA (rawQ a0.2).l2] false)),
    (1, some (.box 26 [.lit (.bool false), .nl 1, .nl 1] false)),
    (2, some (.box 26 [.lit (.bool (rawQ s_3).s), natA (rawQ s_3).l1, natA (rawQ s_3).l2] false))], 3⟩
def ev_o3a (s_3 : Rat) : St :=
  ⟨[(4, .ptr 0 0), (5, .lit (.int .i64 2)), (6, .ptr 1 0)],
   [(0, some (.box 26 [.lit (.bool false), .nl 1, .nl 1] false)),
    (1, some (.box 26 [.lit (.bool (rawQ s_3).s), natA (rawQ s_3).l1, natA (rawQ s_3).l2] false))], 2⟩
def ev_o3b (s_3 : Rat) : St :=
  ⟨[(4, .ptr 0 0), (5, .any), (6, .ptr 1 0)],
   [(0, some (.box 26 [.lit (.bool false), .nl 1, .nl 1] false)),
    (1, some (.box 26 [.lit (.bool (rawQ s_3).s), natA (rawQ s_3).l1, natA (rawQ s_3).l2] false))], 2⟩
theorem ev_r3_1 {n : Nat} {a0 : Form} {a1 : List Rat} {i_3 : Nat} {v3 : Int} {q3 : Rat} {x3 : Rat} {s_3 : Rat} (C1 : (i_3 : Int) < (a0.1.length : Int)) (E2 : a0.1[i_3]? = some (v3, q3)) (C3 : ¬ v3 < 0) (C4 : ¬ (a1.length : Int) ≤ v3) (E5 : a1[v3.toNat]? = some x3) (Z5 : 0 ≤ v3) (B6a : H q3 ≤ 17179869184) (B6b : H x3 ≤ 17179869184) (B7a : H s_3 ≤ 17179869184) (B7b : H (q3 * x3) ≤ 17179869184) (W8 : InI ((i_3 : Int) + 1)) :
    Cont 0 (exec Tryz.prog (tab n) 0 45 (livesOf 90) big ev_C3) (livesOf 90 3) (ev_h3 a0 a1 i_3 s_3) (ev_h3 a0 a1 (i_3 + 1) (s_3 + (q3 * x3))) := by
  have C1_ : i_3 < a0.1.length := by omega
  obtain ⟨EL2, EG2⟩ := List.getElem?_eq_some_iff.1 E2
  obtain ⟨EL5, EG5⟩ := List.getElem?_eq_some_iff.1 E5
  have K6 := r_mul (p := q3) (q := x3) B6a B6b
  have K7 := r_add (p := s_3) (q := q3 * x3) B7a B7b
  have W8_ : IntKind.i64.wrap ((i_3 : Int) + 1) = (i_3 : Int) + 1 := wr64 W8.1 W8.2
  unfold Cont
  simp +decide [ev_h3, loopsOf, Tryz.f90, ev_C3, C1, C1_, EL2, EG2, E2, C3, C4, EL5, EG5, E5, Z5, K6, K7, W8_]
theorem ev_x3_1 {n : Nat} {a0 : Form} {a1 : List Rat} {i_3 : Nat} {v3 : Int} {q3 : Rat} {s_3 : Rat} (C1 : (i_3 : Int) < (a0.1.length : Int)) (E2 : a0.1[i_3]? = some (v3, q3)) (C3 : v3 < 0) :
    Leave 0 (exec Tryz.prog (tab n) 0 45 (livesOf 90) big ev_C3) (livesOf 90 (outOf 3)) (ev_h3 a0 a1 i_3 s_3) (.ret) (ev_o3a s_3) := by
  have C1_ : i_3 < a0.1.length := by omega
  obtain ⟨EL2, EG2⟩ := List.getElem?_eq_some_iff.1 E2
  unfold Leave
  simp +decide [ev_h3, loopsOf, Tryz.f90, ev_o3a, ev_C3, C1, C1_, EL2, EG2, E2, C3]
theorem ev_x3_2 {n : Nat} {a0 : Form} {a1 : List Rat} {i_3 : Nat} {v3 : Int} {q3 : Rat} {s_3 : Rat} (C1 : (i_3 : Int) < (a0.1.length : Int)) (E2 : a0.1[i_3]? = some (v3, q3)) (C3 : ¬ v3 < 0) (C4 : (a1.length : Int) ≤ v3) :
    Leave 0 (exec Tryz.prog (tab n) 0 45 (livesOf 90) big ev_C3) (livesOf 90 (outOf 3)) (ev_h3 a0 a1 i_3 s_3) (.ret) (ev_o3a s_3) := by
  have C1_ : i_3 < a0.1.length := by omega
  obtain ⟨EL2, EG2⟩ := List.getElem?_eq_some_iff.1 E2
  unfold Leave
  simp +decide [ev_h3, loopsOf, Tryz.f90, ev_o3a, ev_C3, C1, C1_, EL2, EG2, E2, C3, C4]
theorem ev_x3_3 {n : Nat} {a0 : Form} {a1 : List Rat} {i_3 : Nat} {s_3 : Rat} (C1 : ¬ (i_3 : Int) < (a0.1.length : Int)) :
    Leave 0 (exec Tryz.prog (tab n) 0 45 (livesOf 90) big ev_C3) (livesOf 90 (outOf 3)) (ev_h3 a0 a1 i_3 s_3) (.exit 0) (ev_o3b s_3) := by
  have C1_ : ¬ i_3 < a0.1.length := by omega
  unfold Leave
  simp +decide [ev_h3, loopsOf, Tryz.f90, ev_o3b, ev_C3, C1, C1_]
theorem ev_f1 {n : Nat} {a0 : Form} {a1 : List Rat} {s_3 : Rat} (L1 : loopG Tryz.prog (tab n) 0 45 (livesOf 90) 3 ev_C3 (ev_h3 a0 a1 0 a0.2) = some (.ret, ev_o3a s_3)) :
    run n 90 [formV a0, .sl 3 (a1.map ratC)] = some (.tup [.agg [.lit (.bool false), .sl 1 [], .sl 1 []], .lit (.int .i64 2)]) := by
  unfold run fnP
  simp +decide [Tryz.f90]
  rw [loopX_G (C' := ev_C3) (e := (ev_h3 a0 a1 0 a0.2)) ?_ ?_, L1]
  rotate_left
  · kernel_rfl
  · simp +decide [ev_h3]
  simp +decide [ev_o3a]
theorem ev_f2 {n : Nat} {a0 : Form} {a1 : List Rat} {s_3 : Rat} (L1 : loopG Tryz.prog (tab n) 0 45 (livesOf 90) 3 ev_C3 (ev_h3 a0 a1 0 a0.2) = some (.exit 0, ev_o3b s_3)) :
    run n 90 [formV a0, .sl 3 (a1.map ratC)] = some (.tup [ratV s_3, .lit (.int .i64 0)]) := by
  unfold run fnP
  simp +decide [Tryz.f90]
  rw [loopX_G (C' := ev_C3) (e := (ev_h3 a0 a1 0 a0.2)) ?_ ?_, L1]
  rotate_left
  · kernel_rfl
  · simp +decide [ev_h3]
  simp +decide [ev_o3b]
end Go.Proofs.YtjobiobdpnhooaaGreatDoor
