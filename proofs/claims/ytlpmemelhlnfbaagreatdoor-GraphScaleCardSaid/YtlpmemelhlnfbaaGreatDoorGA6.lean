/- Walks: relucertref15.Feed.Next, relucertref15.Feed.Number, relucertref07.Var, relucertref03.Max, relucertref07.Eval. Walks: relucertref07.plus. Walks: relucertref07.Add, relucertref07.Scale. -/
import Derived.Test.YtlpmemelhlnfbaaGreatDoorGA5
set_option linter.all false
set_option linter.all false
set_option maxRecDepth 100000
set_option maxHeartbeats 6400000
namespace Go.Proofs.YtlpmemelhlnfbaaGreatDoor
open Go.RowKit

/-! (*relucertref15.Feed).Next, level 0 -/
theorem nx_f1 {n : Nat} {a0 : TFeed} {a1 : Int} (C1 : (a0.Raw.length : Int) ≤ a0.At) :
    runL n 149 [.ptr 0 0, .lit (.int .i64 a1)] [.box 156 [.sl 1 (a0.Raw.map intU8C), .lit (.int .i64 (a0.At))] false] = some (.lit (.int .i64 0), [(0, .box 156 [.sl 1 (a0.Raw.map intU8C), .lit (.int .i64 (a0.At))] false)]) := by
  unfold runL fnL
  simp +decide [Tryz.f149, C1]
theorem nx_f2 {n : Nat} {a0 : TFeed} {a1 : Int} {x : Int} (C1 : ¬ (a0.Raw.length : Int) ≤ a0.At) (W2 : InI (a0.At + 1)) (W3 : InI (a0.At)) (E4 : a0.Raw[a0.At.toNat]? = some x) (Z4 : 0 ≤ a0.At) (W5 : InI (x)) (N6 : a1 ≠ 0) :
    runL n 149 [.ptr 0 0, .lit (.int .i64 a1)] [.box 156 [.sl 1 (a0.Raw.map intU8C), .lit (.int .i64 (a0.At))] false] = some (.lit (.int .i64 (x.tmod a1)), [(0, .box 156 [.sl 1 (a0.Raw.map intU8C), .lit (.int .i64 (a0.At + 1))] false)]) := by
  have W2_ : IntKind.i64.wrap (a0.At + 1) = a0.At + 1 := wr64 W2.1 W2.2
  have W3_ : IntKind.i64.wrap (a0.At) = a0.At := wr64 W3.1 W3.2
  obtain ⟨EL4, EG4⟩ := List.getElem?_eq_some_iff.1 E4
  have W5_ : IntKind.i64.wrap (x) = x := wr64 W5.1 W5.2
  unfold runL fnL
  simp +decide [Tryz.f149, C1, W2_, W3_, EL4, EG4, E4, Z4, W5_, N6]
/-! (*relucertref15.Feed).Number, level 1 -/
theorem nu_f1 {n : Nat} {a0 : TFeed} {r : Int} {z : Int} {r2 : Int} {z2 : Int} (K1 : runL n 149 [.ptr 0 0, .lit (.int .i64 9)] [.box 156 [.sl 1 (a0.Raw.map intU8C), .lit (.int .i64 (a0.At))] false] = some (.lit (.int .i64 r), [(0, .box 156 [.sl 1 (a0.Raw.map intU8C), .lit (.int .i64 z)] false)])) (W2 : InI (r - 4)) (K3 : runL n 149 [.ptr 0 0, .lit (.int .i64 4)] [.box 156 [.sl 1 (a0.Raw.map intU8C), .lit (.int .i64 z)] false] = some (.lit (.int .i64 r2), [(0, .box 156 [.sl 1 (a0.Raw.map intU8C), .lit (.int .i64 z2)] false)])) (C4 : r2 = 0) (W5 : InI (r - 4)) :
    runL (n + 1) 92 [.ptr 0 0] [.box 156 [.sl 1 (a0.Raw.map intU8C), .lit (.int .i64 (a0.At))] false] = some (ratV (fracQ (r - 4) 1), [(0, .box 156 [.sl 1 (a0.Raw.map intU8C), .lit (.int .i64 z2)] false)]) := by
  have W2_ : IntKind.i64.wrap (r - 4) = r - 4 := wr64 W2.1 W2.2
  have K5 := r_frac (x := r - 4) (y := 1) W5 (by omega) (by omega)
  unfold runL fnL
  simp +decide [Tryz.f92, K1, W2_, K3, C4, K5]
theorem nu_f2 {n : Nat} {a0 : TFeed} {r : Int} {z : Int} {r2 : Int} {z2 : Int} (K1 : runL n 149 [.ptr 0 0, .lit (.int .i64 9)] [.box 156 [.sl 1 (a0.Raw.map intU8C), .lit (.int .i64 (a0.At))] false] = some (.lit (.int .i64 r), [(0, .box 156 [.sl 1 (a0.Raw.map intU8C), .lit (.int .i64 z)] false)])) (W2 : InI (r - 4)) (K3 : runL n 149 [.ptr 0 0, .lit (.int .i64 4)] [.box 156 [.sl 1 (a0.Raw.map intU8C), .lit (.int .i64 z)] false] = some (.lit (.int .i64 r2), [(0, .box 156 [.sl 1 (a0.Raw.map intU8C), .lit (.int .i64 z2)] false)])) (C4 : r2 ≠ 0) (C5 : r2 = 1) (W6 : InI (r - 4)) :
    runL (n + 1) 92 [.ptr 0 0] [.box 156 [.sl 1 (a0.Raw.map intU8C), .lit (.int .i64 (a0.At))] false] = some (ratV (fracQ (r - 4) 1), [(0, .box 156 [.sl 1 (a0.Raw.map intU8C), .lit (.int .i64 z2)] false)]) := by
  have W2_ : IntKind.i64.wrap (r - 4) = r - 4 := wr64 W2.1 W2.2
  have K6 := r_frac (x := r - 4) (y := 1) W6 (by omega) (by omega)
  unfold runL fnL
  simp +decide [Tryz.f92, K1, W2_, K3, C5, K6]
theorem nu_f3 {n : Nat} {a0 : TFeed} {r : Int} {z : Int} {r2 : Int} {z2 : Int} (K1 : runL n 149 [.ptr 0 0, .lit (.int .i64 9)] [.box 156 [.sl 1 (a0.Raw.map intU8C), .lit (.int .i64 (a0.At))] false] = some (.lit (.int .i64 r), [(0, .box 156 [.sl 1 (a0.Raw.map intU8C), .lit (.int .i64 z)] false)])) (W2 : InI (r - 4)) (K3 : runL n 149 [.ptr 0 0, .lit (.int .i64 4)] [.box 156 [.sl 1 (a0.Raw.map intU8C), .lit (.int .i64 z)] false] = some (.lit (.int .i64 r2), [(0, .box 156 [.sl 1 (a0.Raw.map intU8C), .lit (.int .i64 z2)] false)])) (C4 : r2 ≠ 0) (C5 : r2 ≠ 1) (C6 : r2 = 2) (W7 : InI (r - 4)) :
    runL (n + 1) 92 [.ptr 0 0] [.box 156 [.sl 1 (a0.Raw.map intU8C), .lit (.int .i64 (a0.At))] false] = some (ratV (fracQ (r - 4) 2), [(0, .box 156 [.sl 1 (a0.Raw.map intU8C), .lit (.int .i64 z2)] false)]) := by
  have W2_ : IntKind.i64.wrap (r - 4) = r - 4 := wr64 W2.1 W2.2
  have K7 := r_frac (x := r - 4) (y := 2) W7 (by omega) (by omega)
  unfold runL fnL
  simp +decide [Tryz.f92, K1, W2_, K3, C6, K7]
theorem nu_f4 {n : Nat} {a0 : TFeed} {r : Int} {z : Int} {r2 : Int} {z2 : Int} (K1 : runL n 149 [.ptr 0 0, .lit (.int .i64 9)] [.box 156 [.sl 1 (a0.Raw.map intU8C), .lit (.int .i64 (a0.At))] false] = some (.lit (.int .i64 r), [(0, .box 156 [.sl 1 (a0.Raw.map intU8C), .lit (.int .i64 z)] false)])) (W2 : InI (r - 4)) (K3 : runL n 149 [.ptr 0 0, .lit (.int .i64 4)] [.box 156 [.sl 1 (a0.Raw.map intU8C), .lit (.int .i64 z)] false] = some (.lit (.int .i64 r2), [(0, .box 156 [.sl 1 (a0.Raw.map intU8C), .lit (.int .i64 z2)] false)])) (C4 : r2 ≠ 0) (C5 : r2 ≠ 1) (C6 : r2 ≠ 2) (C7 : r2 = 3) (W8 : InI (r - 4)) :
    runL (n + 1) 92 [.ptr 0 0] [.box 156 [.sl 1 (a0.Raw.map intU8C), .lit (.int .i64 (a0.At))] false] = some (ratV (fracQ (r - 4) 4), [(0, .box 156 [.sl 1 (a0.Raw.map intU8C), .lit (.int .i64 z2)] false)]) := by
  have W2_ : IntKind.i64.wrap (r - 4) = r - 4 := wr64 W2.1 W2.2
  have K8 := r_frac (x := r - 4) (y := 4) W8 (by omega) (by omega)
  unfold runL fnL
  simp +decide [Tryz.f92, K1, W2_, K3, C7, K8]
/-! relucertref07.Var, level 0 -/
theorem vr_f1 {n : Nat} {a0 : Int}  :
    run n 88 [.lit (.int .i64 a0)] = some (.agg [.sl 4 [[.lit (.int .i64 a0), .lit (.bool (rawQ (ofQ 1)).s), natA (rawQ (ofQ 1)).l1, natA (rawQ (ofQ 1)).l2]], .lit (.bool false), .sl 1 [], .sl 1 []]) := by
  have K1 := r_ofq (z := 1) (by omega) (by omega)
  unfold run fnP
  simp +decide [Tryz.f88, K1]
/-! relucertref03.Max, level 0 -/
theorem mx_f1 {n : Nat} {a0 : Rat} {a1 : Rat} (B1a : H a0 ≤ 17179869184) (B1b : H a1 ≤ 17179869184) (C2 : 0 ≤ sgR (a0 - a1)) :
    run n 100 [ratV a0, ratV a1] = some (ratV a0) := by
  have K1 := r_cmp (p := a0) (q := a1) B1a B1b
  have K3 := r_canon (p := a0) B1a
  unfold run fnP
  simp +decide [Tryz.f100, K1, C2, K3]
theorem mx_f2 {n : Nat} {a0 : Rat} {a1 : Rat} (B1a : H a0 ≤ 17179869184) (B1b : H a1 ≤ 17179869184) (C2 : ¬ 0 ≤ sgR (a0 - a1)) :
    run n 100 [ratV a0, ratV a1] = some (ratV a1) := by
  have K1 := r_cmp (p := a0) (q := a1) B1a B1b
  have K3 := r_canon (p := a1) B1b
  unfold run fnP
  simp +decide [Tryz.f100, K1, C2, K3]
/-! relucertref07.Eval, level 0 -/
noncomputable def ev_C3 : Code := (loopsOf (bodyOf Tryz.f99)).getD 0 .skip
def ev_h3 (a0 : Form) (a1 : List Rat) (i_3 : Nat) (s_3 : Rat) : St :=
  ⟨[(1, .sl 3 (a1.map ratC)), (2, .ptr 0 0), (4, .ptr 1 0), (6, .ptr 2 0), (7, .lit (.int .i64 (i_3 : Int)))],
   [(0, some (.box 29 [.sl 4 (a0.1.map termC), .lit (.bool (rawQ a0.2).s), natA (rawQ a0.2).l1, natA (rawQ a0.2).l2] false)),
    (1, some (.box 27 [.lit (.bool false), .nl 1, .nl 1] false)),
    (2, some (.box 27 [.lit (.bool (rawQ s_3).s), natA (rawQ s_3).l1, natA (rawQ s_3).l2] false))], 3⟩
def ev_o3a (s_3 : Rat) : St :=
  ⟨[(4, .ptr 0 0), (5, .lit (.int .i64 2)), (6, .ptr 1 0)],
   [(0, some (.box 27 [.lit (.bool false), .nl 1, .nl 1] false)),
    (1, some (.box 27 [.lit (.bool (rawQ s_3).s), natA (rawQ s_3).l1, natA (rawQ s_3).l2] false))], 2⟩
def ev_o3b (s_3 : Rat) : St :=
  ⟨[(4, .ptr 0 0), (5, .any), (6, .ptr 1 0)],
   [(0, some (.box 27 [.lit (.bool false), .nl 1, .nl 1] false)),
    (1, some (.box 27 [.lit (.bool (rawQ s_3).s), natA (rawQ s_3).l1, natA (rawQ s_3).l2] false))], 2⟩
theorem ev_r3_1 {n : Nat} {a0 : Form} {a1 : List Rat} {i_3 : Nat} {v3 : Int} {q3 : Rat} {x3 : Rat} {s_3 : Rat} (C1 : (i_3 : Int) < (a0.1.length : Int)) (E2 : a0.1[i_3]? = some (v3, q3)) (C3 : ¬ v3 < 0) (C4 : ¬ (a1.length : Int) ≤ v3) (E5 : a1[v3.toNat]? = some x3) (Z5 : 0 ≤ v3) (B6a : H q3 ≤ 17179869184) (B6b : H x3 ≤ 17179869184) (B7a : H s_3 ≤ 17179869184) (B7b : H (q3 * x3) ≤ 17179869184) (W8 : InI ((i_3 : Int) + 1)) :
    Cont 0 (exec Tryz.prog (tab n) 0 45 (livesOf 99) big ev_C3) (livesOf 99 3) (ev_h3 a0 a1 i_3 s_3) (ev_h3 a0 a1 (i_3 + 1) (s_3 + (q3 * x3))) := by
  have C1_ : i_3 < a0.1.length := by omega
  obtain ⟨EL2, EG2⟩ := List.getElem?_eq_some_iff.1 E2
  obtain ⟨EL5, EG5⟩ := List.getElem?_eq_some_iff.1 E5
  have K6 := r_mul (p := q3) (q := x3) B6a B6b
  have K7 := r_add (p := s_3) (q := q3 * x3) B7a B7b
  have W8_ : IntKind.i64.wrap ((i_3 : Int) + 1) = (i_3 : Int) + 1 := wr64 W8.1 W8.2
  unfold Cont
  simp +decide [ev_h3, loopsOf, Tryz.f99, ev_C3, C1, C1_, EL2, EG2, E2, C3, C4, EL5, EG5, E5, Z5, K6, K7, W8_]
theorem ev_x3_1 {n : Nat} {a0 : Form} {a1 : List Rat} {i_3 : Nat} {v3 : Int} {q3 : Rat} {s_3 : Rat} (C1 : (i_3 : Int) < (a0.1.length : Int)) (E2 : a0.1[i_3]? = some (v3, q3)) (C3 : v3 < 0) :
    Leave 0 (exec Tryz.prog (tab n) 0 45 (livesOf 99) big ev_C3) (livesOf 99 (outOf 3)) (ev_h3 a0 a1 i_3 s_3) (.ret) (ev_o3a s_3) := by
  have C1_ : i_3 < a0.1.length := by omega
  obtain ⟨EL2, EG2⟩ := List.getElem?_eq_some_iff.1 E2
  unfold Leave
  simp +decide [ev_h3, loopsOf, Tryz.f99, ev_o3a, ev_C3, C1, C1_, EL2, EG2, E2, C3]
theorem ev_x3_2 {n : Nat} {a0 : Form} {a1 : List Rat} {i_3 : Nat} {v3 : Int} {q3 : Rat} {s_3 : Rat} (C1 : (i_3 : Int) < (a0.1.length : Int)) (E2 : a0.1[i_3]? = some (v3, q3)) (C3 : ¬ v3 < 0) (C4 : (a1.length : Int) ≤ v3) :
    Leave 0 (exec Tryz.prog (tab n) 0 45 (livesOf 99) big ev_C3) (livesOf 99 (outOf 3)) (ev_h3 a0 a1 i_3 s_3) (.ret) (ev_o3a s_3) := by
  have C1_ : i_3 < a0.1.length := by omega
  obtain ⟨EL2, EG2⟩ := List.getElem?_eq_some_iff.1 E2
  unfold Leave
  simp +decide [ev_h3, loopsOf, Tryz.f99, ev_o3a, ev_C3, C1, C1_, EL2, EG2, E2, C3, C4]
theorem ev_x3_3 {n : Nat} {a0 : Form} {a1 : List Rat} {i_3 : Nat} {s_3 : Rat} (C1 : ¬ (i_3 : Int) < (a0.1.length : Int)) :
    Leave 0 (exec Tryz.prog (tab n) 0 45 (livesOf 99) big ev_C3) (livesOf 99 (outOf 3)) (ev_h3 a0 a1 i_3 s_3) (.exit 0) (ev_o3b s_3) := by
  have C1_ : ¬ i_3 < a0.1.length := by omega
  unfold Leave
  simp +decide [ev_h3, loopsOf, Tryz.f99, ev_o3b, ev_C3, C1, C1_]
theorem ev_f1 {n : Nat} {a0 : Form} {a1 : List Rat} {s_3 : Rat} (L1 : loopG Tryz.prog (tab n) 0 45 (livesOf 99) 3 ev_C3 (ev_h3 a0 a1 0 a0.2) = some (.ret, ev_o3a s_3)) :
    run n 99 [formV a0, .sl 3 (a1.map ratC)] = some (.tup [.agg [.lit (.bool false), .sl 1 [], .sl 1 []], .lit (.int .i64 2)]) := by
  unfold run fnP
  simp +decide [Tryz.f99]
  rw [loopX_G (C' := ev_C3) (e := (ev_h3 a0 a1 0 a0.2)) ?_ ?_, L1]
  rotate_left
  · kernel_rfl
  · simp +decide [ev_h3]
  simp +decide [ev_o3a]
theorem ev_f2 {n : Nat} {a0 : Form} {a1 : List Rat} {s_3 : Rat} (L1 : loopG Tryz.prog (tab n) 0 45 (livesOf 99) 3 ev_C3 (ev_h3 a0 a1 0 a0.2) = some (.exit 0, ev_o3b s_3)) :
    run n 99 [formV a0, .sl 3 (a1.map ratC)] = some (.tup [ratV s_3, .lit (.int .i64 0)]) := by
  unfold run fnP
  simp +decide [Tryz.f99]
  rw [loopX_G (C' := ev_C3) (e := (ev_h3 a0 a1 0 a0.2)) ?_ ?_, L1]
  rotate_left
  · kernel_rfl
  · simp +decide [ev_h3]
  simp +decide [ev_o3b]
end Go.Proofs.YtlpmemelhlnfbaaGreatDoor
set_option linter.all false
set_option maxRecDepth 100000
set_option maxHeartbeats 6400000
namespace Go.Proofs.YtlpmemelhlnfbaaGreatDoor
open Go.RowKit

/-! relucertref07.plus, level 1 -/
noncomputable def pl_C4 : Code := (loopsOf (bodyOf Tryz.f138)).getD 0 .skip
def pl_h4 (a0 : Form) (a1 : Int) (a2 : Rat) (out_4 : List (Int × Rat)) (d_4 : Bool) (i_4 : Nat) : St :=
  ⟨[(1, .lit (.int .i64 a1)), (3, .ptr 0 0), (5, .ptr 1 0), (6, .ptr 2 0), (7, .own 3 out_4.length), (8, .lit (.bool d_4)), (9, .lit (.int .i64 (i_4 : Int)))],
   [(0, some (.box 29 [.sl 4 (a0.1.map termC), .lit (.bool (rawQ a0.2).s), natA (rawQ a0.2).l1, natA (rawQ a0.2).l2] false)),
    (1, some (.box 27 [.lit (.bool (rawQ a2).s), natA (rawQ a2).l1, natA (rawQ a2).l2] false)),
    (2, some (.box 29 [.nl 4, .lit (.bool false), .nl 1, .nl 1] false)),
    (3, some (.row 84 4 (out_4.map termC) 0))], 4⟩
def pl_o4a (a0 : Form) (a1 : Int) (a2 : Rat) (out_4 : List (Int × Rat)) (d_4 : Bool) : St :=
  ⟨[(1, .lit (.int .i64 a1)), (3, .ptr 0 0), (5, .ptr 1 0), (6, .ptr 2 0), (7, .own 3 out_4.length), (8, .lit (.bool d_4))],
   [(0, some (.box 29 [.sl 4 (a0.1.map termC), .lit (.bool (rawQ a0.2).s), natA (rawQ a0.2).l1, natA (rawQ a0.2).l2] false)),
    (1, some (.box 27 [.lit (.bool (rawQ a2).s), natA (rawQ a2).l1, natA (rawQ a2).l2] false)),
    (2, some (.box 29 [.nl 4, .lit (.bool false), .nl 1, .nl 1] false)),
    (3, some (.row 84 4 (out_4.map termC) 0))], 4⟩
theorem pl_r4_1 {n : Nat} {a0 : Form} {a1 : Int} {a2 : Rat} {i_4 : Nat} {v3 : Int} {q3 : Rat} {out_4 : List (Int × Rat)} {d_4 : Bool} (C1 : (i_4 : Int) < (a0.1.length : Int)) (E2 : a0.1[i_4]? = some (v3, q3)) (C3 : v3 = a1) (B4a : H q3 ≤ 17179869184) (B4b : H a2 ≤ 17179869184) (K5 : runL n 163 [.own 0 out_4.length, .agg [.lit (.int .i64 v3), .lit (.bool (rawQ (q3 + a2)).s), natA (rawQ (q3 + a2)).l1, natA (rawQ (q3 + a2)).l2]] [.row 84 4 (out_4.map termC) 0] = some (.own 0 out_4.length, [(0, .row 84 4 (out_4.map termC) 0)])) (W6 : InI ((i_4 : Int) + 1)) :
    Cont 0 (exec Tryz.prog (tab (n + 1)) 0 61 (livesOf 138) big pl_C4) (livesOf 138 4) (pl_h4 a0 a1 a2 out_4 d_4 i_4) (pl_h4 a0 a1 a2 out_4 true (i_4 + 1)) := by
  have C1_ : i_4 < a0.1.length := by omega
  obtain ⟨EL2, EG2⟩ := List.getElem?_eq_some_iff.1 E2
  have C3_ : (v3 == a1) = true := by rw [C3]; simp
  have C3_n : (v3 != a1) = false := by rw [C3]; simp
  have K4 := r_add (p := q3) (q := a2) B4a B4b
  have W6_ : IntKind.i64.wrap ((i_4 : Int) + 1) = (i_4 : Int) + 1 := wr64 W6.1 W6.2
  unfold Cont
  simp +decide [pl_h4, loopsOf, Tryz.f138, pl_C4, C1, C1_, EL2, EG2, E2, C3_, C3_n, K4, K5, W6_]
theorem pl_r4_2 {n : Nat} {a0 : Form} {a1 : Int} {a2 : Rat} {i_4 : Nat} {v3 : Int} {q3 : Rat} {out_4 : List (Int × Rat)} {R12 : List (Int × Rat)} {d_4 : Bool} (C1 : (i_4 : Int) < (a0.1.length : Int)) (E2 : a0.1[i_4]? = some (v3, q3)) (C3 : v3 = a1) (B4a : H q3 ≤ 17179869184) (B4b : H a2 ≤ 17179869184) (K5 : runL n 163 [.own 0 out_4.length, .agg [.lit (.int .i64 v3), .lit (.bool (rawQ (q3 + a2)).s), natA (rawQ (q3 + a2)).l1, natA (rawQ (q3 + a2)).l2]] [.row 84 4 (out_4.map termC) 0] = some (.own 3 R12.length, [(3, .row 84 4 (R12.map termC) 0)])) (W6 : InI ((i_4 : Int) + 1)) :
    Cont 0 (exec Tryz.prog (tab (n + 1)) 0 61 (livesOf 138) big pl_C4) (livesOf 138 4) (pl_h4 a0 a1 a2 out_4 d_4 i_4) (pl_h4 a0 a1 a2 R12 true (i_4 + 1)) := by
  have C1_ : i_4 < a0.1.length := by omega
  obtain ⟨EL2, EG2⟩ := List.getElem?_eq_some_iff.1 E2
  have C3_ : (v3 == a1) = true := by rw [C3]; simp
  have C3_n : (v3 != a1) = false := by rw [C3]; simp
  have K4 := r_add (p := q3) (q := a2) B4a B4b
  have W6_ : IntKind.i64.wrap ((i_4 : Int) + 1) = (i_4 : Int) + 1 := wr64 W6.1 W6.2
  unfold Cont
  simp +decide [pl_h4, loopsOf, Tryz.f138, pl_C4, C1, C1_, EL2, EG2, E2, C3_, C3_n, K4, K5, W6_]
theorem pl_r4_4 {n : Nat} {a0 : Form} {a1 : Int} {a2 : Rat} {i_4 : Nat} {v3 : Int} {q3 : Rat} {d_4 : Bool} {out_4 : List (Int × Rat)} {R14 : List (Int × Rat)} (C1 : (i_4 : Int) < (a0.1.length : Int)) (E2 : a0.1[i_4]? = some (v3, q3)) (C3 : ¬ v3 = a1) (C4 : d_4 = false) (C5 : a1 < v3) (B6a : H a2 ≤ 17179869184) (K7 : runL n 163 [.own 0 out_4.length, .agg [.lit (.int .i64 a1), .lit (.bool (rawQ a2).s), natA (rawQ a2).l1, natA (rawQ a2).l2]] [.row 84 4 (out_4.map termC) 0] = some (.own 0 out_4.length, [(0, .row 84 4 (out_4.map termC) 0)])) (K8 : runL n 163 [.own 0 out_4.length, .agg [.lit (.int .i64 v3), .lit (.bool (rawQ q3).s), natA (rawQ q3).l1, natA (rawQ q3).l2]] [.row 84 4 (out_4.map termC) 0] = some (.own 3 R14.length, [(3, .row 84 4 (R14.map termC) 0)])) (W9 : InI ((i_4 : Int) + 1)) :
    Cont 0 (exec Tryz.prog (tab (n + 1)) 0 61 (livesOf 138) big pl_C4) (livesOf 138 4) (pl_h4 a0 a1 a2 out_4 d_4 i_4) (pl_h4 a0 a1 a2 R14 true (i_4 + 1)) := by
  have C1_ : i_4 < a0.1.length := by omega
  obtain ⟨EL2, EG2⟩ := List.getElem?_eq_some_iff.1 E2
  have C3_ : (v3 == a1) = false := by simpa using C3
  have C3_n : (v3 != a1) = true := by simpa using C3
  have K6 := r_canon (p := a2) B6a
  have W9_ : IntKind.i64.wrap ((i_4 : Int) + 1) = (i_4 : Int) + 1 := wr64 W9.1 W9.2
  unfold Cont
  simp +decide [pl_h4, loopsOf, Tryz.f138, pl_C4, C1, C1_, EL2, EG2, E2, C3_, C3_n, C4, C5, K6, K7, K8, W9_]
theorem pl_r4_6 {n : Nat} {a0 : Form} {a1 : Int} {a2 : Rat} {i_4 : Nat} {v3 : Int} {q3 : Rat} {d_4 : Bool} {out_4 : List (Int × Rat)} {R13 : List (Int × Rat)} {R15 : List (Int × Rat)} (C1 : (i_4 : Int) < (a0.1.length : Int)) (E2 : a0.1[i_4]? = some (v3, q3)) (C3 : ¬ v3 = a1) (C4 : d_4 = false) (C5 : a1 < v3) (B6a : H a2 ≤ 17179869184) (K7 : runL n 163 [.own 0 out_4.length, .agg [.lit (.int .i64 a1), .lit (.bool (rawQ a2).s), natA (rawQ a2).l1, natA (rawQ a2).l2]] [.row 84 4 (out_4.map termC) 0] = some (.own 3 R13.length, [(3, .row 84 4 (R13.map termC) 0)])) (K8 : runL n 163 [.own 0 R13.length, .agg [.lit (.int .i64 v3), .lit (.bool (rawQ q3).s), natA (rawQ q3).l1, natA (rawQ q3).l2]] [.row 84 4 (R13.map termC) 0] = some (.own 3 R15.length, [(3, .row 84 4 (R15.map termC) 0)])) (W9 : InI ((i_4 : Int) + 1)) :
    Cont 0 (exec Tryz.prog (tab (n + 1)) 0 61 (livesOf 138) big pl_C4) (livesOf 138 4) (pl_h4 a0 a1 a2 out_4 d_4 i_4) (pl_h4 a0 a1 a2 R15 true (i_4 + 1)) := by
  have C1_ : i_4 < a0.1.length := by omega
  obtain ⟨EL2, EG2⟩ := List.getElem?_eq_some_iff.1 E2
  have C3_ : (v3 == a1) = false := by simpa using C3
  have C3_n : (v3 != a1) = true := by simpa using C3
  have K6 := r_canon (p := a2) B6a
  have W9_ : IntKind.i64.wrap ((i_4 : Int) + 1) = (i_4 : Int) + 1 := wr64 W9.1 W9.2
  unfold Cont
  simp +decide [pl_h4, loopsOf, Tryz.f138, pl_C4, C1, C1_, EL2, EG2, E2, C3_, C3_n, C4, C5, K6, K7, K8, W9_]
theorem pl_r4_8 {n : Nat} {a0 : Form} {a1 : Int} {a2 : Rat} {i_4 : Nat} {v3 : Int} {q3 : Rat} {d_4 : Bool} {out_4 : List (Int × Rat)} {R16 : List (Int × Rat)} (C1 : (i_4 : Int) < (a0.1.length : Int)) (E2 : a0.1[i_4]? = some (v3, q3)) (C3 : ¬ v3 = a1) (C4 : d_4 = false) (C5 : ¬ a1 < v3) (K6 : runL n 163 [.own 0 out_4.length, .agg [.lit (.int .i64 v3), .lit (.bool (rawQ q3).s), natA (rawQ q3).l1, natA (rawQ q3).l2]] [.row 84 4 (out_4.map termC) 0] = some (.own 3 R16.length, [(3, .row 84 4 (R16.map termC) 0)])) (W7 : InI ((i_4 : Int) + 1)) :
    Cont 0 (exec Tryz.prog (tab (n + 1)) 0 61 (livesOf 138) big pl_C4) (livesOf 138 4) (pl_h4 a0 a1 a2 out_4 d_4 i_4) (pl_h4 a0 a1 a2 R16 d_4 (i_4 + 1)) := by
  have C1_ : i_4 < a0.1.length := by omega
  obtain ⟨EL2, EG2⟩ := List.getElem?_eq_some_iff.1 E2
  have C3_ : (v3 == a1) = false := by simpa using C3
  have C3_n : (v3 != a1) = true := by simpa using C3
  have W7_ : IntKind.i64.wrap ((i_4 : Int) + 1) = (i_4 : Int) + 1 := wr64 W7.1 W7.2
  unfold Cont
  simp +decide [pl_h4, loopsOf, Tryz.f138, pl_C4, C1, C1_, EL2, EG2, E2, C3_, C3_n, C4, C5, K6, W7_]
theorem pl_r4_10 {n : Nat} {a0 : Form} {a1 : Int} {a2 : Rat} {i_4 : Nat} {v3 : Int} {q3 : Rat} {d_4 : Bool} {out_4 : List (Int × Rat)} {R17 : List (Int × Rat)} (C1 : (i_4 : Int) < (a0.1.length : Int)) (E2 : a0.1[i_4]? = some (v3, q3)) (C3 : ¬ v3 = a1) (C4 : d_4 = true) (K5 : runL n 163 [.own 0 out_4.length, .agg [.lit (.int .i64 v3), .lit (.bool (rawQ q3).s), natA (rawQ q3).l1, natA (rawQ q3).l2]] [.row 84 4 (out_4.map termC) 0] = some (.own 3 R17.length, [(3, .row 84 4 (R17.map termC) 0)])) (W6 : InI ((i_4 : Int) + 1)) :
    Cont 0 (exec Tryz.prog (tab (n + 1)) 0 61 (livesOf 138) big pl_C4) (livesOf 138 4) (pl_h4 a0 a1 a2 out_4 d_4 i_4) (pl_h4 a0 a1 a2 R17 d_4 (i_4 + 1)) := by
  have C1_ : i_4 < a0.1.length := by omega
  obtain ⟨EL2, EG2⟩ := List.getElem?_eq_some_iff.1 E2
  have C3_ : (v3 == a1) = false := by simpa using C3
  have C3_n : (v3 != a1) = true := by simpa using C3
  have W6_ : IntKind.i64.wrap ((i_4 : Int) + 1) = (i_4 : Int) + 1 := wr64 W6.1 W6.2
  unfold Cont
  simp +decide [pl_h4, loopsOf, Tryz.f138, pl_C4, C1, C1_, EL2, EG2, E2, C3_, C3_n, C4, K5, W6_]
theorem pl_x4_1 {n : Nat} {a0 : Form} {a1 : Int} {a2 : Rat} {i_4 : Nat} {out_4 : List (Int × Rat)} {d_4 : Bool} (C1 : ¬ (i_4 : Int) < (a0.1.length : Int)) :
    Leave 0 (exec Tryz.prog (tab (n + 1)) 0 61 (livesOf 138) big pl_C4) (livesOf 138 (outOf 4)) (pl_h4 a0 a1 a2 out_4 d_4 i_4) (.exit 0) (pl_o4a a0 a1 a2 out_4 d_4) := by
  have C1_ : ¬ i_4 < a0.1.length := by omega
  unfold Leave
  simp +decide [pl_h4, loopsOf, Tryz.f138, pl_o4a, pl_C4, C1, C1_]
theorem pl_f1 {n : Nat} {a0 : Form} {a1 : Int} {a2 : Rat} {out_4 : List (Int × Rat)} {d_4 : Bool} (L1 : loopG Tryz.prog (tab (n + 1)) 0 61 (livesOf 138) 4 pl_C4 (pl_h4 a0 a1 a2 [] false 0) = some (.exit 0, pl_o4a a0 a1 a2 out_4 d_4)) (C2 : d_4 = false) (B3a : H a2 ≤ 17179869184) (K4 : runL n 163 [.own 0 out_4.length, .agg [.lit (.int .i64 a1), .lit (.bool (rawQ a2).s), natA (rawQ a2).l1, natA (rawQ a2).l2]] [.row 84 4 (out_4.map termC) 0] = some (.own 0 out_4.length, [(0, .row 84 4 (out_4.map termC) 0)])) :
    run (n + 1) 138 [formV a0, .lit (.int .i64 a1), ratV a2] = some (formV (out_4, a0.2)) := by
  have K3 := r_canon (p := a2) B3a
  unfold run fnP
  simp +decide [Tryz.f138, C2, K3, K4]
  rw [loopX_G (C' := pl_C4) (e := (pl_h4 a0 a1 a2 [] false 0)) ?_ ?_, L1]
  rotate_left
  · kernel_rfl
  · simp +decide [pl_h4, C2, K3, K4]
  simp +decide [pl_o4a, C2, K3, K4]
theorem pl_f2 {n : Nat} {a0 : Form} {a1 : Int} {a2 : Rat} {out_4 : List (Int × Rat)} {d_4 : Bool} {R18 : List (Int × Rat)} (L1 : loopG Tryz.prog (tab (n + 1)) 0 61 (livesOf 138) 4 pl_C4 (pl_h4 a0 a1 a2 [] false 0) = some (.exit 0, pl_o4a a0 a1 a2 out_4 d_4)) (C2 : d_4 = false) (B3a : H a2 ≤ 17179869184) (K4 : runL n 163 [.own 0 out_4.length, .agg [.lit (.int .i64 a1), .lit (.bool (rawQ a2).s), natA (rawQ a2).l1, natA (rawQ a2).l2]] [.row 84 4 (out_4.map termC) 0] = some (.own 3 R18.length, [(3, .row 84 4 (R18.map termC) 0)])) :
    run (n + 1) 138 [formV a0, .lit (.int .i64 a1), ratV a2] = some (formV (R18, a0.2)) := by
  have K3 := r_canon (p := a2) B3a
  unfold run fnP
  simp +decide [Tryz.f138, C2, K3, K4]
  rw [loopX_G (C' := pl_C4) (e := (pl_h4 a0 a1 a2 [] false 0)) ?_ ?_, L1]
  rotate_left
  · kernel_rfl
  · simp +decide [pl_h4, C2, K3, K4]
  simp +decide [pl_o4a, C2, K3, K4]
theorem pl_f3 {n : Nat} {a0 : Form} {a1 : Int} {a2 : Rat} {out_4 : List (Int × Rat)} {d_4 : Bool} (L1 : loopG Tryz.prog (tab (n + 1)) 0 61 (livesOf 138) 4 pl_C4 (pl_h4 a0 a1 a2 [] false 0) = some (.exit 0, pl_o4a a0 a1 a2 out_4 d_4)) (C2 : d_4 = true) :
    run (n + 1) 138 [formV a0, .lit (.int .i64 a1), ratV a2] = some (formV (out_4, a0.2)) := by
  unfold run fnP
  simp +decide [Tryz.f138, C2]
  rw [loopX_G (C' := pl_C4) (e := (pl_h4 a0 a1 a2 [] false 0)) ?_ ?_, L1]
  rotate_left
  · kernel_rfl
  · simp +decide [pl_h4, C2]
  simp +decide [pl_o4a, C2]
end Go.Proofs.YtlpmemelhlnfbaaGreatDoor
set_option linter.all false
set_option maxRecDepth 100000
set_option maxHeartbeats 6400000
namespace Go.Proofs.YtlpmemelhlnfbaaGreatDoor
open Go.RowKit

/-! relucertref07.Add, level 2 -/
noncomputable def ad_C3 : Code := (loopsOf (bodyOf Tryz.f115)).getD 0 .skip
def ad_h3 (a1 : Form) (i_3 : Nat) (l_3 : List (Int × Rat)) (s_3 : Rat) : St :=
  ⟨[(3, .ptr 0 0), (4, .ptr 1 0), (5, .ptr 2 0), (6, .lit (.int .i64 (i_3 : Int)))],
   [(0, some (.box 29 [.sl 4 (a1.1.map termC), .lit (.bool (rawQ a1.2).s), natA (rawQ a1.2).l1, natA (rawQ a1.2).l2] false)),
    (1, some (.box 29 [.nl 4, .lit (.bool false), .nl 1, .nl 1] false)),
    (2, some (.box 29 [.sl 4 (l_3.map termC), .lit (.bool (rawQ s_3).s), natA (rawQ s_3).l1, natA (rawQ s_3).l2] false))], 3⟩
def ad_o3a (l_3 : List (Int × Rat)) (s_3 : Rat) : St :=
  ⟨[(4, .ptr 0 0), (5, .ptr 1 0)],
   [(0, some (.box 29 [.nl 4, .lit (.bool false), .nl 1, .nl 1] false)),
    (1, some (.box 29 [.sl 4 (l_3.map termC), .lit (.bool (rawQ s_3).s), natA (rawQ s_3).l1, natA (rawQ s_3).l2] false))], 2⟩
theorem ad_r3_1 {n : Nat} {a1 : Form} {i_3 : Nat} {v3 : Int} {q3 : Rat} {l_3 : List (Int × Rat)} {s_3 : Rat} {r3 : Form} (C1 : (i_3 : Int) < (a1.1.length : Int)) (E2 : a1.1[i_3]? = some (v3, q3)) (K3 : run (n + 1) 138 [formV (l_3, s_3), .lit (.int .i64 v3), ratV q3] = some (formV r3)) (W4 : InI ((i_3 : Int) + 1)) :
    Cont 0 (exec Tryz.prog (tab (n + 2)) 0 43 (livesOf 115) big ad_C3) (livesOf 115 3) (ad_h3 a1 i_3 l_3 s_3) (ad_h3 a1 (i_3 + 1) r3.1 r3.2) := by
  have C1_ : i_3 < a1.1.length := by omega
  obtain ⟨EL2, EG2⟩ := List.getElem?_eq_some_iff.1 E2
  simp only [ratV, formV] at K3
  have W4_ : IntKind.i64.wrap ((i_3 : Int) + 1) = (i_3 : Int) + 1 := wr64 W4.1 W4.2
  unfold Cont
  simp +decide [ad_h3, loopsOf, Tryz.f115, ad_C3, C1, C1_, EL2, EG2, E2, K3, W4_]
theorem ad_x3_1 {n : Nat} {a1 : Form} {i_3 : Nat} {l_3 : List (Int × Rat)} {s_3 : Rat} (C1 : ¬ (i_3 : Int) < (a1.1.length : Int)) :
    Leave 0 (exec Tryz.prog (tab (n + 2)) 0 43 (livesOf 115) big ad_C3) (livesOf 115 (outOf 3)) (ad_h3 a1 i_3 l_3 s_3) (.exit 0) (ad_o3a l_3 s_3) := by
  have C1_ : ¬ i_3 < a1.1.length := by omega
  unfold Leave
  simp +decide [ad_h3, loopsOf, Tryz.f115, ad_o3a, ad_C3, C1, C1_]
theorem ad_f1 {n : Nat} {a0 : Form} {a1 : Form} {l_3 : List (Int × Rat)} {s_3 : Rat} (B1a : H a0.2 ≤ 17179869184) (B1b : H a1.2 ≤ 17179869184) (L2 : loopG Tryz.prog (tab (n + 2)) 0 43 (livesOf 115) 3 ad_C3 (ad_h3 a1 0 a0.1 (a0.2 + a1.2)) = some (.exit 0, ad_o3a l_3 s_3)) (M3 : l_3.length ≤ 100000000) :
    run (n + 2) 115 [formV a0, formV a1] = some (formV (l_3, s_3)) := by
  have K1 := r_add (p := a0.2) (q := a1.2) B1a B1b
  have M3_ : ∀ b, b ≤ 10000 → roomy (l_3.length) b = true := fun b hb => roomy_s M3 hb
  unfold run fnP
  simp +decide [Tryz.f115, K1, M3_]
  rw [loopX_G (C' := ad_C3) (e := (ad_h3 a1 0 a0.1 (a0.2 + a1.2))) ?_ ?_, L2]
  rotate_left
  · kernel_rfl
  · simp +decide [ad_h3, K1, M3_]
  simp +decide [ad_o3a, K1, M3_]
/-! relucertref07.Scale, level 1 -/
noncomputable def sc_C3 : Code := (loopsOf (bodyOf Tryz.f87)).getD 0 .skip
def sc_h3 (a0 : Form) (a1 : Rat) (i_3 : Nat) (out_3 : List (Int × Rat)) : St :=
  ⟨[(2, .ptr 0 0), (3, .ptr 1 0), (4, .ptr 2 0), (5, .ptr 3 0), (6, .lit (.int .i64 (i_3 : Int)))],
   [(0, some (.box 29 [.sl 4 (a0.1.map termC), .lit (.bool (rawQ a0.2).s), natA (rawQ a0.2).l1, natA (rawQ a0.2).l2] false)),
    (1, some (.box 27 [.lit (.bool (rawQ a1).s), natA (rawQ a1).l1, natA (rawQ a1).l2] false)),
    (2, some (.box 29 [.nl 4, .lit (.bool false), .nl 1, .nl 1] false)),
    (3, some (.box 29 [.own 4 out_3.length, .lit (.bool (rawQ (a0.2 * a1)).s), natA (rawQ (a0.2 * a1)).l1, natA (rawQ (a0.2 * a1)).l2] false)),
    (4, some (.row 84 4 (out_3.map termC) 0))], 5⟩
def sc_o3a (a0 : Form) (a1 : Rat) (out_3 : List (Int × Rat)) : St :=
  ⟨[(4, .ptr 0 0), (5, .ptr 1 0)],
   [(0, some (.box 29 [.nl 4, .lit (.bool false), .nl 1, .nl 1] false)),
    (1, some (.box 29 [.own 2 out_3.length, .lit (.bool (rawQ (a0.2 * a1)).s), natA (rawQ (a0.2 * a1)).l1, natA (rawQ (a0.2 * a1)).l2] false)),
    (2, some (.row 84 4 (out_3.map termC) 0))], 3⟩
theorem sc_r3_1 {n : Nat} {a0 : Form} {a1 : Rat} {i_3 : Nat} {v3 : Int} {q3 : Rat} {out_3 : List (Int × Rat)} (C1 : (i_3 : Int) < (a0.1.length : Int)) (E2 : a0.1[i_3]? = some (v3, q3)) (B3a : H q3 ≤ 17179869184) (B3b : H a1 ≤ 17179869184) (K4 : runL n 163 [.own 0 out_3.length, .agg [.lit (.int .i64 v3), .lit (.bool (rawQ (q3 * a1)).s), natA (rawQ (q3 * a1)).l1, natA (rawQ (q3 * a1)).l2]] [.row 84 4 (out_3.map termC) 0] = some (.own 0 out_3.length, [(0, .row 84 4 (out_3.map termC) 0)])) (W5 : InI ((i_3 : Int) + 1)) :
    Cont 0 (exec Tryz.prog (tab (n + 1)) 0 39 (livesOf 87) big sc_C3) (livesOf 87 3) (sc_h3 a0 a1 i_3 out_3) (sc_h3 a0 a1 (i_3 + 1) out_3) := by
  have C1_ : i_3 < a0.1.length := by omega
  obtain ⟨EL2, EG2⟩ := List.getElem?_eq_some_iff.1 E2
  have K3 := r_mul (p := q3) (q := a1) B3a B3b
  have W5_ : IntKind.i64.wrap ((i_3 : Int) + 1) = (i_3 : Int) + 1 := wr64 W5.1 W5.2
  unfold Cont
  simp +decide [sc_h3, loopsOf, Tryz.f87, sc_C3, C1, C1_, EL2, EG2, E2, K3, K4, W5_]
theorem sc_r3_2 {n : Nat} {a0 : Form} {a1 : Rat} {i_3 : Nat} {v3 : Int} {q3 : Rat} {out_3 : List (Int × Rat)} {R3 : List (Int × Rat)} (C1 : (i_3 : Int) < (a0.1.length : Int)) (E2 : a0.1[i_3]? = some (v3, q3)) (B3a : H q3 ≤ 17179869184) (B3b : H a1 ≤ 17179869184) (K4 : runL n 163 [.own 0 out_3.length, .agg [.lit (.int .i64 v3), .lit (.bool (rawQ (q3 * a1)).s), natA (rawQ (q3 * a1)).l1, natA (rawQ (q3 * a1)).l2]] [.row 84 4 (out_3.map termC) 0] = some (.own 3 R3.length, [(3, .row 84 4 (R3.map termC) 0)])) (W5 : InI ((i_3 : Int) + 1)) :
    Cont 0 (exec Tryz.prog (tab (n + 1)) 0 39 (livesOf 87) big sc_C3) (livesOf 87 3) (sc_h3 a0 a1 i_3 out_3) (sc_h3 a0 a1 (i_3 + 1) R3) := by
  have C1_ : i_3 < a0.1.length := by omega
  obtain ⟨EL2, EG2⟩ := List.getElem?_eq_some_iff.1 E2
  have K3 := r_mul (p := q3) (q := a1) B3a B3b
  have W5_ : IntKind.i64.wrap ((i_3 : Int) + 1) = (i_3 : Int) + 1 := wr64 W5.1 W5.2
  unfold Cont
  simp +decide [sc_h3, loopsOf, Tryz.f87, sc_C3, C1, C1_, EL2, EG2, E2, K3, K4, W5_]
theorem sc_x3_1 {n : Nat} {a0 : Form} {a1 : Rat} {i_3 : Nat} {out_3 : List (Int × Rat)} (C1 : ¬ (i_3 : Int) < (a0.1.length : Int)) :
    Leave 0 (exec Tryz.prog (tab (n + 1)) 0 39 (livesOf 87) big sc_C3) (livesOf 87 (outOf 3)) (sc_h3 a0 a1 i_3 out_3) (.exit 0) (sc_o3a a0 a1 out_3) := by
  have C1_ : ¬ i_3 < a0.1.length := by omega
  unfold Leave
  simp +decide [sc_h3, loopsOf, Tryz.f87, sc_o3a, sc_C3, C1, C1_]
theorem sc_f1 {n : Nat} {a0 : Form} {a1 : Rat} {out_3 : List (Int × Rat)} (B1a : H a0.2 ≤ 17179869184) (B1b : H a1 ≤ 17179869184) (L2 : loopG Tryz.prog (tab (n + 1)) 0 39 (livesOf 87) 3 sc_C3 (sc_h3 a0 a1 0 []) = some (.exit 0, sc_o3a a0 a1 out_3)) :
    run (n + 1) 87 [formV a0, ratV a1] = some (formV (out_3, a0.2 * a1)) := by
  have K1 := r_mul (p := a0.2) (q := a1) B1a B1b
  unfold run fnP
  simp +decide [Tryz.f87, K1]
  rw [loopX_G (C' := sc_C3) (e := (sc_h3 a0 a1 0 [])) ?_ ?_, L2]
  rotate_left
  · kernel_rfl
  · simp +decide [sc_h3, K1]
  simp +decide [sc_o3a, K1]
end Go.Proofs.YtlpmemelhlnfbaaGreatDoor
