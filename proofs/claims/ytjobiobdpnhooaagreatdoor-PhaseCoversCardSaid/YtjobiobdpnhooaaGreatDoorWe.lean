/- Walks: relucertref19.Small, relucertref21.query, relucertref21.Instance. -/
import Derived.Test.YtjobiobdpnhooaaGreatDoorUe
set_option linter.all false
set_option linter.all false
set_option maxRecDepth 100000
set_option maxHeartbeats 6400000
namespace Go.Proofs.YtjobiobdpnhooaaGreatDoor
open Go.RowKit

/-! relucertref19.Small, level 4 -/
noncomputable def sm_C3 : Code := (loopsOf (bodyOf Tryz.f48)).getD 0 .skip
noncomputable def sm_C9 : Code := (loopsOf (bodyOf Tryz.f48)).getD 1 .skip
def sm_h3 (a0 : TFeed) (a1 : Int) (i_3 : Nat) (i2_3 : Int) (out_3 : List Rat) (out2_3 : List Rat) : St :=
  ⟨[(0, .ptr 0 0), (1, .lit (.int .i64 a1)), (4, .ptr 1 0), (5, .ptr 2 0), (6, .lit (.int .i64 (i_3 : Int)))],
   [(0, some (.box 100 [.sl 1 (a0.Raw.map intU8C), .lit (.int .i64 i2_3)] false)),
    (1, some (.box 36 [.nl 3, .nl 3, .nl 4] false)),
    (2, some (.box 36 [.own 3 out_3.length, .own 4 out2_3.length, .nl 4] false)),
    (3, some (.row 26 3 (out_3.map ratC) 0)),
    (4, some (.row 26 3 (out2_3.map ratC) 0))], 5⟩
def sm_h9 (a0 : TFeed) (a1 : Int) (i_9 : Int) (i2_9 : Int) (out_3 : List Rat) (out2_3 : List Rat) (out_9 : List Form) : St :=
  ⟨[(0, .ptr 0 0), (1, .lit (.int .i64 a1)), (4, .ptr 1 0), (5, .ptr 2 0), (9, .lit (.int .i64 i_9))],
   [(0, some (.box 100 [.sl 1 (a0.Raw.map intU8C), .lit (.int .i64 i2_9)] false)),
    (1, some (.box 36 [.nl 3, .nl 3, .nl 4] false)),
    (2, some (.box 36 [.own 3 out_3.length, .own 4 out2_3.length, .own 5 out_9.length] false)),
    (3, some (.row 26 3 (out_3.map ratC) 0)),
    (4, some (.row 26 3 (out2_3.map ratC) 0)),
    (5, some (.row 39 4 (out_9.map formC) 0))], 6⟩
def sm_o3a (a0 : TFeed) (a1 : Int) (i2_3 : Int) (out_3 : List Rat) (out2_3 : List Rat) : St :=
  ⟨[(0, .ptr 0 0), (1, .lit (.int .i64 a1)), (4, .ptr 1 0), (5, .ptr 2 0)],
   [(0, some (.box 100 [.sl 1 (a0.Raw.map intU8C), .lit (.int .i64 i2_3)] false)),
    (1, some (.box 36 [.nl 3, .nl 3, .nl 4] false)),
    (2, some (.box 36 [.own 3 out_3.length, .own 4 out2_3.length, .nl 4] false)),
    (3, some (.row 26 3 (out_3.map ratC) 0)),
    (4, some (.row 26 3 (out2_3.map ratC) 0))], 5⟩
def sm_o9a (a0 : TFeed) (i2_9 : Int) (out_3 : List Rat) (out2_3 : List Rat) (out_9 : List Form) : St :=
  ⟨[(4, .ptr 1 0), (5, .ptr 2 0)],
   [(0, some (.box 100 [.sl 1 (a0.Raw.map intU8C), .lit (.int .i64 i2_9)] false)),
    (1, some (.box 36 [.nl 3, .nl 3, .nl 4] false)),
    (2, some (.box 36 [.own 3 out_3.length, .own 4 out2_3.length, .own 5 out_9.length] false)),
    (3, some (.row 26 3 (out_3.map ratC) 0)),
    (4, some (.row 26 3 (out2_3.map ratC) 0)),
    (5, some (.row 39 4 (out_9.map formC) 0))], 6⟩
theorem sm_r3_1 {n : Nat} {a0 : TFeed} {a1 : Int} {i_3 : Nat} {i2_3 : Int} {r5 : Rat} {z5 : Int} {r6 : Rat} {z6 : Int} {out_3 : List Rat} {out2_3 : List Rat} (C1 : (i_3 : Int) < a1) (K2 : runL (n + 3) 31 [.ptr 0 0] [.box 100 [.sl 1 (a0.Raw.map intU8C), .lit (.int .i64 i2_3)] false] = some (ratV r5, [(0, .box 100 [.sl 1 (a0.Raw.map intU8C), .lit (.int .i64 z5)] false)])) (K3 : runL (n + 3) 31 [.ptr 0 0] [.box 100 [.sl 1 (a0.Raw.map intU8C), .lit (.int .i64 z5)] false] = some (ratV r6, [(0, .box 100 [.sl 1 (a0.Raw.map intU8C), .lit (.int .i64 z6)] false)])) (M4 : out_3.length + 1 ≤ 100000000) (B5a : H r5 ≤ 17179869184) (B5b : H (absQ r6) ≤ 17179869184) (M6 : out2_3.length + 1 ≤ 100000000) (W7 : InI ((i_3 : Int) + 1)) :
    Cont 1 (exec Tryz.prog (tab (n + 4)) 1 49 (livesOf 48) big sm_C3) (livesOf 48 3) (sm_h3 a0 a1 i_3 i2_3 out_3 out2_3) (sm_h3 a0 a1 (i_3 + 1) z6 (out_3 ++ [r5]) (out2_3 ++ [r5 + (absQ r6)])) := by
  simp only [ratV] at K2
  simp only [ratV] at K3
  have M4_ : ∀ b, b ≤ 10000 → roomy (out_3.length + 1) b = true := fun b hb => roomy_s M4 hb
  have K5 := r_add (p := r5) (q := absQ r6) B5a B5b
  simp only [absQ_s, absQ_n, absQ_d] at K5
  have M6_ : ∀ b, b ≤ 10000 → roomy (out2_3.length + 1) b = true := fun b hb => roomy_s M6 hb
  have W7_ : IntKind.i64.wrap ((i_3 : Int) + 1) = (i_3 : Int) + 1 := wr64 W7.1 W7.2
  unfold Cont
  simp +decide [sm_h3, loopsOf, Tryz.f48, sm_C3, C1, K2, K3, M4_, K5, M6_, W7_]
theorem sm_x3_1 {n : Nat} {a0 : TFeed} {a1 : Int} {i_3 : Nat} {i2_3 : Int} {out_3 : List Rat} {out2_3 : List Rat} (C1 : ¬ (i_3 : Int) < a1) :
    Leave 1 (exec Tryz.prog (tab (n + 4)) 1 49 (livesOf 48) big sm_C3) (livesOf 48 (outOf 3)) (sm_h3 a0 a1 i_3 i2_3 out_3 out2_3) (.exit 0) (sm_o3a a0 a1 i2_3 out_3 out2_3) := by
  unfold Leave
  simp +decide [sm_h3, loopsOf, Tryz.f48, sm_o3a, sm_C3, C1]
theorem sm_r9_1 {n : Nat} {a0 : TFeed} {a1 : Int} {i_9 : Int} {i2_9 : Int} {r10 : Form} {z10 : Int} {out_9 : List Form} {out_3 : List Rat} {out2_3 : List Rat} (C1 : 0 < i_9) (K2 : runL (n + 3) 49 [.ptr 0 0, .lit (.int .i64 a1)] [.box 100 [.sl 1 (a0.Raw.map intU8C), .lit (.int .i64 i2_9)] false] = some (formV r10, [(0, .box 100 [.sl 1 (a0.Raw.map intU8C), .lit (.int .i64 z10)] false)])) (M3 : out_9.length + 1 ≤ 100000000) (W4 : InI (i_9 - 1)) :
    Cont 1 (exec Tryz.prog (tab (n + 4)) 1 49 (livesOf 48) big sm_C9) (livesOf 48 9) (sm_h9 a0 a1 i_9 i2_9 out_3 out2_3 out_9) (sm_h9 a0 a1 (i_9 - 1) z10 out_3 out2_3 (out_9 ++ [r10])) := by
  simp only [formV] at K2
  have M3_ : ∀ b, b ≤ 10000 → roomy (out_9.length + 1) b = true := fun b hb => roomy_s M3 hb
  have W4_ : IntKind.i64.wrap (i_9 - 1) = i_9 - 1 := wr64 W4.1 W4.2
  unfold Cont
  simp +decide [sm_h9, loopsOf, Tryz.f48, sm_C9, C1, K2, M3_, W4_]
theorem sm_x9_1 {n : Nat} {a0 : TFeed} {a1 : Int} {i_9 : Int} {i2_9 : Int} {out_3 : List Rat} {out2_3 : List Rat} {out_9 : List Form} (C1 : ¬ 0 < i_9) :
    Leave 1 (exec Tryz.prog (tab (n + 4)) 1 49 (livesOf 48) big sm_C9) (livesOf 48 (outOf 9)) (sm_h9 a0 a1 i_9 i2_9 out_3 out2_3 out_9) (.exit 2) (sm_o9a a0 i2_9 out_3 out2_3 out_9) := by
  unfold Leave
  simp +decide [sm_h9, loopsOf, Tryz.f48, sm_o9a, sm_C9, C1]
theorem sm_f1 {n : Nat} {a0 : TFeed} {a1 : Int} {i2_3 : Int} {out_3 : List Rat} {out2_3 : List Rat} {r7 : Int} {z7 : Int} {i2_9 : Int} {out_9 : List Form} (L1 : loopG Tryz.prog (tab (n + 4)) 1 49 (livesOf 48) 3 sm_C3 (sm_h3 a0 a1 0 a0.At [] []) = some (.exit 0, sm_o3a a0 a1 i2_3 out_3 out2_3)) (K2 : runL (n + 3) 30 [.ptr 0 0, .lit (.int .i64 3)] [.box 100 [.sl 1 (a0.Raw.map intU8C), .lit (.int .i64 i2_3)] false] = some (.lit (.int .i64 r7), [(0, .box 100 [.sl 1 (a0.Raw.map intU8C), .lit (.int .i64 z7)] false)])) (L3 : loopG Tryz.prog (tab (n + 4)) 1 49 (livesOf 48) 9 sm_C9 (sm_h9 a0 a1 r7 z7 out_3 out2_3 []) = some (.exit 2, sm_o9a a0 i2_9 out_3 out2_3 out_9)) :
    runL (n + 4) 48 [.ptr 0 0, .lit (.int .i64 a1)] [.box 100 [.sl 1 (a0.Raw.map intU8C), .lit (.int .i64 (a0.At))] false] = some (.agg [.sl 3 (out_3.map ratC), .sl 3 (out2_3.map ratC), .sl 4 (out_9.map formC)], [(0, .box 100 [.sl 1 (a0.Raw.map intU8C), .lit (.int .i64 i2_9)] false)]) := by
  unfold runL fnL
  simp +decide [Tryz.f48, K2]
  rw [loopX_G (C' := sm_C3) (e := (sm_h3 a0 a1 0 a0.At [] [])) ?_ ?_, L1]
  rotate_left
  · kernel_rfl
  · simp +decide [sm_h3, K2]
  simp +decide [sm_o3a, K2]
  rw [loopX_G (C' := sm_C9) (e := (sm_h9 a0 a1 r7 z7 out_3 out2_3 [])) ?_ ?_, L3]
  rotate_left
  · kernel_rfl
  · simp +decide [sm_h9, K2]
  simp +decide [sm_o9a, K2]
/-! relucertref21.query, level 5 -/
theorem qu_f1 {n : Nat} {a0 : TFeed} {r : TGraph} {z : Int} {r2 : TRegion} {z2 : Int} {r3 : Form} {z3 : Int} (K1 : runL (n + 4) 47 [.ptr 0 0] [.box 100 [.sl 1 (a0.Raw.map intU8C), .lit (.int .i64 (a0.At))] false] = some (graphV r, [(0, .box 100 [.sl 1 (a0.Raw.map intU8C), .lit (.int .i64 z)] false)])) (K2 : runL (n + 4) 48 [.ptr 0 0, .lit (.int .i64 (r.Inputs))] [.box 100 [.sl 1 (a0.Raw.map intU8C), .lit (.int .i64 z)] false] = some (regionV r2, [(0, .box 100 [.sl 1 (a0.Raw.map intU8C), .lit (.int .i64 z2)] false)])) (W3 : InI (r.Inputs + (r.Units.length : Int))) (K4 : runL (n + 4) 49 [.ptr 0 0, .lit (.int .i64 (r.Inputs + (r.Units.length : Int)))] [.box 100 [.sl 1 (a0.Raw.map intU8C), .lit (.int .i64 z2)] false] = some (formV r3, [(0, .box 100 [.sl 1 (a0.Raw.map intU8C), .lit (.int .i64 z3)] false)])) :
    runL (n + 5) 20 [.ptr 0 0] [.box 100 [.sl 1 (a0.Raw.map intU8C), .lit (.int .i64 (a0.At))] false] = some (.agg [.lit (.int .i64 (r.Inputs)), .sl 4 (r.Units.map formC), .sl 4 (r.Outputs.map formC), .sl 3 (r2.Lo.map ratC), .sl 3 (r2.Hi.map ratC), .sl 4 (r2.Rows.map formC), .sl 4 (r3.1.map termC), .lit (.bool (rawQ r3.2).s), natA (rawQ r3.2).l1, natA (rawQ r3.2).l2], [(0, .box 100 [.sl 1 (a0.Raw.map intU8C), .lit (.int .i64 z3)] false)]) := by
  simp only [graphV] at K1
  simp only [regionV] at K2
  have W3_ : IntKind.i64.wrap (r.Inputs + (r.Units.length : Int)) = r.Inputs + (r.Units.length : Int) := wr64 W3.1 W3.2
  simp only [formV] at K4
  unfold runL fnL
  simp +decide [Tryz.f20, K1, K2, W3_, K4]
/-! relucertref21.Instance, level 6 -/
theorem it_f1 {n : Nat} {a0 : List Int} {r : TFeed} {r2 : TQuery} {z : Int} (K1 : runL (n + 5) 21 [.sl 1 (a0.map intU8C)] [] = some (.ptr 2 0, [(2, .box 100 [.sl 1 (r.Raw.map intU8C), .lit (.int .i64 (r.At))] false)])) (K2 : runL (n + 5) 20 [.ptr 0 0] [.box 100 [.sl 1 (r.Raw.map intU8C), .lit (.int .i64 (r.At))] false] = some (queryV r2, [(0, .box 100 [.sl 1 (r.Raw.map intU8C), .lit (.int .i64 z)] false)])) :
    run (n + 6) 7 [.sl 1 (a0.map intU8C)] = some (queryV r2) := by
  simp only [queryV] at K2
  unfold run fnP
  simp +decide [Tryz.f7, K1, K2]
end Go.Proofs.YtjobiobdpnhooaaGreatDoor
