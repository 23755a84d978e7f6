/- Walks: relucertref15.Feed.Form, relucertref15.Feed.Graph. -/
import Derived.Test.YtjobiobdpnhooaaGreatDoorUe
set_option linter.all false
set_option linter.all false
set_option maxRecDepth 100000
set_option maxHeartbeats 6400000
namespace Go.Proofs.YtjobiobdpnhooaaGreatDoor
open Go.RowKit

/-! (*relucertref15.Feed).Form, level 3 -/
noncomputable def fo_C3 : Code := (loopsOf (bodyOf Tryz.f49)).getD 0 .skip
def fo_h3 (a0 : TFeed) (a1 : Int) (i_3 : Nat) (i2_3 : Int) (l_3 : List (Int × Rat)) (s_3 : Rat) : St :=
  ⟨[(0, .ptr 0 0), (1, .lit (.int .i64 a1)), (4, .ptr 1 0), (5, .ptr 2 0), (6, .lit (.int .i64 (i_3 : Int)))],
   [(0, some (.box 100 [.sl 1 (a0.Raw.map intU8C), .lit (.int .i64 i2_3)] false)),
    (1, some (.box 39 [.nl 4, .lit (.bool false), .nl 1, .nl 1] false)),
    (2, some (.box 39 [.sl 4 (l_3.map termC), .lit (.bool (rawQ s_3).s), natA (rawQ s_3).l1, natA (rawQ s_3).l2] false))], 3⟩
def fo_o3a (a0 : TFeed) (i2_3 : Int) (l_3 : List (Int × Rat)) (s_3 : Rat) : St :=
  ⟨[(4, .ptr 1 0), (5, .ptr 2 0)],
   [(0, some (.box 100 [.sl 1 (a0.Raw.map intU8C), .lit (.int .i64 i2_3)] false)),
    (1, some (.box 39 [.nl 4, .lit (.bool false), .nl 1, .nl 1] false)),
    (2, some (.box 39 [.sl 4 (l_3.map termC), .lit (.bool (rawQ s_3).s), natA (rawQ s_3).l1, natA (rawQ s_3).l2] false))], 3⟩
theorem fo_r3_1 {n : Nat} {a0 : TFeed} {a1 : Int} {i_3 : Nat} {i2_3 : Int} {r12 : Int} {z6 : Int} {r13 : Form} {r14 : Rat} {z7 : Int} {r15 : Form} {l_3 : List (Int × Rat)} {s_3 : Rat} {r16 : Form} (C1 : (i_3 : Int) < a1) (K2 : runL (n + 2) 30 [.ptr 0 0, .lit (.int .i64 3)] [.box 100 [.sl 1 (a0.Raw.map intU8C), .lit (.int .i64 i2_3)] false] = some (.lit (.int .i64 r12), [(0, .box 100 [.sl 1 (a0.Raw.map intU8C), .lit (.int .i64 z6)] false)])) (C3 : 0 < r12) (K4 : run (n + 2) 78 [.lit (.int .i64 (i_3 : Int))] = some (formV r13)) (K5 : runL (n + 2) 31 [.ptr 0 0] [.box 100 [.sl 1 (a0.Raw.map intU8C), .lit (.int .i64 z6)] false] = some (ratV r14, [(0, .box 100 [.sl 1 (a0.Raw.map intU8C), .lit (.int .i64 z7)] false)])) (K6 : run (n + 2) 77 [formV r13, ratV r14] = some (formV r15)) (K7 : run (n + 2) 76 [formV (l_3, s_3), formV r15] = some (formV r16)) (W8 : InI ((i_3 : Int) + 1)) :
    Cont 1 (exec Tryz.prog (tab (n + 3)) 1 26 (livesOf 49) big fo_C3) (livesOf 49 3) (fo_h3 a0 a1 i_3 i2_3 l_3 s_3) (fo_h3 a0 a1 (i_3 + 1) z7 r16.1 r16.2) := by
  simp only [formV] at K4
  simp only [ratV] at K5
  simp only [ratV, formV] at K6
  simp only [formV] at K7
  have W8_ : IntKind.i64.wrap ((i_3 : Int) + 1) = (i_3 : Int) + 1 := wr64 W8.1 W8.2
  unfold Cont
  simp +decide [fo_h3, loopsOf, Tryz.f49, fo_C3, C1, K2, C3, K4, K5, K6, K7, W8_]
theorem fo_r3_2 {n : Nat} {a0 : TFeed} {a1 : Int} {i_3 : Nat} {i2_3 : Int} {r12 : Int} {z6 : Int} {l_3 : List (Int × Rat)} {s_3 : Rat} (C1 : (i_3 : Int) < a1) (K2 : runL (n + 2) 30 [.ptr 0 0, .lit (.int .i64 3)] [.box 100 [.sl 1 (a0.Raw.map intU8C), .lit (.int .i64 i2_3)] false] = some (.lit (.int .i64 r12), [(0, .box 100 [.sl 1 (a0.Raw.map intU8C), .lit (.int .i64 z6)] false)])) (C3 : ¬ 0 < r12) (W4 : InI ((i_3 : Int) + 1)) :
    Cont 1 (exec Tryz.prog (tab (n + 3)) 1 26 (livesOf 49) big fo_C3) (livesOf 49 3) (fo_h3 a0 a1 i_3 i2_3 l_3 s_3) (fo_h3 a0 a1 (i_3 + 1) z6 l_3 s_3) := by
  have W4_ : IntKind.i64.wrap ((i_3 : Int) + 1) = (i_3 : Int) + 1 := wr64 W4.1 W4.2
  unfold Cont
  simp +decide [fo_h3, loopsOf, Tryz.f49, fo_C3, C1, K2, C3, W4_]
theorem fo_x3_1 {n : Nat} {a0 : TFeed} {a1 : Int} {i_3 : Nat} {i2_3 : Int} {l_3 : List (Int × Rat)} {s_3 : Rat} (C1 : ¬ (i_3 : Int) < a1) :
    Leave 1 (exec Tryz.prog (tab (n + 3)) 1 26 (livesOf 49) big fo_C3) (livesOf 49 (outOf 3)) (fo_h3 a0 a1 i_3 i2_3 l_3 s_3) (.exit 0) (fo_o3a a0 i2_3 l_3 s_3) := by
  unfold Leave
  simp +decide [fo_h3, loopsOf, Tryz.f49, fo_o3a, fo_C3, C1]
theorem fo_f1 {n : Nat} {a0 : TFeed} {a1 : Int} {r : Rat} {z : Int} {i2_3 : Int} {l_3 : List (Int × Rat)} {s_3 : Rat} (K1 : runL (n + 2) 31 [.ptr 0 0] [.box 100 [.sl 1 (a0.Raw.map intU8C), .lit (.int .i64 (a0.At))] false] = some (ratV r, [(0, .box 100 [.sl 1 (a0.Raw.map intU8C), .lit (.int .i64 z)] false)])) (L2 : loopG Tryz.prog (tab (n + 3)) 1 26 (livesOf 49) 3 fo_C3 (fo_h3 a0 a1 0 z [] r) = some (.exit 0, fo_o3a a0 i2_3 l_3 s_3)) :
    runL (n + 3) 49 [.ptr 0 0, .lit (.int .i64 a1)] [.box 100 [.sl 1 (a0.Raw.map intU8C), .lit (.int .i64 (a0.At))] false] = some (formV (l_3, s_3), [(0, .box 100 [.sl 1 (a0.Raw.map intU8C), .lit (.int .i64 i2_3)] false)]) := by
  simp only [ratV] at K1
  unfold runL fnL
  simp +decide [Tryz.f49, K1]
  rw [loopX_G (C' := fo_C3) (e := (fo_h3 a0 a1 0 z [] r)) ?_ ?_, L2]
  rotate_left
  · kernel_rfl
  · simp +decide [fo_h3, K1]
  simp +decide [fo_o3a, K1]
/-! (*relucertref15.Feed).Graph, level 4 -/
noncomputable def gr_C4 : Code := (loopsOf (bodyOf Tryz.f47)).getD 0 .skip
noncomputable def gr_C8 : Code := (loopsOf (bodyOf Tryz.f47)).getD 1 .skip
def gr_h4 (a0 : TFeed) (r2 : Int) (r3 : Int) (i_4 : Nat) (i2_4 : Int) (r : Int) (out_4 : List Form) : St :=
  ⟨[(0, .ptr 0 0), (2, .ptr 1 0), (3, .ptr 2 0), (4, .lit (.int .i64 r2)), (5, .lit (.int .i64 (1 + r3))), (6, .lit (.int .i64 (i_4 : Int)))],
   [(0, some (.box 100 [.sl 1 (a0.Raw.map intU8C), .lit (.int .i64 i2_4)] false)),
    (1, some (.box 33 [.lit (.int .i64 0), .nl 4, .nl 4] false)),
    (2, some (.box 33 [.lit (.int .i64 (1 + r)), .own 3 out_4.length, .nl 4] false)),
    (3, some (.row 39 4 (out_4.map formC) 0))], 4⟩
def gr_h8 (a0 : TFeed) (r2 : Int) (r3 : Int) (i_8 : Nat) (i2_8 : Int) (r : Int) (out_4 : List Form) (out_8 : List Form) : St :=
  ⟨[(0, .ptr 0 0), (2, .ptr 1 0), (3, .ptr 2 0), (4, .lit (.int .i64 r2)), (5, .lit (.int .i64 (1 + r3))), (7, .lit (.int .i64 (i_8 : Int)))],
   [(0, some (.box 100 [.sl 1 (a0.Raw.map intU8C), .lit (.int .i64 i2_8)] false)),
    (1, some (.box 33 [.lit (.int .i64 0), .nl 4, .nl 4] false)),
    (2, some (.box 33 [.lit (.int .i64 (1 + r)), .own 3 out_4.length, .own 4 out_8.length] false)),
    (3, some (.row 39 4 (out_4.map formC) 0)),
    (4, some (.row 39 4 (out_8.map formC) 0))], 5⟩
def gr_o4a (a0 : TFeed) (r2 : Int) (r3 : Int) (i2_4 : Int) (r : Int) (out_4 : List Form) : St :=
  ⟨[(0, .ptr 0 0), (2, .ptr 1 0), (3, .ptr 2 0), (4, .lit (.int .i64 r2)), (5, .lit (.int .i64 (1 + r3)))],
   [(0, some (.box 100 [.sl 1 (a0.Raw.map intU8C), .lit (.int .i64 i2_4)] false)),
    (1, some (.box 33 [.lit (.int .i64 0), .nl 4, .nl 4] false)),
    (2, some (.box 33 [.lit (.int .i64 (1 + r)), .own 3 out_4.length, .nl 4] false)),
    (3, some (.row 39 4 (out_4.map formC) 0))], 4⟩
def gr_o8a (a0 : TFeed) (i2_8 : Int) (r : Int) (out_4 : List Form) (out_8 : List Form) : St :=
  ⟨[(2, .ptr 1 0), (3, .ptr 2 0)],
   [(0, some (.box 100 [.sl 1 (a0.Raw.map intU8C), .lit (.int .i64 i2_8)] false)),
    (1, some (.box 33 [.lit (.int .i64 0), .nl 4, .nl 4] false)),
    (2, some (.box 33 [.lit (.int .i64 (1 + r)), .own 3 out_4.length, .own 4 out_8.length] false)),
    (3, some (.row 39 4 (out_4.map formC) 0)),
    (4, some (.row 39 4 (out_8.map formC) 0))], 5⟩
theorem gr_r4_1 {n : Nat} {a0 : TFeed} {i_4 : Nat} {r2 : Int} {r : Int} {i2_4 : Int} {r6 : Form} {z6 : Int} {out_4 : List Form} {r3 : Int} (C1 : (i_4 : Int) < r2) (W2 : InI ((1 + r) + (i_4 : Int))) (K3 : runL (n + 3) 49 [.ptr 0 0, .lit (.int .i64 ((1 + r) + (i_4 : Int)))] [.box 100 [.sl 1 (a0.Raw.map intU8C), .lit (.int .i64 i2_4)] false] = some (formV r6, [(0, .box 100 [.sl 1 (a0.Raw.map intU8C), .lit (.int .i64 z6)] false)])) (M4 : out_4.length + 1 ≤ 100000000) (W5 : InI ((i_4 : Int) + 1)) :
    Cont 1 (exec Tryz.prog (tab (n + 4)) 1 50 (livesOf 47) big gr_C4) (livesOf 47 4) (gr_h4 a0 r2 r3 i_4 i2_4 r out_4) (gr_h4 a0 r2 r3 (i_4 + 1) z6 r (out_4 ++ [r6])) := by
  have W2_ : IntKind.i64.wrap ((1 + r) + (i_4 : Int)) = (1 + r) + (i_4 : Int) := wr64 W2.1 W2.2
  simp only [formV] at K3
  have M4_ : ∀ b, b ≤ 10000 → roomy (out_4.length + 1) b = true := fun b hb => roomy_s M4 hb
  have W5_ : IntKind.i64.wrap ((i_4 : Int) + 1) = (i_4 : Int) + 1 := wr64 W5.1 W5.2
  unfold Cont
  simp +decide [gr_h4, loopsOf, Tryz.f47, gr_C4, C1, W2_, K3, M4_, W5_]
theorem gr_x4_1 {n : Nat} {a0 : TFeed} {i_4 : Nat} {r2 : Int} {r3 : Int} {i2_4 : Int} {r : Int} {out_4 : List Form} (C1 : ¬ (i_4 : Int) < r2) :
    Leave 1 (exec Tryz.prog (tab (n + 4)) 1 50 (livesOf 47) big gr_C4) (livesOf 47 (outOf 4)) (gr_h4 a0 r2 r3 i_4 i2_4 r out_4) (.exit 0) (gr_o4a a0 r2 r3 i2_4 r out_4) := by
  unfold Leave
  simp +decide [gr_h4, loopsOf, Tryz.f47, gr_o4a, gr_C4, C1]
theorem gr_r8_1 {n : Nat} {a0 : TFeed} {i_8 : Nat} {r3 : Int} {r : Int} {r2 : Int} {i2_8 : Int} {r9 : Form} {z9 : Int} {out_8 : List Form} {out_4 : List Form} (C1 : (i_8 : Int) < 1 + r3) (W2 : InI ((1 + r) + r2)) (K3 : runL (n + 3) 49 [.ptr 0 0, .lit (.int .i64 ((1 + r) + r2))] [.box 100 [.sl 1 (a0.Raw.map intU8C), .lit (.int .i64 i2_8)] false] = some (formV r9, [(0, .box 100 [.sl 1 (a0.Raw.map intU8C), .lit (.int .i64 z9)] false)])) (M4 : out_8.length + 1 ≤ 100000000) (W5 : InI ((i_8 : Int) + 1)) :
    Cont 1 (exec Tryz.prog (tab (n + 4)) 1 50 (livesOf 47) big gr_C8) (livesOf 47 8) (gr_h8 a0 r2 r3 i_8 i2_8 r out_4 out_8) (gr_h8 a0 r2 r3 (i_8 + 1) z9 r out_4 (out_8 ++ [r9])) := by
  have W2_ : IntKind.i64.wrap ((1 + r) + r2) = (1 + r) + r2 := wr64 W2.1 W2.2
  simp only [formV] at K3
  have M4_ : ∀ b, b ≤ 10000 → roomy (out_8.length + 1) b = true := fun b hb => roomy_s M4 hb
  have W5_ : IntKind.i64.wrap ((i_8 : Int) + 1) = (i_8 : Int) + 1 := wr64 W5.1 W5.2
  unfold Cont
  simp +decide [gr_h8, loopsOf, Tryz.f47, gr_C8, C1, W2_, K3, M4_, W5_]
theorem gr_x8_1 {n : Nat} {a0 : TFeed} {i_8 : Nat} {r3 : Int} {r2 : Int} {i2_8 : Int} {r : Int} {out_4 : List Form} {out_8 : List Form} (C1 : ¬ (i_8 : Int) < 1 + r3) :
    Leave 1 (exec Tryz.prog (tab (n + 4)) 1 50 (livesOf 47) big gr_C8) (livesOf 47 (outOf 8)) (gr_h8 a0 r2 r3 i_8 i2_8 r out_4 out_8) (.exit 2) (gr_o8a a0 i2_8 r out_4 out_8) := by
  unfold Leave
  simp +decide [gr_h8, loopsOf, Tryz.f47, gr_o8a, gr_C8, C1]
theorem gr_f1 {n : Nat} {a0 : TFeed} {r : Int} {z : Int} {r2 : Int} {z2 : Int} {r3 : Int} {z3 : Int} {i2_4 : Int} {out_4 : List Form} {i2_8 : Int} {out_8 : List Form} (K1 : runL (n + 3) 30 [.ptr 0 0, .lit (.int .i64 3)] [.box 100 [.sl 1 (a0.Raw.map intU8C), .lit (.int .i64 (a0.At))] false] = some (.lit (.int .i64 r), [(0, .box 100 [.sl 1 (a0.Raw.map intU8C), .lit (.int .i64 z)] false)])) (W2 : InI (1 + r)) (K3 : runL (n + 3) 30 [.ptr 0 0, .lit (.int .i64 5)] [.box 100 [.sl 1 (a0.Raw.map intU8C), .lit (.int .i64 z)] false] = some (.lit (.int .i64 r2), [(0, .box 100 [.sl 1 (a0.Raw.map intU8C), .lit (.int .i64 z2)] false)])) (K4 : runL (n + 3) 30 [.ptr 0 0, .lit (.int .i64 3)] [.box 100 [.sl 1 (a0.Raw.map intU8C), .lit (.int .i64 z2)] false] = some (.lit (.int .i64 r3), [(0, .box 100 [.sl 1 (a0.Raw.map intU8C), .lit (.int .i64 z3)] false)])) (W5 : InI (1 + r3)) (L6 : loopG Tryz.prog (tab (n + 4)) 1 50 (livesOf 47) 4 gr_C4 (gr_h4 a0 r2 r3 0 z3 r []) = some (.exit 0, gr_o4a a0 r2 r3 i2_4 r out_4)) (L7 : loopG Tryz.prog (tab (n + 4)) 1 50 (livesOf 47) 8 gr_C8 (gr_h8 a0 r2 r3 0 i2_4 r out_4 []) = some (.exit 2, gr_o8a a0 i2_8 r out_4 out_8)) :
    runL (n + 4) 47 [.ptr 0 0] [.box 100 [.sl 1 (a0.Raw.map intU8C), .lit (.int .i64 (a0.At))] false] = some (.agg [.lit (.int .i64 (1 + r)), .sl 4 (out_4.map formC), .sl 4 (out_8.map formC)], [(0, .box 100 [.sl 1 (a0.Raw.map intU8C), .lit (.int .i64 i2_8)] false)]) := by
  have W2_ : IntKind.i64.wrap (1 + r) = 1 + r := wr64 W2.1 W2.2
  have W5_ : IntKind.i64.wrap (1 + r3) = 1 + r3 := wr64 W5.1 W5.2
  unfold runL fnL
  simp +decide [Tryz.f47, K1, W2_, K3, K4, W5_]
  rw [loopX_G (C' := gr_C4) (e := (gr_h4 a0 r2 r3 0 z3 r [])) ?_ ?_, L6]
  rotate_left
  · kernel_rfl
  · simp +decide [gr_h4, K1, W2_, K3, K4, W5_]
  simp +decide [gr_o4a, K1, W2_, K3, K4, W5_]
  rw [loopX_G (C' := gr_C8) (e := (gr_h8 a0 r2 r3 0 i2_4 r out_4 [])) ?_ ?_, L7]
  rotate_left
  · kernel_rfl
  · simp +decide [gr_h8, K1, W2_, K3, K4, W5_]
  simp +decide [gr_o8a, K1, W2_, K3, K4, W5_]
end Go.Proofs.YtjobiobdpnhooaaGreatDoor
