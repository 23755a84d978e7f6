/- Walks: relucertref15.Feed.Form, relucertref15.Feed.Graph. Walks: relucertref07.Valid, relucertref07.ValidAll. Walks: relucertref15.Valid, relucertref15.Vars. Walks: relucertref15.Values, relucertref15.forms, relucertref15.Pre. Walks: relucertref15.Outputs, relucertref15.Small, relucertref15.Point. -/
import Derived.Test.YtlpmemelhlnfbaaGreatDoorGA5
set_option linter.all false
set_option linter.all false
set_option maxRecDepth 100000
set_option maxHeartbeats 6400000
namespace Go.Proofs.YtlpmemelhlnfbaaGreatDoor
open Go.RowKit

/-! (*relucertref15.Feed).Form, level 3 -/
noncomputable def fo_C3 : Code := (loopsOf (bodyOf Tryz.f150)).getD 0 .skip
def fo_h3 (a0 : TFeed) (a1 : Int) (i_3 : Nat) (i2_3 : Int) (l_3 : List (Int × Rat)) (s_3 : Rat) : St :=
  ⟨[(0, .ptr 0 0), (1, .lit (.int .i64 a1)), (4, .ptr 1 0), (5, .ptr 2 0), (6, .lit (.int .i64 (i_3 : Int)))],
   [(0, some (.box 156 [.sl 1 (a0.Raw.map intU8C), .lit (.int .i64 i2_3)] false)),
    (1, some (.box 29 [.nl 4, .lit (.bool false), .nl 1, .nl 1] false)),
    (2, some (.box 29 [.sl 4 (l_3.map termC), .lit (.bool (rawQ s_3).s), natA (rawQ s_3).l1, natA (rawQ s_3).l2] false))], 3⟩
def fo_o3a (a0 : TFeed) (i2_3 : Int) (l_3 : List (Int × Rat)) (s_3 : Rat) : St :=
  ⟨[(4, .ptr 1 0), (5, .ptr 2 0)],
   [(0, some (.box 156 [.sl 1 (a0.Raw.map intU8C), .lit (.int .i64 i2_3)] false)),
    (1, some (.box 29 [.nl 4, .lit (.bool false), .nl 1, .nl 1] false)),
    (2, some (.box 29 [.sl 4 (l_3.map termC), .lit (.bool (rawQ s_3).s), natA (rawQ s_3).l1, natA (rawQ s_3).l2] false))], 3⟩
theorem fo_r3_1 {n : Nat} {a0 : TFeed} {a1 : Int} {i_3 : Nat} {i2_3 : Int} {r12 : Int} {z6 : Int} {r13 : Form} {r14 : Rat} {z7 : Int} {r15 : Form} {l_3 : List (Int × Rat)} {s_3 : Rat} {r16 : Form} (C1 : (i_3 : Int) < a1) (K2 : runL (n + 2) 149 [.ptr 0 0, .lit (.int .i64 3)] [.box 156 [.sl 1 (a0.Raw.map intU8C), .lit (.int .i64 i2_3)] false] = some (.lit (.int .i64 r12), [(0, .box 156 [.sl 1 (a0.Raw.map intU8C), .lit (.int .i64 z6)] false)])) (C3 : 0 < r12) (K4 : run (n + 2) 88 [.lit (.int .i64 (i_3 : Int))] = some (formV r13)) (K5 : runL (n + 2) 92 [.ptr 0 0] [.box 156 [.sl 1 (a0.Raw.map intU8C), .lit (.int .i64 z6)] false] = some (ratV r14, [(0, .box 156 [.sl 1 (a0.Raw.map intU8C), .lit (.int .i64 z7)] false)])) (K6 : run (n + 2) 87 [formV r13, ratV r14] = some (formV r15)) (K7 : run (n + 2) 115 [formV (l_3, s_3), formV r15] = some (formV r16)) (W8 : InI ((i_3 : Int) + 1)) :
    Cont 1 (exec Tryz.prog (tab (n + 3)) 1 26 (livesOf 150) big fo_C3) (livesOf 150 3) (fo_h3 a0 a1 i_3 i2_3 l_3 s_3) (fo_h3 a0 a1 (i_3 + 1) z7 r16.1 r16.2) := by
  simp only [formV] at K4
  simp only [ratV] at K5
  simp only [ratV, formV] at K6
  simp only [formV] at K7
  have W8_ : IntKind.i64.wrap ((i_3 : Int) + 1) = (i_3 : Int) + 1 := wr64 W8.1 W8.2
  unfold Cont
  simp +decide [fo_h3, loopsOf, Tryz.f150, fo_C3, C1, K2, C3, K4, K5, K6, K7, W8_]
theorem fo_r3_2 {n : Nat} {a0 : TFeed} {a1 : Int} {i_3 : Nat} {i2_3 : Int} {r12 : Int} {z6 : Int} {l_3 : List (Int × Rat)} {s_3 : Rat} (C1 : (i_3 : Int) < a1) (K2 : runL (n + 2) 149 [.ptr 0 0, .lit (.int .i64 3)] [.box 156 [.sl 1 (a0.Raw.map intU8C), .lit (.int .i64 i2_3)] false] = some (.lit (.int .i64 r12), [(0, .box 156 [.sl 1 (a0.Raw.map intU8C), .lit (.int .i64 z6)] false)])) (C3 : ¬ 0 < r12) (W4 : InI ((i_3 : Int) + 1)) :
    Cont 1 (exec Tryz.prog (tab (n + 3)) 1 26 (livesOf 150) big fo_C3) (livesOf 150 3) (fo_h3 a0 a1 i_3 i2_3 l_3 s_3) (fo_h3 a0 a1 (i_3 + 1) z6 l_3 s_3) := by
  have W4_ : IntKind.i64.wrap ((i_3 : Int) + 1) = (i_3 : Int) + 1 := wr64 W4.1 W4.2
  unfold Cont
  simp +decide [fo_h3, loopsOf, Tryz.f150, fo_C3, C1, K2, C3, W4_]
theorem fo_x3_1 {n : Nat} {a0 : TFeed} {a1 : Int} {i_3 : Nat} {i2_3 : Int} {l_3 : List (Int × Rat)} {s_3 : Rat} (C1 : ¬ (i_3 : Int) < a1) :
    Leave 1 (exec Tryz.prog (tab (n + 3)) 1 26 (livesOf 150) big fo_C3) (livesOf 150 (outOf 3)) (fo_h3 a0 a1 i_3 i2_3 l_3 s_3) (.exit 0) (fo_o3a a0 i2_3 l_3 s_3) := by
  unfold Leave
  simp +decide [fo_h3, loopsOf, Tryz.f150, fo_o3a, fo_C3, C1]
theorem fo_f1 {n : Nat} {a0 : TFeed} {a1 : Int} {r : Rat} {z : Int} {i2_3 : Int} {l_3 : List (Int × Rat)} {s_3 : Rat} (K1 : runL (n + 2) 92 [.ptr 0 0] [.box 156 [.sl 1 (a0.Raw.map intU8C), .lit (.int .i64 (a0.At))] false] = some (ratV r, [(0, .box 156 [.sl 1 (a0.Raw.map intU8C), .lit (.int .i64 z)] false)])) (L2 : loopG Tryz.prog (tab (n + 3)) 1 26 (livesOf 150) 3 fo_C3 (fo_h3 a0 a1 0 z [] r) = some (.exit 0, fo_o3a a0 i2_3 l_3 s_3)) :
    runL (n + 3) 150 [.ptr 0 0, .lit (.int .i64 a1)] [.box 156 [.sl 1 (a0.Raw.map intU8C), .lit (.int .i64 (a0.At))] false] = some (formV (l_3, s_3), [(0, .box 156 [.sl 1 (a0.Raw.map intU8C), .lit (.int .i64 i2_3)] false)]) := by
  simp only [ratV] at K1
  unfold runL fnL
  simp +decide [Tryz.f150, K1]
  rw [loopX_G (C' := fo_C3) (e := (fo_h3 a0 a1 0 z [] r)) ?_ ?_, L2]
  rotate_left
  · kernel_rfl
  · simp +decide [fo_h3, K1]
  simp +decide [fo_o3a, K1]
/-! (*relucertref15.Feed).Graph, level 4 -/
noncomputable def gr_C4 : Code := (loopsOf (bodyOf Tryz.f75)).getD 0 .skip
noncomputable def gr_C8 : Code := (loopsOf (bodyOf Tryz.f75)).getD 1 .skip
def gr_h4 (a0 : TFeed) (r2 : Int) (r3 : Int) (i_4 : Nat) (i2_4 : Int) (r : Int) (out_4 : List Form) : St :=
  ⟨[(0, .ptr 0 0), (2, .ptr 1 0), (3, .ptr 2 0), (4, .lit (.int .i64 r2)), (5, .lit (.int .i64 (1 + r3))), (6, .lit (.int .i64 (i_4 : Int)))],
   [(0, some (.box 156 [.sl 1 (a0.Raw.map intU8C), .lit (.int .i64 i2_4)] false)),
    (1, some (.box 38 [.lit (.int .i64 0), .nl 4, .nl 4] false)),
    (2, some (.box 38 [.lit (.int .i64 (1 + r)), .own 3 out_4.length, .nl 4] false)),
    (3, some (.row 29 4 (out_4.map formC) 0))], 4⟩
def gr_h8 (a0 : TFeed) (r2 : Int) (r3 : Int) (i_8 : Nat) (i2_8 : Int) (r : Int) (out_4 : List Form) (out_8 : List Form) : St :=
  ⟨[(0, .ptr 0 0), (2, .ptr 1 0), (3, .ptr 2 0), (4, .lit (.int .i64 r2)), (5, .lit (.int .i64 (1 + r3))), (7, .lit (.int .i64 (i_8 : Int)))],
   [(0, some (.box 156 [.sl 1 (a0.Raw.map intU8C), .lit (.int .i64 i2_8)] false)),
    (1, some (.box 38 [.lit (.int .i64 0), .nl 4, .nl 4] false)),
    (2, some (.box 38 [.lit (.int .i64 (1 + r)), .own 3 out_4.length, .own 4 out_8.length] false)),
    (3, some (.row 29 4 (out_4.map formC) 0)),
    (4, some (.row 29 4 (out_8.map formC) 0))], 5⟩
def gr_o4a (a0 : TFeed) (r2 : Int) (r3 : Int) (i2_4 : Int) (r : Int) (out_4 : List Form) : St :=
  ⟨[(0, .ptr 0 0), (2, .ptr 1 0), (3, .ptr 2 0), (4, .lit (.int .i64 r2)), (5, .lit (.int .i64 (1 + r3)))],
   [(0, some (.box 156 [.sl 1 (a0.Raw.map intU8C), .lit (.int .i64 i2_4)] false)),
    (1, some (.box 38 [.lit (.int .i64 0), .nl 4, .nl 4] false)),
    (2, some (.box 38 [.lit (.int .i64 (1 + r)), .own 3 out_4.length, .nl 4] false)),
    (3, some (.row 29 4 (out_4.map formC) 0))], 4⟩
def gr_o8a (a0 : TFeed) (i2_8 : Int) (r : Int) (out_4 : List Form) (out_8 : List Form) : St :=
  ⟨[(2, .ptr 1 0), (3, .ptr 2 0)],
   [(0, some (.box 156 [.sl 1 (a0.Raw.map intU8C), .lit (.int .i64 i2_8)] false)),
    (1, some (.box 38 [.lit (.int .i64 0), .nl 4, .nl 4] false)),
    (2, some (.box 38 [.lit (.int .i64 (1 + r)), .own 3 out_4.length, .own 4 out_8.length] false)),
    (3, some (.row 29 4 (out_4.map formC) 0)),
    (4, some (.row 29 4 (out_8.map formC) 0))], 5⟩
theorem gr_r4_1 {n : Nat} {a0 : TFeed} {i_4 : Nat} {r2 : Int} {r : Int} {i2_4 : Int} {r6 : Form} {z6 : Int} {out_4 : List Form} {r3 : Int} (C1 : (i_4 : Int) < r2) (W2 : InI ((1 + r) + (i_4 : Int))) (K3 : runL (n + 3) 150 [.ptr 0 0, .lit (.int .i64 ((1 + r) + (i_4 : Int)))] [.box 156 [.sl 1 (a0.Raw.map intU8C), .lit (.int .i64 i2_4)] false] = some (formV r6, [(0, .box 156 [.sl 1 (a0.Raw.map intU8C), .lit (.int .i64 z6)] false)])) (M4 : out_4.length + 1 ≤ 100000000) (W5 : InI ((i_4 : Int) + 1)) :
    Cont 1 (exec Tryz.prog (tab (n + 4)) 1 50 (livesOf 75) big gr_C4) (livesOf 75 4) (gr_h4 a0 r2 r3 i_4 i2_4 r out_4) (gr_h4 a0 r2 r3 (i_4 + 1) z6 r (out_4 ++ [r6])) := by
  have W2_ : IntKind.i64.wrap ((1 + r) + (i_4 : Int)) = (1 + r) + (i_4 : Int) := wr64 W2.1 W2.2
  simp only [formV] at K3
  have M4_ : ∀ b, b ≤ 10000 → roomy (out_4.length + 1) b = true := fun b hb => roomy_s M4 hb
  have W5_ : IntKind.i64.wrap ((i_4 : Int) + 1) = (i_4 : Int) + 1 := wr64 W5.1 W5.2
  unfold Cont
  simp +decide [gr_h4, loopsOf, Tryz.f75, gr_C4, C1, W2_, K3, M4_, W5_]
theorem gr_x4_1 {n : Nat} {a0 : TFeed} {i_4 : Nat} {r2 : Int} {r3 : Int} {i2_4 : Int} {r : Int} {out_4 : List Form} (C1 : ¬ (i_4 : Int) < r2) :
    Leave 1 (exec Tryz.prog (tab (n + 4)) 1 50 (livesOf 75) big gr_C4) (livesOf 75 (outOf 4)) (gr_h4 a0 r2 r3 i_4 i2_4 r out_4) (.exit 0) (gr_o4a a0 r2 r3 i2_4 r out_4) := by
  unfold Leave
  simp +decide [gr_h4, loopsOf, Tryz.f75, gr_o4a, gr_C4, C1]
theorem gr_r8_1 {n : Nat} {a0 : TFeed} {i_8 : Nat} {r3 : Int} {r : Int} {r2 : Int} {i2_8 : Int} {r9 : Form} {z9 : Int} {out_8 : List Form} {out_4 : List Form} (C1 : (i_8 : Int) < 1 + r3) (W2 : InI ((1 + r) + r2)) (K3 : runL (n + 3) 150 [.ptr 0 0, .lit (.int .i64 ((1 + r) + r2))] [.box 156 [.sl 1 (a0.Raw.map intU8C), .lit (.int .i64 i2_8)] false] = some (formV r9, [(0, .box 156 [.sl 1 (a0.Raw.map intU8C), .lit (.int .i64 z9)] false)])) (M4 : out_8.length + 1 ≤ 100000000) (W5 : InI ((i_8 : Int) + 1)) :
    Cont 1 (exec Tryz.prog (tab (n + 4)) 1 50 (livesOf 75) big gr_C8) (livesOf 75 8) (gr_h8 a0 r2 r3 i_8 i2_8 r out_4 out_8) (gr_h8 a0 r2 r3 (i_8 + 1) z9 r out_4 (out_8 ++ [r9])) := by
  have W2_ : IntKind.i64.wrap ((1 + r) + r2) = (1 + r) + r2 := wr64 W2.1 W2.2
  simp only [formV] at K3
  have M4_ : ∀ b, b ≤ 10000 → roomy (out_8.length + 1) b = true := fun b hb => roomy_s M4 hb
  have W5_ : IntKind.i64.wrap ((i_8 : Int) + 1) = (i_8 : Int) + 1 := wr64 W5.1 W5.2
  unfold Cont
  simp +decide [gr_h8, loopsOf, Tryz.f75, gr_C8, C1, W2_, K3, M4_, W5_]
theorem gr_x8_1 {n : Nat} {a0 : TFeed} {i_8 : Nat} {r3 : Int} {r2 : Int} {i2_8 : Int} {r : Int} {out_4 : List Form} {out_8 : List Form} (C1 : ¬ (i_8 : Int) < 1 + r3) :
    Leave 1 (exec Tryz.prog (tab (n + 4)) 1 50 (livesOf 75) big gr_C8) (livesOf 75 (outOf 8)) (gr_h8 a0 r2 r3 i_8 i2_8 r out_4 out_8) (.exit 2) (gr_o8a a0 i2_8 r out_4 out_8) := by
  unfold Leave
  simp +decide [gr_h8, loopsOf, Tryz.f75, gr_o8a, gr_C8, C1]
theorem gr_f1 {n : Nat} {a0 : TFeed} {r : Int} {z : Int} {r2 : Int} {z2 : Int} {r3 : Int} {z3 : Int} {i2_4 : Int} {out_4 : List Form} {i2_8 : Int} {out_8 : List Form} (K1 : runL (n + 3) 149 [.ptr 0 0, .lit (.int .i64 3)] [.box 156 [.sl 1 (a0.Raw.map intU8C), .lit (.int .i64 (a0.At))] false] = some (.lit (.int .i64 r), [(0, .box 156 [.sl 1 (a0.Raw.map intU8C), .lit (.int .i64 z)] false)])) (W2 : InI (1 + r)) (K3 : runL (n + 3) 149 [.ptr 0 0, .lit (.int .i64 5)] [.box 156 [.sl 1 (a0.Raw.map intU8C), .lit (.int .i64 z)] false] = some (.lit (.int .i64 r2), [(0, .box 156 [.sl 1 (a0.Raw.map intU8C), .lit (.int .i64 z2)] false)])) (K4 : runL (n + 3) 149 [.ptr 0 0, .lit (.int .i64 3)] [.box 156 [.sl 1 (a0.Raw.map intU8C), .lit (.int .i64 z2)] false] = some (.lit (.int .i64 r3), [(0, .box 156 [.sl 1 (a0.Raw.map intU8C), .lit (.int .i64 z3)] false)])) (W5 : InI (1 + r3)) (L6 : loopG Tryz.prog (tab (n + 4)) 1 50 (livesOf 75) 4 gr_C4 (gr_h4 a0 r2 r3 0 z3 r []) = some (.exit 0, gr_o4a a0 r2 r3 i2_4 r out_4)) (L7 : loopG Tryz.prog (tab (n + 4)) 1 50 (livesOf 75) 8 gr_C8 (gr_h8 a0 r2 r3 0 i2_4 r out_4 []) = some (.exit 2, gr_o8a a0 i2_8 r out_4 out_8)) :
    runL (n + 4) 75 [.ptr 0 0] [.box 156 [.sl 1 (a0.Raw.map intU8C), .lit (.int .i64 (a0.At))] false] = some (.agg [.lit (.int .i64 (1 + r)), .sl 4 (out_4.map formC), .sl 4 (out_8.map formC)], [(0, .box 156 [.sl 1 (a0.Raw.map intU8C), .lit (.int .i64 i2_8)] false)]) := by
  have W2_ : IntKind.i64.wrap (1 + r) = 1 + r := wr64 W2.1 W2.2
  have W5_ : IntKind.i64.wrap (1 + r3) = 1 + r3 := wr64 W5.1 W5.2
  unfold runL fnL
  simp +decide [Tryz.f75, K1, W2_, K3, K4, W5_]
  rw [loopX_G (C' := gr_C4) (e := (gr_h4 a0 r2 r3 0 z3 r [])) ?_ ?_, L6]
  rotate_left
  · kernel_rfl
  · simp +decide [gr_h4, K1, W2_, K3, K4, W5_]
  simp +decide [gr_o4a, K1, W2_, K3, K4, W5_]
  rw [loopX_G (C' := gr_C8) (e := (gr_h8 a0 r2 r3 0 i2_4 r out_4 [])) ?_ ?_, L7]
  rotate_left
  · kernel_rfl
  · simp +decide [gr_h8, K1, W2_, K3, K4, W5_]
  simp +decide [gr_o8a, K1, W2_, K3, K4, W5_]
end Go.Proofs.YtlpmemelhlnfbaaGreatDoor
set_option linter.all false
set_option maxRecDepth 100000
set_option maxHeartbeats 6400000
namespace Go.Proofs.YtlpmemelhlnfbaaGreatDoor
open Go.RowKit

/-! relucertref07.Valid, level 0 -/
noncomputable def va_C2 : Code := (loopsOf (bodyOf Tryz.f51)).getD 0 .skip
def va_h2 (a0 : Form) (a1 : Int) (i_2 : Nat) : St :=
  ⟨[(1, .lit (.int .i64 a1)), (2, .ptr 0 0), (5, .lit (.int .i64 (i_2 : Int)))],
   [(0, some (.box 29 [.sl 4 (a0.1.map termC), .lit (.bool (rawQ a0.2).s), natA (rawQ a0.2).l1, natA (rawQ a0.2).l2] false))], 1⟩
def va_o2a (a0 : Form) : St :=
  ⟨[(2, .ptr 0 0), (4, .lit (.bool false))],
   [(0, some (.box 29 [.sl 4 (a0.1.map termC), .lit (.bool (rawQ a0.2).s), natA (rawQ a0.2).l1, natA (rawQ a0.2).l2] false))], 1⟩
def va_o2b (a0 : Form) : St :=
  ⟨[(2, .ptr 0 0), (4, .any)],
   [(0, some (.box 29 [.sl 4 (a0.1.map termC), .lit (.bool (rawQ a0.2).s), natA (rawQ a0.2).l1, natA (rawQ a0.2).l2] false))], 1⟩
theorem va_r2_1 {n : Nat} {a0 : Form} {a1 : Int} {i_2 : Nat} {v4 : Int} {q4 : Rat} {v5 : Int} {q5 : Rat} (C1 : (i_2 : Int) < (a0.1.length : Int)) (E2 : a0.1[i_2]? = some (v4, q4)) (C3 : ¬ v4 < 0) (C4 : ¬ a1 ≤ v4) (C5 : 0 < (i_2 : Int)) (W6 : InI ((i_2 : Int) - 1)) (E7 : a0.1[i_2 - 1]? = some (v5, q5)) (Z7 : 1 ≤ i_2) (C8 : ¬ v4 ≤ v5) (B9a : H q4 ≤ 17179869184) (C10 : ¬ sgR q4 = 0) (W12 : InI ((i_2 : Int) + 1)) :
    Cont 0 (exec Tryz.prog (tab n) 0 59 (livesOf 51) big va_C2) (livesOf 51 2) (va_h2 a0 a1 i_2) (va_h2 a0 a1 (i_2 + 1)) := by
  have C1_ : i_2 < a0.1.length := by omega
  obtain ⟨EL2, EG2⟩ := List.getElem?_eq_some_iff.1 E2
  have C5_ : 0 < i_2 := by omega
  have C5_z : (i_2 : Int) ≠ 0 := by omega
  have C5_e : ((i_2 : Int) == 0) = false := by simpa using C5_z
  have C5_g : ((i_2 : Int) != 0) = true := by simpa using C5_z
  have W6_ : IntKind.i64.wrap ((i_2 : Int) - 1) = (i_2 : Int) - 1 := wr64 W6.1 W6.2
  obtain ⟨EL7, EG7⟩ := List.getElem?_eq_some_iff.1 E7
  have Z7_0 : (1 : Int) ≤ (i_2 : Int) := by omega
  have Z7_1 : 0 ≤ (i_2 : Int) - 1 := by omega
  have K9 := r_sign (p := q4) B9a
  have C10_ : (sgR q4 == 0) = false := by simpa using C10
  have C10_n : (sgR q4 != 0) = true := by simpa using C10
  have K11 := r_valid (p := q4) B9a
  have W12_ : IntKind.i64.wrap ((i_2 : Int) + 1) = (i_2 : Int) + 1 := wr64 W12.1 W12.2
  unfold Cont
  simp +decide [va_h2, loopsOf, Tryz.f51, va_C2, C1, C1_, EL2, EG2, E2, C3, C4, C5, C5_, C5_e, C5_g, W6_, EL7, EG7, E7, Z7, Z7_0, Z7_1, C8, K9, C10_, C10_n, K11, W12_]
theorem va_r2_2 {n : Nat} {a0 : Form} {a1 : Int} {i_2 : Nat} {v4 : Int} {q4 : Rat} (C1 : (i_2 : Int) < (a0.1.length : Int)) (E2 : a0.1[i_2]? = some (v4, q4)) (C3 : ¬ v4 < 0) (C4 : ¬ a1 ≤ v4) (C5 : ¬ 0 < (i_2 : Int)) (B6a : H q4 ≤ 17179869184) (C7 : ¬ sgR q4 = 0) (W9 : InI ((i_2 : Int) + 1)) :
    Cont 0 (exec Tryz.prog (tab n) 0 59 (livesOf 51) big va_C2) (livesOf 51 2) (va_h2 a0 a1 i_2) (va_h2 a0 a1 (i_2 + 1)) := by
  have C1_ : i_2 < a0.1.length := by omega
  obtain ⟨EL2, EG2⟩ := List.getElem?_eq_some_iff.1 E2
  have C5_ : ¬ 0 < i_2 := by omega
  have C5_z : (i_2 : Int) = 0 := by omega
  have C5_e : ((i_2 : Int) == 0) = true := by rw [C5_z]; simp
  have C5_g : ((i_2 : Int) != 0) = false := by rw [C5_z]; simp
  have K6 := r_sign (p := q4) B6a
  have C7_ : (sgR q4 == 0) = false := by simpa using C7
  have C7_n : (sgR q4 != 0) = true := by simpa using C7
  have K8 := r_valid (p := q4) B6a
  have W9_ : IntKind.i64.wrap ((i_2 : Int) + 1) = (i_2 : Int) + 1 := wr64 W9.1 W9.2
  unfold Cont
  simp +decide [va_h2, loopsOf, Tryz.f51, va_C2, C1, C1_, EL2, EG2, E2, C3, C4, C5, C5_, C5_e, C5_g, K6, C7_, C7_n, K8, W9_]
theorem va_x2_1 {n : Nat} {a0 : Form} {a1 : Int} {i_2 : Nat} {v4 : Int} {q4 : Rat} (C1 : (i_2 : Int) < (a0.1.length : Int)) (E2 : a0.1[i_2]? = some (v4, q4)) (C3 : v4 < 0) :
    Leave 0 (exec Tryz.prog (tab n) 0 59 (livesOf 51) big va_C2) (livesOf 51 (outOf 2)) (va_h2 a0 a1 i_2) (.ret) (va_o2a a0) := by
  have C1_ : i_2 < a0.1.length := by omega
  obtain ⟨EL2, EG2⟩ := List.getElem?_eq_some_iff.1 E2
  unfold Leave
  simp +decide [va_h2, loopsOf, Tryz.f51, va_o2a, va_C2, C1, C1_, EL2, EG2, E2, C3]
theorem va_x2_2 {n : Nat} {a0 : Form} {a1 : Int} {i_2 : Nat} {v4 : Int} {q4 : Rat} (C1 : (i_2 : Int) < (a0.1.length : Int)) (E2 : a0.1[i_2]? = some (v4, q4)) (C3 : ¬ v4 < 0) (C4 : a1 ≤ v4) :
    Leave 0 (exec Tryz.prog (tab n) 0 59 (livesOf 51) big va_C2) (livesOf 51 (outOf 2)) (va_h2 a0 a1 i_2) (.ret) (va_o2a a0) := by
  have C1_ : i_2 < a0.1.length := by omega
  obtain ⟨EL2, EG2⟩ := List.getElem?_eq_some_iff.1 E2
  unfold Leave
  simp +decide [va_h2, loopsOf, Tryz.f51, va_o2a, va_C2, C1, C1_, EL2, EG2, E2, C3, C4]
theorem va_x2_3 {n : Nat} {a0 : Form} {a1 : Int} {i_2 : Nat} {v4 : Int} {q4 : Rat} {v5 : Int} {q5 : Rat} (C1 : (i_2 : Int) < (a0.1.length : Int)) (E2 : a0.1[i_2]? = some (v4, q4)) (C3 : ¬ v4 < 0) (C4 : ¬ a1 ≤ v4) (C5 : 0 < (i_2 : Int)) (W6 : InI ((i_2 : Int) - 1)) (E7 : a0.1[i_2 - 1]? = some (v5, q5)) (Z7 : 1 ≤ i_2) (C8 : v4 ≤ v5) :
    Leave 0 (exec Tryz.prog (tab n) 0 59 (livesOf 51) big va_C2) (livesOf 51 (outOf 2)) (va_h2 a0 a1 i_2) (.ret) (va_o2a a0) := by
  have C1_ : i_2 < a0.1.length := by omega
  obtain ⟨EL2, EG2⟩ := List.getElem?_eq_some_iff.1 E2
  have C5_ : 0 < i_2 := by omega
  have C5_z : (i_2 : Int) ≠ 0 := by omega
  have C5_e : ((i_2 : Int) == 0) = false := by simpa using C5_z
  have C5_g : ((i_2 : Int) != 0) = true := by simpa using C5_z
  have W6_ : IntKind.i64.wrap ((i_2 : Int) - 1) = (i_2 : Int) - 1 := wr64 W6.1 W6.2
  obtain ⟨EL7, EG7⟩ := List.getElem?_eq_some_iff.1 E7
  have Z7_0 : (1 : Int) ≤ (i_2 : Int) := by omega
  have Z7_1 : 0 ≤ (i_2 : Int) - 1 := by omega
  unfold Leave
  simp +decide [va_h2, loopsOf, Tryz.f51, va_o2a, va_C2, C1, C1_, EL2, EG2, E2, C3, C4, C5, C5_, C5_e, C5_g, W6_, EL7, EG7, E7, Z7, Z7_0, Z7_1, C8]
theorem va_x2_4 {n : Nat} {a0 : Form} {a1 : Int} {i_2 : Nat} {v4 : Int} {q4 : Rat} {v5 : Int} {q5 : Rat} (C1 : (i_2 : Int) < (a0.1.length : Int)) (E2 : a0.1[i_2]? = some (v4, q4)) (C3 : ¬ v4 < 0) (C4 : ¬ a1 ≤ v4) (C5 : 0 < (i_2 : Int)) (W6 : InI ((i_2 : Int) - 1)) (E7 : a0.1[i_2 - 1]? = some (v5, q5)) (Z7 : 1 ≤ i_2) (C8 : ¬ v4 ≤ v5) (B9a : H q4 ≤ 17179869184) (C10 : sgR q4 = 0) :
    Leave 0 (exec Tryz.prog (tab n) 0 59 (livesOf 51) big va_C2) (livesOf 51 (outOf 2)) (va_h2 a0 a1 i_2) (.ret) (va_o2a a0) := by
  have C1_ : i_2 < a0.1.length := by omega
  obtain ⟨EL2, EG2⟩ := List.getElem?_eq_some_iff.1 E2
  have C5_ : 0 < i_2 := by omega
  have C5_z : (i_2 : Int) ≠ 0 := by omega
  have C5_e : ((i_2 : Int) == 0) = false := by simpa using C5_z
  have C5_g : ((i_2 : Int) != 0) = true := by simpa using C5_z
  have W6_ : IntKind.i64.wrap ((i_2 : Int) - 1) = (i_2 : Int) - 1 := wr64 W6.1 W6.2
  obtain ⟨EL7, EG7⟩ := List.getElem?_eq_some_iff.1 E7
  have Z7_0 : (1 : Int) ≤ (i_2 : Int) := by omega
  have Z7_1 : 0 ≤ (i_2 : Int) - 1 := by omega
  have K9 := r_sign (p := q4) B9a
  have C10_ : (sgR q4 == 0) = true := by rw [C10]; simp
  have C10_n : (sgR q4 != 0) = false := by rw [C10]; simp
  unfold Leave
  simp +decide [va_h2, loopsOf, Tryz.f51, va_o2a, va_C2, C1, C1_, EL2, EG2, E2, C3, C4, C5, C5_, C5_e, C5_g, W6_, EL7, EG7, E7, Z7, Z7_0, Z7_1, C8, K9, C10_, C10_n]
theorem va_x2_5 {n : Nat} {a0 : Form} {a1 : Int} {i_2 : Nat} {v4 : Int} {q4 : Rat} (C1 : (i_2 : Int) < (a0.1.length : Int)) (E2 : a0.1[i_2]? = some (v4, q4)) (C3 : ¬ v4 < 0) (C4 : ¬ a1 ≤ v4) (C5 : ¬ 0 < (i_2 : Int)) (B6a : H q4 ≤ 17179869184) (C7 : sgR q4 = 0) :
    Leave 0 (exec Tryz.prog (tab n) 0 59 (livesOf 51) big va_C2) (livesOf 51 (outOf 2)) (va_h2 a0 a1 i_2) (.ret) (va_o2a a0) := by
  have C1_ : i_2 < a0.1.length := by omega
  obtain ⟨EL2, EG2⟩ := List.getElem?_eq_some_iff.1 E2
  have C5_ : ¬ 0 < i_2 := by omega
  have C5_z : (i_2 : Int) = 0 := by omega
  have C5_e : ((i_2 : Int) == 0) = true := by rw [C5_z]; simp
  have C5_g : ((i_2 : Int) != 0) = false := by rw [C5_z]; simp
  have K6 := r_sign (p := q4) B6a
  have C7_ : (sgR q4 == 0) = true := by rw [C7]; simp
  have C7_n : (sgR q4 != 0) = false := by rw [C7]; simp
  unfold Leave
  simp +decide [va_h2, loopsOf, Tryz.f51, va_o2a, va_C2, C1, C1_, EL2, EG2, E2, C3, C4, C5, C5_, C5_e, C5_g, K6, C7_, C7_n]
theorem va_x2_6 {n : Nat} {a0 : Form} {a1 : Int} {i_2 : Nat} (C1 : ¬ (i_2 : Int) < (a0.1.length : Int)) :
    Leave 0 (exec Tryz.prog (tab n) 0 59 (livesOf 51) big va_C2) (livesOf 51 (outOf 2)) (va_h2 a0 a1 i_2) (.exit 0) (va_o2b a0) := by
  have C1_ : ¬ i_2 < a0.1.length := by omega
  unfold Leave
  simp +decide [va_h2, loopsOf, Tryz.f51, va_o2b, va_C2, C1, C1_]
theorem va_f1 {n : Nat} {a0 : Form} {a1 : Int} (L1 : loopG Tryz.prog (tab n) 0 59 (livesOf 51) 2 va_C2 (va_h2 a0 a1 0) = some (.ret, va_o2a a0)) :
    run n 51 [formV a0, .lit (.int .i64 a1)] = some (.lit (.bool false)) := by
  unfold run fnP
  simp +decide [Tryz.f51]
  rw [loopX_G (C' := va_C2) (e := (va_h2 a0 a1 0)) ?_ ?_, L1]
  rotate_left
  · kernel_rfl
  · simp +decide [va_h2]
  simp +decide [va_o2a]
theorem va_f2 {n : Nat} {a0 : Form} {a1 : Int} (L1 : loopG Tryz.prog (tab n) 0 59 (livesOf 51) 2 va_C2 (va_h2 a0 a1 0) = some (.exit 0, va_o2b a0)) (B2a : H a0.2 ≤ 17179869184) :
    run n 51 [formV a0, .lit (.int .i64 a1)] = some (.lit (.bool true)) := by
  have K2 := r_valid (p := a0.2) B2a
  unfold run fnP
  simp +decide [Tryz.f51, K2]
  rw [loopX_G (C' := va_C2) (e := (va_h2 a0 a1 0)) ?_ ?_, L1]
  rotate_left
  · kernel_rfl
  · simp +decide [va_h2, K2]
  simp +decide [va_o2b, K2]
/-! relucertref07.ValidAll, level 1 -/
noncomputable def vl_C2 : Code := (loopsOf (bodyOf Tryz.f91)).getD 0 .skip
def vl_h2 (a0 : List Form) (a1 : Int) (i_2 : Nat) : St :=
  ⟨[(0, .sl 4 (a0.map formC)), (1, .lit (.int .i64 a1)), (5, .lit (.int .i64 (i_2 : Int)))],
   [], 0⟩
def vl_o2a  : St :=
  ⟨[(4, .lit (.bool false))],
   [], 0⟩
def vl_o2b  : St :=
  ⟨[(4, .any)],
   [], 0⟩
theorem vl_r2_1 {n : Nat} {a0 : List Form} {a1 : Int} {i_2 : Nat} {F3 : List (Int × Rat)} {q3 : Rat} {r3 : Bool} (C1 : (i_2 : Int) < (a0.length : Int)) (E2 : a0[i_2]? = some (F3, q3)) (K3 : run n 51 [formV (F3, q3), .lit (.int .i64 a1)] = some (.lit (.bool r3))) (C4 : r3 = true) (W5 : InI ((i_2 : Int) + 1)) :
    Cont 0 (exec Tryz.prog (tab (n + 1)) 0 19 (livesOf 91) big vl_C2) (livesOf 91 2) (vl_h2 a0 a1 i_2) (vl_h2 a0 a1 (i_2 + 1)) := by
  have C1_ : i_2 < a0.length := by omega
  obtain ⟨EL2, EG2⟩ := List.getElem?_eq_some_iff.1 E2
  simp only [formV] at K3
  have W5_ : IntKind.i64.wrap ((i_2 : Int) + 1) = (i_2 : Int) + 1 := wr64 W5.1 W5.2
  unfold Cont
  simp +decide [vl_h2, loopsOf, Tryz.f91, vl_C2, C1, C1_, EL2, EG2, E2, K3, C4, W5_]
theorem vl_x2_1 {n : Nat} {a0 : List Form} {a1 : Int} {i_2 : Nat} {F3 : List (Int × Rat)} {q3 : Rat} {r3 : Bool} (C1 : (i_2 : Int) < (a0.length : Int)) (E2 : a0[i_2]? = some (F3, q3)) (K3 : run n 51 [formV (F3, q3), .lit (.int .i64 a1)] = some (.lit (.bool r3))) (C4 : r3 = false) :
    Leave 0 (exec Tryz.prog (tab (n + 1)) 0 19 (livesOf 91) big vl_C2) (livesOf 91 (outOf 2)) (vl_h2 a0 a1 i_2) (.ret) (vl_o2a ) := by
  have C1_ : i_2 < a0.length := by omega
  obtain ⟨EL2, EG2⟩ := List.getElem?_eq_some_iff.1 E2
  simp only [formV] at K3
  unfold Leave
  simp +decide [vl_h2, loopsOf, Tryz.f91, vl_o2a, vl_C2, C1, C1_, EL2, EG2, E2, K3, C4]
theorem vl_x2_2 {n : Nat} {a0 : List Form} {a1 : Int} {i_2 : Nat} (C1 : ¬ (i_2 : Int) < (a0.length : Int)) :
    Leave 0 (exec Tryz.prog (tab (n + 1)) 0 19 (livesOf 91) big vl_C2) (livesOf 91 (outOf 2)) (vl_h2 a0 a1 i_2) (.exit 0) (vl_o2b ) := by
  have C1_ : ¬ i_2 < a0.length := by omega
  unfold Leave
  simp +decide [vl_h2, loopsOf, Tryz.f91, vl_o2b, vl_C2, C1, C1_]
theorem vl_f1 {n : Nat} {a0 : List Form} {a1 : Int} (L1 : loopG Tryz.prog (tab (n + 1)) 0 19 (livesOf 91) 2 vl_C2 (vl_h2 a0 a1 0) = some (.ret, vl_o2a )) :
    run (n + 1) 91 [.sl 4 (a0.map formC), .lit (.int .i64 a1)] = some (.lit (.bool false)) := by
  unfold run fnP
  simp +decide [Tryz.f91]
  rw [loopX_G (C' := vl_C2) (e := (vl_h2 a0 a1 0)) ?_ ?_, L1]
  rotate_left
  · kernel_rfl
  · simp +decide [vl_h2]
  simp +decide [vl_o2a]
theorem vl_f2 {n : Nat} {a0 : List Form} {a1 : Int} (L1 : loopG Tryz.prog (tab (n + 1)) 0 19 (livesOf 91) 2 vl_C2 (vl_h2 a0 a1 0) = some (.exit 0, vl_o2b )) :
    run (n + 1) 91 [.sl 4 (a0.map formC), .lit (.int .i64 a1)] = some (.lit (.bool true)) := by
  unfold run fnP
  simp +decide [Tryz.f91]
  rw [loopX_G (C' := vl_C2) (e := (vl_h2 a0 a1 0)) ?_ ?_, L1]
  rotate_left
  · kernel_rfl
  · simp +decide [vl_h2]
  simp +decide [vl_o2b]
end Go.Proofs.YtlpmemelhlnfbaaGreatDoor
set_option linter.all false
set_option maxRecDepth 100000
set_option maxHeartbeats 6400000
namespace Go.Proofs.YtlpmemelhlnfbaaGreatDoor
open Go.RowKit

/-! relucertref15.Valid, level 2 -/
noncomputable def vg_C4 : Code := (loopsOf (bodyOf Tryz.f25)).getD 0 .skip
def vg_h4 (a0 : TGraph) (i_4 : Nat) : St :=
  ⟨[(1, .ptr 0 0), (3, .lit (.int .i64 (i_4 : Int)))],
   [(0, some (.box 38 [.lit (.int .i64 (a0.Inputs)), .sl 4 (a0.Units.map formC), .sl 4 (a0.Outputs.map formC)] false))], 1⟩
def vg_o4a (a0 : TGraph) : St :=
  ⟨[(1, .ptr 0 0), (2, .lit (.bool false))],
   [(0, some (.box 38 [.lit (.int .i64 (a0.Inputs)), .sl 4 (a0.Units.map formC), .sl 4 (a0.Outputs.map formC)] false))], 1⟩
def vg_o4b (a0 : TGraph) : St :=
  ⟨[(1, .ptr 0 0), (2, .any)],
   [(0, some (.box 38 [.lit (.int .i64 (a0.Inputs)), .sl 4 (a0.Units.map formC), .sl 4 (a0.Outputs.map formC)] false))], 1⟩
theorem vg_r4_1 {n : Nat} {a0 : TGraph} {i_4 : Nat} {F3 : List (Int × Rat)} {q3 : Rat} {r3 : Bool} (C1 : (i_4 : Int) < (a0.Units.length : Int)) (E2 : a0.Units[i_4]? = some (F3, q3)) (W3 : InI (a0.Inputs + (i_4 : Int))) (K4 : run (n + 1) 51 [formV (F3, q3), .lit (.int .i64 (a0.Inputs + (i_4 : Int)))] = some (.lit (.bool r3))) (C5 : r3 = true) (W6 : InI ((i_4 : Int) + 1)) :
    Cont 0 (exec Tryz.prog (tab (n + 2)) 0 57 (livesOf 25) big vg_C4) (livesOf 25 4) (vg_h4 a0 i_4) (vg_h4 a0 (i_4 + 1)) := by
  have C1_ : i_4 < a0.Units.length := by omega
  obtain ⟨EL2, EG2⟩ := List.getElem?_eq_some_iff.1 E2
  have W3_ : IntKind.i64.wrap (a0.Inputs + (i_4 : Int)) = a0.Inputs + (i_4 : Int) := wr64 W3.1 W3.2
  simp only [formV] at K4
  have W6_ : IntKind.i64.wrap ((i_4 : Int) + 1) = (i_4 : Int) + 1 := wr64 W6.1 W6.2
  unfold Cont
  simp +decide [vg_h4, loopsOf, Tryz.f25, vg_C4, C1, C1_, EL2, EG2, E2, W3_, K4, C5, W6_]
theorem vg_x4_1 {n : Nat} {a0 : TGraph} {i_4 : Nat} {F3 : List (Int × Rat)} {q3 : Rat} {r3 : Bool} (C1 : (i_4 : Int) < (a0.Units.length : Int)) (E2 : a0.Units[i_4]? = some (F3, q3)) (W3 : InI (a0.Inputs + (i_4 : Int))) (K4 : run (n + 1) 51 [formV (F3, q3), .lit (.int .i64 (a0.Inputs + (i_4 : Int)))] = some (.lit (.bool r3))) (C5 : r3 = false) :
    Leave 0 (exec Tryz.prog (tab (n + 2)) 0 57 (livesOf 25) big vg_C4) (livesOf 25 (outOf 4)) (vg_h4 a0 i_4) (.ret) (vg_o4a a0) := by
  have C1_ : i_4 < a0.Units.length := by omega
  obtain ⟨EL2, EG2⟩ := List.getElem?_eq_some_iff.1 E2
  have W3_ : IntKind.i64.wrap (a0.Inputs + (i_4 : Int)) = a0.Inputs + (i_4 : Int) := wr64 W3.1 W3.2
  simp only [formV] at K4
  unfold Leave
  simp +decide [vg_h4, loopsOf, Tryz.f25, vg_o4a, vg_C4, C1, C1_, EL2, EG2, E2, W3_, K4, C5]
theorem vg_x4_2 {n : Nat} {a0 : TGraph} {i_4 : Nat} (C1 : ¬ (i_4 : Int) < (a0.Units.length : Int)) :
    Leave 0 (exec Tryz.prog (tab (n + 2)) 0 57 (livesOf 25) big vg_C4) (livesOf 25 (outOf 4)) (vg_h4 a0 i_4) (.exit 0) (vg_o4b a0) := by
  have C1_ : ¬ i_4 < a0.Units.length := by omega
  unfold Leave
  simp +decide [vg_h4, loopsOf, Tryz.f25, vg_o4b, vg_C4, C1, C1_]
theorem vg_f1 {n : Nat} {a0 : TGraph} (C1 : a0.Inputs < 1) :
    run (n + 2) 25 [graphV a0] = some (.lit (.bool false)) := by
  unfold run fnP
  simp +decide [Tryz.f25, C1]
theorem vg_f2 {n : Nat} {a0 : TGraph} (C1 : ¬ a0.Inputs < 1) (C2 : 256 < a0.Inputs) :
    run (n + 2) 25 [graphV a0] = some (.lit (.bool false)) := by
  unfold run fnP
  simp +decide [Tryz.f25, C1, C2]
theorem vg_f3 {n : Nat} {a0 : TGraph} (C1 : ¬ a0.Inputs < 1) (C2 : ¬ 256 < a0.Inputs) (C3 : 1024 < (a0.Units.length : Int)) :
    run (n + 2) 25 [graphV a0] = some (.lit (.bool false)) := by
  have C3_ : 1024 < a0.Units.length := by omega
  unfold run fnP
  simp +decide [Tryz.f25, C1, C2, C3, C3_]
theorem vg_f4 {n : Nat} {a0 : TGraph} (C1 : ¬ a0.Inputs < 1) (C2 : ¬ 256 < a0.Inputs) (C3 : ¬ 1024 < (a0.Units.length : Int)) (C4 : (a0.Outputs.length : Int) < 1) :
    run (n + 2) 25 [graphV a0] = some (.lit (.bool false)) := by
  have C3_ : ¬ 1024 < a0.Units.length := by omega
  have C4_ : a0.Outputs.length < 1 := by omega
  unfold run fnP
  simp +decide [Tryz.f25, C1, C2, C3, C3_, C4, C4_]
theorem vg_f5 {n : Nat} {a0 : TGraph} (C1 : ¬ a0.Inputs < 1) (C2 : ¬ 256 < a0.Inputs) (C3 : ¬ 1024 < (a0.Units.length : Int)) (C4 : ¬ (a0.Outputs.length : Int) < 1) (C5 : 256 < (a0.Outputs.length : Int)) :
    run (n + 2) 25 [graphV a0] = some (.lit (.bool false)) := by
  have C3_ : ¬ 1024 < a0.Units.length := by omega
  have C4_ : ¬ a0.Outputs.length < 1 := by omega
  have C5_ : 256 < a0.Outputs.length := by omega
  unfold run fnP
  simp +decide [Tryz.f25, C1, C2, C3, C3_, C4, C4_, C5, C5_]
theorem vg_f6 {n : Nat} {a0 : TGraph} (C1 : ¬ a0.Inputs < 1) (C2 : ¬ 256 < a0.Inputs) (C3 : ¬ 1024 < (a0.Units.length : Int)) (C4 : ¬ (a0.Outputs.length : Int) < 1) (C5 : ¬ 256 < (a0.Outputs.length : Int)) (L6 : loopG Tryz.prog (tab (n + 2)) 0 57 (livesOf 25) 4 vg_C4 (vg_h4 a0 0) = some (.ret, vg_o4a a0)) :
    run (n + 2) 25 [graphV a0] = some (.lit (.bool false)) := by
  have C3_ : ¬ 1024 < a0.Units.length := by omega
  have C4_ : ¬ a0.Outputs.length < 1 := by omega
  have C5_ : ¬ 256 < a0.Outputs.length := by omega
  unfold run fnP
  simp +decide [Tryz.f25, C1, C2, C3, C3_, C4, C4_, C5, C5_]
  rw [loopX_G (C' := vg_C4) (e := (vg_h4 a0 0)) ?_ ?_, L6]
  rotate_left
  · kernel_rfl
  · simp +decide [vg_h4, C1, C2, C3, C3_, C4, C4_, C5, C5_]
  simp +decide [vg_o4a, C1, C2, C3, C3_, C4, C4_, C5, C5_]
theorem vg_f7 {n : Nat} {a0 : TGraph} {r4 : Bool} (C1 : ¬ a0.Inputs < 1) (C2 : ¬ 256 < a0.Inputs) (C3 : ¬ 1024 < (a0.Units.length : Int)) (C4 : ¬ (a0.Outputs.length : Int) < 1) (C5 : ¬ 256 < (a0.Outputs.length : Int)) (L6 : loopG Tryz.prog (tab (n + 2)) 0 57 (livesOf 25) 4 vg_C4 (vg_h4 a0 0) = some (.exit 0, vg_o4b a0)) (W7 : InI (a0.Inputs + (a0.Units.length : Int))) (K8 : run (n + 1) 91 [.sl 4 (a0.Outputs.map formC), .lit (.int .i64 (a0.Inputs + (a0.Units.length : Int)))] = some (.lit (.bool r4))) :
    run (n + 2) 25 [graphV a0] = some (.lit (.bool r4)) := by
  have C3_ : ¬ 1024 < a0.Units.length := by omega
  have C4_ : ¬ a0.Outputs.length < 1 := by omega
  have C5_ : ¬ 256 < a0.Outputs.length := by omega
  have W7_ : IntKind.i64.wrap (a0.Inputs + (a0.Units.length : Int)) = a0.Inputs + (a0.Units.length : Int) := wr64 W7.1 W7.2
  unfold run fnP
  simp +decide [Tryz.f25, C1, C2, C3, C3_, C4, C4_, C5, C5_, W7_, K8]
  rw [loopX_G (C' := vg_C4) (e := (vg_h4 a0 0)) ?_ ?_, L6]
  rotate_left
  · kernel_rfl
  · simp +decide [vg_h4, C1, C2, C3, C3_, C4, C4_, C5, C5_, W7_, K8]
  simp +decide [vg_o4b, C1, C2, C3, C3_, C4, C4_, C5, C5_, W7_, K8]
/-! relucertref15.Vars, level 3 -/
end Go.Proofs.YtlpmemelhlnfbaaGreatDoor
set_option linter.all false
set_option maxRecDepth 100000
set_option maxHeartbeats 6400000
namespace Go.Proofs.YtlpmemelhlnfbaaGreatDoor
open Go.RowKit

/-! relucertref15.Values, level 3 -/
noncomputable def vs_C5 : Code := (loopsOf (bodyOf Tryz.f35)).getD 0 .skip
noncomputable def vs_C9 : Code := (loopsOf (bodyOf Tryz.f35)).getD 1 .skip
def vs_h5 (a0 : TGraph) (a1 : List Rat) (out_5 : List Rat) (i_5 : Nat) : St :=
  ⟨[(1, .sl 3 (a1.map ratC)), (2, .ptr 0 0), (6, .own 1 out_5.length), (7, .lit (.int .i64 (i_5 : Int)))],
   [(0, some (.box 38 [.lit (.int .i64 (a0.Inputs)), .sl 4 (a0.Units.map formC), .sl 4 (a0.Outputs.map formC)] false)),
    (1, some (.row 27 3 (out_5.map ratC) 0))], 2⟩
def vs_h9 (a0 : TGraph) (out_9 : List Rat) (i_9 : Nat) (fz_9 : Nat) : St :=
  ⟨[(2, .ptr 0 0), (6, .own 1 out_9.length), (8, .lit (.int .i64 (i_9 : Int)))],
   [(0, some (.box 38 [.lit (.int .i64 (a0.Inputs)), .sl 4 (a0.Units.map formC), .sl 4 (a0.Outputs.map formC)] false)),
    (1, some (.row 27 3 (out_9.map ratC) fz_9))], 2⟩
def vs_o5a (a0 : TGraph) (out_5 : List Rat) : St :=
  ⟨[(2, .ptr 0 0), (6, .own 1 out_5.length)],
   [(0, some (.box 38 [.lit (.int .i64 (a0.Inputs)), .sl 4 (a0.Units.map formC), .sl 4 (a0.Outputs.map formC)] false)),
    (1, some (.row 27 3 (out_5.map ratC) 0))], 2⟩
def vs_o9a (out_9 : List Rat) (fz_9 : Nat) : St :=
  ⟨[(6, .own 0 out_9.length)],
   [(0, some (.row 27 3 (out_9.map ratC) fz_9))], 1⟩
theorem vs_r5_1 {n : Nat} {a0 : TGraph} {a1 : List Rat} {i_5 : Nat} {x3 : Rat} {out_5 : List Rat} (C1 : (i_5 : Int) < (a1.length : Int)) (E2 : a1[i_5]? = some x3) (B3a : H x3 ≤ 17179869184) (M4 : out_5.length + 1 ≤ 100000000) (W5 : InI ((i_5 : Int) + 1)) :
    Cont 0 (exec Tryz.prog (tab (n + 3)) 0 59 (livesOf 35) big vs_C5) (livesOf 35 5) (vs_h5 a0 a1 out_5 i_5) (vs_h5 a0 a1 (out_5 ++ [x3]) (i_5 + 1)) := by
  have C1_ : i_5 < a1.length := by omega
  obtain ⟨EL2, EG2⟩ := List.getElem?_eq_some_iff.1 E2
  have K3 := r_canon (p := x3) B3a
  have M4_ : ∀ b, b ≤ 10000 → roomy (out_5.length + 1) b = true := fun b hb => roomy_s M4 hb
  have W5_ : IntKind.i64.wrap ((i_5 : Int) + 1) = (i_5 : Int) + 1 := wr64 W5.1 W5.2
  unfold Cont
  simp +decide [vs_h5, loopsOf, Tryz.f35, vs_C5, C1, C1_, EL2, EG2, E2, K3, M4_, W5_]
theorem vs_x5_1 {n : Nat} {a0 : TGraph} {a1 : List Rat} {i_5 : Nat} {out_5 : List Rat} (C1 : ¬ (i_5 : Int) < (a1.length : Int)) :
    Leave 0 (exec Tryz.prog (tab (n + 3)) 0 59 (livesOf 35) big vs_C5) (livesOf 35 (outOf 5)) (vs_h5 a0 a1 out_5 i_5) (.exit 0) (vs_o5a a0 out_5) := by
  have C1_ : ¬ i_5 < a1.length := by omega
  unfold Leave
  simp +decide [vs_h5, loopsOf, Tryz.f35, vs_o5a, vs_C5, C1, C1_]
theorem vs_r9_1 {n : Nat} {a0 : TGraph} {i_9 : Nat} {F3 : List (Int × Rat)} {q3 : Rat} {out_9 : List Rat} {r8 : Rat} {r9 : Int} {r10 : Rat} {fz_9 : Nat} (C1 : (i_9 : Int) < (a0.Units.length : Int)) (E2 : a0.Units[i_9]? = some (F3, q3)) (K3 : run (n + 2) 99 [formV (F3, q3), .sl 3 (out_9.map ratC)] = some (.tup [ratV r8, .lit (.int .i64 r9)])) (K4 : run (n + 2) 100 [ratV r8, .agg [.lit (.bool false), .sl 1 [], .sl 1 []]] = some (ratV r10)) (M5 : out_9.length + 1 ≤ 100000000) (W6 : InI ((i_9 : Int) + 1)) :
    Cont 0 (exec Tryz.prog (tab (n + 3)) 0 59 (livesOf 35) big vs_C9) (livesOf 35 9) (vs_h9 a0 out_9 i_9 fz_9) (vs_h9 a0 (out_9 ++ [r10]) (i_9 + 1) out_9.length) := by
  have C1_ : i_9 < a0.Units.length := by omega
  obtain ⟨EL2, EG2⟩ := List.getElem?_eq_some_iff.1 E2
  simp only [ratV, formV] at K3
  simp only [ratV] at K4
  have M5_ : ∀ b, b ≤ 10000 → roomy (out_9.length + 1) b = true := fun b hb => roomy_s M5 hb
  have W6_ : IntKind.i64.wrap ((i_9 : Int) + 1) = (i_9 : Int) + 1 := wr64 W6.1 W6.2
  unfold Cont
  simp +decide [vs_h9, loopsOf, Tryz.f35, vs_C9, C1, C1_, EL2, EG2, E2, K3, K4, M5_, W6_]
theorem vs_x9_1 {n : Nat} {a0 : TGraph} {i_9 : Nat} {out_9 : List Rat} {fz_9 : Nat} (C1 : ¬ (i_9 : Int) < (a0.Units.length : Int)) :
    Leave 0 (exec Tryz.prog (tab (n + 3)) 0 59 (livesOf 35) big vs_C9) (livesOf 35 (outOf 9)) (vs_h9 a0 out_9 i_9 fz_9) (.exit 2) (vs_o9a out_9 fz_9) := by
  have C1_ : ¬ i_9 < a0.Units.length := by omega
  unfold Leave
  simp +decide [vs_h9, loopsOf, Tryz.f35, vs_o9a, vs_C9, C1, C1_]
theorem vs_f3 {n : Nat} {a0 : TGraph} {a1 : List Rat} {r : Bool} {out_5 : List Rat} {out_9 : List Rat} {fz_9 : Nat} (K1 : run (n + 2) 25 [graphV a0] = some (.lit (.bool r))) (C2 : r = true) (C3 : (a1.length : Int) = a0.Inputs) (L4 : loopG Tryz.prog (tab (n + 3)) 0 59 (livesOf 35) 5 vs_C5 (vs_h5 a0 a1 [] 0) = some (.exit 0, vs_o5a a0 out_5)) (L5 : loopG Tryz.prog (tab (n + 3)) 0 59 (livesOf 35) 9 vs_C9 (vs_h9 a0 out_5 0 0) = some (.exit 2, vs_o9a out_9 fz_9)) :
    run (n + 3) 35 [graphV a0, .sl 3 (a1.map ratC)] = some (.tup [.sl 3 (out_9.map ratC), .lit (.int .i64 0)]) := by
  simp only [graphV] at K1
  have C3_ : ((a1.length : Int) == a0.Inputs) = true := by rw [C3]; simp
  have C3_n : ((a1.length : Int) != a0.Inputs) = false := by rw [C3]; simp
  unfold run fnP
  simp +decide [Tryz.f35, K1, C2, C3_, C3_n]
  rw [loopX_G (C' := vs_C5) (e := (vs_h5 a0 a1 [] 0)) ?_ ?_, L4]
  rotate_left
  · kernel_rfl
  · simp +decide [vs_h5, K1, C2, C3_, C3_n]
  simp +decide [vs_o5a, K1, C2, C3_, C3_n]
  rw [loopX_G (C' := vs_C9) (e := (vs_h9 a0 out_5 0 0)) ?_ ?_, L5]
  rotate_left
  · kernel_rfl
  · simp +decide [vs_h9, K1, C2, C3_, C3_n]
  simp +decide [vs_o9a, K1, C2, C3_, C3_n]
/-! relucertref15.forms, level 4 -/
noncomputable def fm_C6 : Code := (loopsOf (bodyOf Tryz.f101)).getD 0 .skip
def fm_h6 (a1 : List Form) (r : List Rat) (out_6 : List Rat) (i_6 : Nat) : St :=
  ⟨[(1, .sl 4 (a1.map formC)), (8, .sl 3 (r.map ratC)), (10, .own 0 out_6.length), (11, .lit (.int .i64 (i_6 : Int)))],
   [(0, some (.row 27 3 (out_6.map ratC) 0))], 1⟩
def fm_o6a (out_6 : List Rat) : St :=
  ⟨[(10, .own 0 out_6.length)],
   [(0, some (.row 27 3 (out_6.map ratC) 0))], 1⟩
theorem fm_r6_1 {n : Nat} {a1 : List Form} {i_6 : Nat} {F3 : List (Int × Rat)} {q3 : Rat} {r : List Rat} {r7 : Rat} {r8 : Int} {out_6 : List Rat} (C1 : (i_6 : Int) < (a1.length : Int)) (E2 : a1[i_6]? = some (F3, q3)) (K3 : run (n + 3) 99 [formV (F3, q3), .sl 3 (r.map ratC)] = some (.tup [ratV r7, .lit (.int .i64 r8)])) (M4 : out_6.length + 1 ≤ 100000000) (W5 : InI ((i_6 : Int) + 1)) :
    Cont 0 (exec Tryz.prog (tab (n + 4)) 0 43 (livesOf 101) big fm_C6) (livesOf 101 6) (fm_h6 a1 r out_6 i_6) (fm_h6 a1 r (out_6 ++ [r7]) (i_6 + 1)) := by
  have C1_ : i_6 < a1.length := by omega
  obtain ⟨EL2, EG2⟩ := List.getElem?_eq_some_iff.1 E2
  simp only [ratV, formV] at K3
  have M4_ : ∀ b, b ≤ 10000 → roomy (out_6.length + 1) b = true := fun b hb => roomy_s M4 hb
  have W5_ : IntKind.i64.wrap ((i_6 : Int) + 1) = (i_6 : Int) + 1 := wr64 W5.1 W5.2
  unfold Cont
  simp +decide [fm_h6, loopsOf, Tryz.f101, fm_C6, C1, C1_, EL2, EG2, E2, K3, M4_, W5_]
theorem fm_x6_1 {n : Nat} {a1 : List Form} {i_6 : Nat} {r : List Rat} {out_6 : List Rat} (C1 : ¬ (i_6 : Int) < (a1.length : Int)) :
    Leave 0 (exec Tryz.prog (tab (n + 4)) 0 43 (livesOf 101) big fm_C6) (livesOf 101 (outOf 6)) (fm_h6 a1 r out_6 i_6) (.exit 0) (fm_o6a out_6) := by
  have C1_ : ¬ i_6 < a1.length := by omega
  unfold Leave
  simp +decide [fm_h6, loopsOf, Tryz.f101, fm_o6a, fm_C6, C1, C1_]
theorem fm_f2 {n : Nat} {a0 : TGraph} {a1 : List Form} {a2 : List Rat} {r : List Rat} {r2 : Int} {out_6 : List Rat} (K1 : run (n + 3) 35 [graphV a0, .sl 3 (a2.map ratC)] = some (.tup [.sl 3 (r.map ratC), .lit (.int .i64 r2)])) (C2 : r2 = 0) (L3 : loopG Tryz.prog (tab (n + 4)) 0 43 (livesOf 101) 6 fm_C6 (fm_h6 a1 r [] 0) = some (.exit 0, fm_o6a out_6)) :
    run (n + 4) 101 [graphV a0, .sl 4 (a1.map formC), .sl 3 (a2.map ratC)] = some (.tup [.sl 3 (out_6.map ratC), .lit (.int .i64 0)]) := by
  simp only [graphV] at K1
  have C2_ : (r2 == 0) = true := by rw [C2]; simp
  have C2_n : (r2 != 0) = false := by rw [C2]; simp
  unfold run fnP
  simp +decide [Tryz.f101, K1, C2_, C2_n]
  rw [loopX_G (C' := fm_C6) (e := (fm_h6 a1 r [] 0)) ?_ ?_, L3]
  rotate_left
  · kernel_rfl
  · simp +decide [fm_h6, K1, C2_, C2_n]
  simp +decide [fm_o6a, K1, C2_, C2_n]
/-! relucertref15.Pre, level 5 -/
end Go.Proofs.YtlpmemelhlnfbaaGreatDoor
set_option linter.all false
set_option maxRecDepth 100000
set_option maxHeartbeats 6400000
namespace Go.Proofs.YtlpmemelhlnfbaaGreatDoor
open Go.RowKit

/-! relucertref15.Outputs, level 5 -/
theorem ou_f1 {n : Nat} {a0 : TGraph} {a1 : List Rat} {r : List Rat} {r2 : Int} (K1 : run (n + 4) 101 [graphV a0, .sl 4 (a0.Outputs.map formC), .sl 3 (a1.map ratC)] = some (.tup [.sl 3 (r.map ratC), .lit (.int .i64 r2)])) :
    run (n + 5) 37 [graphV a0, .sl 3 (a1.map ratC)] = some (.tup [.sl 3 (r.map ratC), .lit (.int .i64 r2)]) := by
  simp only [graphV] at K1
  unfold run fnP
  simp +decide [Tryz.f37, K1]
/-! relucertref15.Small, level 5 -/
theorem smf_f1 {n : Nat} {a0 : List Int} {r : TFeed} {r2 : TGraph} {z : Int} (K1 : runL (n + 4) 74 [.sl 1 (a0.map intU8C)] [] = some (.ptr 2 0, [(2, .box 156 [.sl 1 (r.Raw.map intU8C), .lit (.int .i64 (r.At))] false)])) (K2 : runL (n + 4) 75 [.ptr 0 0] [.box 156 [.sl 1 (r.Raw.map intU8C), .lit (.int .i64 (r.At))] false] = some (graphV r2, [(0, .box 156 [.sl 1 (r.Raw.map intU8C), .lit (.int .i64 z)] false)])) :
    run (n + 5) 20 [.sl 1 (a0.map intU8C)] = some (graphV r2) := by
  simp only [graphV] at K2
  unfold run fnP
  simp +decide [Tryz.f20, K1, K2]
/-! relucertref15.Point, level 2 -/
noncomputable def poi_C4 : Code := (loopsOf (bodyOf Tryz.f27)).getD 0 .skip
def poi_h4 (a1 : Int) (out_4 : List Rat) (i_4 : Nat) (r : TFeed) (i2_4 : Int) : St :=
  ⟨[(1, .lit (.int .i64 a1)), (5, .ptr 0 0), (6, .own 1 out_4.length), (7, .lit (.int .i64 (i_4 : Int)))],
   [(0, some (.box 156 [.sl 1 (r.Raw.map intU8C), .lit (.int .i64 i2_4)] false)),
    (1, some (.row 27 3 (out_4.map ratC) 0))], 2⟩
def poi_o4a (out_4 : List Rat) : St :=
  ⟨[(6, .own 0 out_4.length)],
   [(0, some (.row 27 3 (out_4.map ratC) 0))], 1⟩
theorem poi_r4_1 {n : Nat} {a1 : Int} {i_4 : Nat} {r : TFeed} {i2_4 : Int} {r4 : Rat} {z3 : Int} {out_4 : List Rat} (C1 : (i_4 : Int) < a1) (K2 : runL (n + 1) 92 [.ptr 0 0] [.box 156 [.sl 1 (r.Raw.map intU8C), .lit (.int .i64 i2_4)] false] = some (ratV r4, [(0, .box 156 [.sl 1 (r.Raw.map intU8C), .lit (.int .i64 z3)] false)])) (M3 : out_4.length + 1 ≤ 100000000) (W4 : InI ((i_4 : Int) + 1)) :
    Cont 0 (exec Tryz.prog (tab (n + 2)) 0 21 (livesOf 27) big poi_C4) (livesOf 27 4) (poi_h4 a1 out_4 i_4 r i2_4) (poi_h4 a1 (out_4 ++ [r4]) (i_4 + 1) r z3) := by
  simp only [ratV] at K2
  have M3_ : ∀ b, b ≤ 10000 → roomy (out_4.length + 1) b = true := fun b hb => roomy_s M3 hb
  have W4_ : IntKind.i64.wrap ((i_4 : Int) + 1) = (i_4 : Int) + 1 := wr64 W4.1 W4.2
  unfold Cont
  simp +decide [poi_h4, loopsOf, Tryz.f27, poi_C4, C1, K2, M3_, W4_]
theorem poi_x4_1 {n : Nat} {a1 : Int} {i_4 : Nat} {out_4 : List Rat} {r : TFeed} {i2_4 : Int} (C1 : ¬ (i_4 : Int) < a1) :
    Leave 0 (exec Tryz.prog (tab (n + 2)) 0 21 (livesOf 27) big poi_C4) (livesOf 27 (outOf 4)) (poi_h4 a1 out_4 i_4 r i2_4) (.exit 0) (poi_o4a out_4) := by
  unfold Leave
  simp +decide [poi_h4, loopsOf, Tryz.f27, poi_o4a, poi_C4, C1]
theorem poi_f1 {n : Nat} {a0 : List Int} {a1 : Int} {r : TFeed} {out_4 : List Rat} (K1 : runL (n + 1) 74 [.sl 1 (a0.map intU8C)] [] = some (.ptr 2 0, [(2, .box 156 [.sl 1 (r.Raw.map intU8C), .lit (.int .i64 (r.At))] false)])) (L2 : loopG Tryz.prog (tab (n + 2)) 0 21 (livesOf 27) 4 poi_C4 (poi_h4 a1 [] 0 r r.At) = some (.exit 0, poi_o4a out_4)) :
    run (n + 2) 27 [.sl 1 (a0.map intU8C), .lit (.int .i64 a1)] = some (.sl 3 (out_4.map ratC)) := by
  unfold run fnP
  simp +decide [Tryz.f27, K1]
  rw [loopX_G (C' := poi_C4) (e := (poi_h4 a1 [] 0 r r.At)) ?_ ?_, L2]
  rotate_left
  · kernel_rfl
  · simp +decide [poi_h4, K1]
  simp +decide [poi_o4a, K1]
end Go.Proofs.YtlpmemelhlnfbaaGreatDoor
