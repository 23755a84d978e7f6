/- Walks: relucertref19.Small, relucertref21.query. Walks: relucertref07.Valid, relucertref07.ValidAll, relucertref03.ValidAll. Walks: relucertref15.Valid, relucertref15.Vars. Walks: relucertref19.Valid. Walks: relucertref21.Valid. Walks: relucertref21.fits. -/
import Derived.Test.YtkakmdadnhjphaaGreatDoorUA
set_option linter.all false
set_option linter.all false
set_option maxRecDepth 100000
set_option maxHeartbeats 6400000
namespace Go.Proofs.YtkakmdadnhjphaaGreatDoor
open Go.RowKit

/-! relucertref19.Small, level 4 -/
noncomputable def sm_C3 : Code := (loopsOf (bodyOf Tryz.f145)).getD 0 .skip
noncomputable def sm_C9 : Code := (loopsOf (bodyOf Tryz.f145)).getD 1 .skip
def sm_h3 (a0 : TFeed) (a1 : Int) (i_3 : Nat) (i2_3 : Int) (out_3 : List Rat) (out2_3 : List Rat) : St :=
  ⟨[(0, .ptr 0 0), (1, .lit (.int .i64 a1)), (4, .ptr 1 0), (5, .ptr 2 0), (6, .lit (.int .i64 (i_3 : Int)))],
   [(0, some (.box 192 [.sl 1 (a0.Raw.map intU8C), .lit (.int .i64 i2_3)] false)),
    (1, some (.box 40 [.nl 3, .nl 3, .nl 4] false)),
    (2, some (.box 40 [.own 3 out_3.length, .own 4 out2_3.length, .nl 4] false)),
    (3, some (.row 28 3 (out_3.map ratC) 0)),
    (4, some (.row 28 3 (out2_3.map ratC) 0))], 5⟩
def sm_h9 (a0 : TFeed) (a1 : Int) (i_9 : Int) (i2_9 : Int) (out_3 : List Rat) (out2_3 : List Rat) (out_9 : List Form) : St :=
  ⟨[(0, .ptr 0 0), (1, .lit (.int .i64 a1)), (4, .ptr 1 0), (5, .ptr 2 0), (9, .lit (.int .i64 i_9))],
   [(0, some (.box 192 [.sl 1 (a0.Raw.map intU8C), .lit (.int .i64 i2_9)] false)),
    (1, some (.box 40 [.nl 3, .nl 3, .nl 4] false)),
    (2, some (.box 40 [.own 3 out_3.length, .own 4 out2_3.length, .own 5 out_9.length] false)),
    (3, some (.row 28 3 (out_3.map ratC) 0)),
    (4, some (.row 28 3 (out2_3.map ratC) 0)),
    (5, some (.row 43 4 (out_9.map formC) 0))], 6⟩
def sm_o3a (a0 : TFeed) (a1 : Int) (i2_3 : Int) (out_3 : List Rat) (out2_3 : List Rat) : St :=
  ⟨[(0, .ptr 0 0), (1, .lit (.int .i64 a1)), (4, .ptr 1 0), (5, .ptr 2 0)],
   [(0, some (.box 192 [.sl 1 (a0.Raw.map intU8C), .lit (.int .i64 i2_3)] false)),
    (1, some (.box 40 [.nl 3, .nl 3, .nl 4] false)),
    (2, some (.box 40 [.own 3 out_3.length, .own 4 out2_3.length, .nl 4] false)),
    (3, some (.row 28 3 (out_3.map ratC) 0)),
    (4, some (.row 28 3 (out2_3.map ratC) 0))], 5⟩
def sm_o9a (a0 : TFeed) (i2_9 : Int) (out_3 : List Rat) (out2_3 : List Rat) (out_9 : List Form) : St :=
  ⟨[(4, .ptr 1 0), (5, .ptr 2 0)],
   [(0, some (.box 192 [.sl 1 (a0.Raw.map intU8C), .lit (.int .i64 i2_9)] false)),
    (1, some (.box 40 [.nl 3, .nl 3, .nl 4] false)),
    (2, some (.box 40 [.own 3 out_3.length, .own 4 out2_3.length, .own 5 out_9.length] false)),
    (3, some (.row 28 3 (out_3.map ratC) 0)),
    (4, some (.row 28 3 (out2_3.map ratC) 0)),
    (5, some (.row 43 4 (out_9.map formC) 0))], 6⟩
theorem sm_r3_1 {n : Nat} {a0 : TFeed} {a1 : Int} {i_3 : Nat} {i2_3 : Int} {r5 : Rat} {z5 : Int} {r6 : Rat} {z6 : Int} {out_3 : List Rat} {out2_3 : List Rat} (C1 : (i_3 : Int) < a1) (K2 : runL (n + 3) 62 [.ptr 0 0] [.box 192 [.sl 1 (a0.Raw.map intU8C), .lit (.int .i64 i2_3)] false] = some (ratV r5, [(0, .box 192 [.sl 1 (a0.Raw.map intU8C), .lit (.int .i64 z5)] false)])) (K3 : runL (n + 3) 62 [.ptr 0 0] [.box 192 [.sl 1 (a0.Raw.map intU8C), .lit (.int .i64 z5)] false] = some (ratV r6, [(0, .box 192 [.sl 1 (a0.Raw.map intU8C), .lit (.int .i64 z6)] false)])) (M4 : out_3.length + 1 ≤ 100000000) (B5a : H r5 ≤ 17179869184) (B5b : H (absQ r6) ≤ 17179869184) (M6 : out2_3.length + 1 ≤ 100000000) (W7 : InI ((i_3 : Int) + 1)) :
    Cont 1 (exec Tryz.prog (tab (n + 4)) 1 49 (livesOf 145) big sm_C3) (livesOf 145 3) (sm_h3 a0 a1 i_3 i2_3 out_3 out2_3) (sm_h3 a0 a1 (i_3 + 1) z6 (out_3 ++ [r5]) (out2_3 ++ [r5 + (absQ r6)])) := by
  simp only [ratV] at K2
  simp only [ratV] at K3
  have M4_ : ∀ b, b ≤ 10000 → roomy (out_3.length + 1) b = true := fun b hb => roomy_s M4 hb
  have K5 := r_add (p := r5) (q := absQ r6) B5a B5b
  simp only [absQ_s, absQ_n, absQ_d] at K5
  have M6_ : ∀ b, b ≤ 10000 → roomy (out2_3.length + 1) b = true := fun b hb => roomy_s M6 hb
  have W7_ : IntKind.i64.wrap ((i_3 : Int) + 1) = (i_3 : Int) + 1 := wr64 W7.1 W7.2
  unfold Cont
  simp +decide [sm_h3, loopsOf, Tryz.f145, sm_C3, C1, K2, K3, M4_, K5, M6_, W7_]
theorem sm_x3_1 {n : Nat} {a0 : TFeed} {a1 : Int} {i_3 : Nat} {i2_3 : Int} {out_3 : List Rat} {out2_3 : List Rat} (C1 : ¬ (i_3 : Int) < a1) :
    Leave 1 (exec Tryz.prog (tab (n + 4)) 1 49 (livesOf 145) big sm_C3) (livesOf 145 (outOf 3)) (sm_h3 a0 a1 i_3 i2_3 out_3 out2_3) (.exit 0) (sm_o3a a0 a1 i2_3 out_3 out2_3) := by
  unfold Leave
  simp +decide [sm_h3, loopsOf, Tryz.f145, sm_o3a, sm_C3, C1]
theorem sm_r9_1 {n : Nat} {a0 : TFeed} {a1 : Int} {i_9 : Int} {i2_9 : Int} {r10 : Form} {z10 : Int} {out_9 : List Form} {out_3 : List Rat} {out2_3 : List Rat} (C1 : 0 < i_9) (K2 : runL (n + 3) 146 [.ptr 0 0, .lit (.int .i64 a1)] [.box 192 [.sl 1 (a0.Raw.map intU8C), .lit (.int .i64 i2_9)] false] = some (formV r10, [(0, .box 192 [.sl 1 (a0.Raw.map intU8C), .lit (.int .i64 z10)] false)])) (M3 : out_9.length + 1 ≤ 100000000) (W4 : InI (i_9 - 1)) :
    Cont 1 (exec Tryz.prog (tab (n + 4)) 1 49 (livesOf 145) big sm_C9) (livesOf 145 9) (sm_h9 a0 a1 i_9 i2_9 out_3 out2_3 out_9) (sm_h9 a0 a1 (i_9 - 1) z10 out_3 out2_3 (out_9 ++ [r10])) := by
  simp only [formV] at K2
  have M3_ : ∀ b, b ≤ 10000 → roomy (out_9.length + 1) b = true := fun b hb => roomy_s M3 hb
  have W4_ : IntKind.i64.wrap (i_9 - 1) = i_9 - 1 := wr64 W4.1 W4.2
  unfold Cont
  simp +decide [sm_h9, loopsOf, Tryz.f145, sm_C9, C1, K2, M3_, W4_]
theorem sm_x9_1 {n : Nat} {a0 : TFeed} {a1 : Int} {i_9 : Int} {i2_9 : Int} {out_3 : List Rat} {out2_3 : List Rat} {out_9 : List Form} (C1 : ¬ 0 < i_9) :
    Leave 1 (exec Tryz.prog (tab (n + 4)) 1 49 (livesOf 145) big sm_C9) (livesOf 145 (outOf 9)) (sm_h9 a0 a1 i_9 i2_9 out_3 out2_3 out_9) (.exit 2) (sm_o9a a0 i2_9 out_3 out2_3 out_9) := by
  unfold Leave
  simp +decide [sm_h9, loopsOf, Tryz.f145, sm_o9a, sm_C9, C1]
theorem sm_f1 {n : Nat} {a0 : TFeed} {a1 : Int} {i2_3 : Int} {out_3 : List Rat} {out2_3 : List Rat} {r7 : Int} {z7 : Int} {i2_9 : Int} {out_9 : List Form} (L1 : loopG Tryz.prog (tab (n + 4)) 1 49 (livesOf 145) 3 sm_C3 (sm_h3 a0 a1 0 a0.At [] []) = some (.exit 0, sm_o3a a0 a1 i2_3 out_3 out2_3)) (K2 : runL (n + 3) 61 [.ptr 0 0, .lit (.int .i64 3)] [.box 192 [.sl 1 (a0.Raw.map intU8C), .lit (.int .i64 i2_3)] false] = some (.lit (.int .i64 r7), [(0, .box 192 [.sl 1 (a0.Raw.map intU8C), .lit (.int .i64 z7)] false)])) (L3 : loopG Tryz.prog (tab (n + 4)) 1 49 (livesOf 145) 9 sm_C9 (sm_h9 a0 a1 r7 z7 out_3 out2_3 []) = some (.exit 2, sm_o9a a0 i2_9 out_3 out2_3 out_9)) :
    runL (n + 4) 145 [.ptr 0 0, .lit (.int .i64 a1)] [.box 192 [.sl 1 (a0.Raw.map intU8C), .lit (.int .i64 (a0.At))] false] = some (.agg [.sl 3 (out_3.map ratC), .sl 3 (out2_3.map ratC), .sl 4 (out_9.map formC)], [(0, .box 192 [.sl 1 (a0.Raw.map intU8C), .lit (.int .i64 i2_9)] false)]) := by
  unfold runL fnL
  simp +decide [Tryz.f145, K2]
  rw [loopX_G (C' := sm_C3) (e := (sm_h3 a0 a1 0 a0.At [] [])) ?_ ?_, L1]
  rotate_left
  · kernel_rfl
  · simp +decide [sm_h3, K2]
  simp +decide [sm_o3a, K2]
  rw [loopX_G (C' := sm_C9) (e := (sm_h9 a0 a1 r7 z7 out_3 out2_3 [])) ?_ ?_, L3]
  rotate_left
  · kernel_rfl
  · simp +decide [sm_h9, K2]
  simp +decide [sm_o9a, K2]
/-! relucertref21.query, level 5 -/
theorem qu_f1 {n : Nat} {a0 : TFeed} {r : TGraph} {z : Int} {r2 : TRegion} {z2 : Int} {r3 : Form} {z3 : Int} (K1 : runL (n + 4) 144 [.ptr 0 0] [.box 192 [.sl 1 (a0.Raw.map intU8C), .lit (.int .i64 (a0.At))] false] = some (graphV r, [(0, .box 192 [.sl 1 (a0.Raw.map intU8C), .lit (.int .i64 z)] false)])) (K2 : runL (n + 4) 145 [.ptr 0 0, .lit (.int .i64 (r.Inputs))] [.box 192 [.sl 1 (a0.Raw.map intU8C), .lit (.int .i64 z)] false] = some (regionV r2, [(0, .box 192 [.sl 1 (a0.Raw.map intU8C), .lit (.int .i64 z2)] false)])) (W3 : InI (r.Inputs + (r.Units.length : Int))) (K4 : runL (n + 4) 146 [.ptr 0 0, .lit (.int .i64 (r.Inputs + (r.Units.length : Int)))] [.box 192 [.sl 1 (a0.Raw.map intU8C), .lit (.int .i64 z2)] false] = some (formV r3, [(0, .box 192 [.sl 1 (a0.Raw.map intU8C), .lit (.int .i64 z3)] false)])) :
    runL (n + 5) 60 [.ptr 0 0] [.box 192 [.sl 1 (a0.Raw.map intU8C), .lit (.int .i64 (a0.At))] false] = some (.agg [.lit (.int .i64 (r.Inputs)), .sl 4 (r.Units.map formC), .sl 4 (r.Outputs.map formC), .sl 3 (r2.Lo.map ratC), .sl 3 (r2.Hi.map ratC), .sl 4 (r2.Rows.map formC), .sl 4 (r3.1.map termC), .lit (.bool (rawQ r3.2).s), natA (rawQ r3.2).l1, natA (rawQ r3.2).l2], [(0, .box 192 [.sl 1 (a0.Raw.map intU8C), .lit (.int .i64 z3)] false)]) := by
  simp only [graphV] at K1
  simp only [regionV] at K2
  have W3_ : IntKind.i64.wrap (r.Inputs + (r.Units.length : Int)) = r.Inputs + (r.Units.length : Int) := wr64 W3.1 W3.2
  simp only [formV] at K4
  unfold runL fnL
  simp +decide [Tryz.f60, K1, K2, W3_, K4]
end Go.Proofs.YtkakmdadnhjphaaGreatDoor
set_option linter.all false
set_option maxRecDepth 100000
set_option maxHeartbeats 6400000
namespace Go.Proofs.YtkakmdadnhjphaaGreatDoor
open Go.RowKit

/-! relucertref07.Valid, level 0 -/
noncomputable def va_C2 : Code := (loopsOf (bodyOf Tryz.f36)).getD 0 .skip
def va_h2 (a0 : Form) (a1 : Int) (i_2 : Nat) : St :=
  ⟨[(1, .lit (.int .i64 a1)), (2, .ptr 0 0), (5, .lit (.int .i64 (i_2 : Int)))],
   [(0, some (.box 43 [.sl 4 (a0.1.map termC), .lit (.bool (rawQ a0.2).s), natA (rawQ a0.2).l1, natA (rawQ a0.2).l2] false))], 1⟩
def va_o2a (a0 : Form) : St :=
  ⟨[(2, .ptr 0 0), (4, .lit (.bool false))],
   [(0, some (.box 43 [.sl 4 (a0.1.map termC), .lit (.bool (rawQ a0.2).s), natA (rawQ a0.2).l1, natA (rawQ a0.2).l2] false))], 1⟩
def va_o2b (a0 : Form) : St :=
  ⟨[(2, .ptr 0 0), (4, .any)],
   [(0, some (.box 43 [.sl 4 (a0.1.map termC), .lit (.bool (rawQ a0.2).s), natA (rawQ a0.2).l1, natA (rawQ a0.2).l2] false))], 1⟩
theorem va_r2_1 {n : Nat} {a0 : Form} {a1 : Int} {i_2 : Nat} {v4 : Int} {q4 : Rat} {v5 : Int} {q5 : Rat} (C1 : (i_2 : Int) < (a0.1.length : Int)) (E2 : a0.1[i_2]? = some (v4, q4)) (C3 : ¬ v4 < 0) (C4 : ¬ a1 ≤ v4) (C5 : 0 < (i_2 : Int)) (W6 : InI ((i_2 : Int) - 1)) (E7 : a0.1[i_2 - 1]? = some (v5, q5)) (Z7 : 1 ≤ i_2) (C8 : ¬ v4 ≤ v5) (B9a : H q4 ≤ 17179869184) (C10 : ¬ sgR q4 = 0) (W12 : InI ((i_2 : Int) + 1)) :
    Cont 0 (exec Tryz.prog (tab n) 0 59 (livesOf 36) big va_C2) (livesOf 36 2) (va_h2 a0 a1 i_2) (va_h2 a0 a1 (i_2 + 1)) := by
  have C1_ : i_2 < a0.1.length := by omega
  obtain ⟨EL2, EG2⟩ := List.getElem?_eq_some_iff.1 E2
  have C5_ : 0 < i_2 := by omega
  have W6_ : IntKind.i64.wrap ((i_2 : Int) - 1) = (i_2 : Int) - 1 := wr64 W6.1 W6.2
  obtain ⟨EL7, EG7⟩ := List.getElem?_eq_some_iff.1 E7
  have Z7_0 : (1 : Int) ≤ (i_2 : Int) := by omega
  have Z7_1 : 0 ≤ (i_2 : Int) - 1 := by omega
  have K9 := r_sign (p := q4) B9a
  have C10_ : (sgR q4 == 0) = false := by simpa using C10
  have C10_n : (sgR q4 != 0) = true := by simpa using C10
  have K11 := r_valid (p := q4) B9a
  have W12_ : IntKind.i64.wrap ((i_2 : Int) + 1) = (i_2 : Int) + 1 := wr64 W12.1 W12.2
  unfold Cont
  simp +decide [va_h2, loopsOf, Tryz.f36, va_C2, C1, C1_, EL2, EG2, E2, C3, C4, C5, C5_, W6_, EL7, EG7, E7, Z7, Z7_0, Z7_1, C8, K9, C10_, C10_n, K11, W12_]
theorem va_r2_2 {n : Nat} {a0 : Form} {a1 : Int} {i_2 : Nat} {v4 : Int} {q4 : Rat} (C1 : (i_2 : Int) < (a0.1.length : Int)) (E2 : a0.1[i_2]? = some (v4, q4)) (C3 : ¬ v4 < 0) (C4 : ¬ a1 ≤ v4) (C5 : ¬ 0 < (i_2 : Int)) (B6a : H q4 ≤ 17179869184) (C7 : ¬ sgR q4 = 0) (W9 : InI ((i_2 : Int) + 1)) :
    Cont 0 (exec Tryz.prog (tab n) 0 59 (livesOf 36) big va_C2) (livesOf 36 2) (va_h2 a0 a1 i_2) (va_h2 a0 a1 (i_2 + 1)) := by
  have C1_ : i_2 < a0.1.length := by omega
  obtain ⟨EL2, EG2⟩ := List.getElem?_eq_some_iff.1 E2
  have C5_ : ¬ 0 < i_2 := by omega
  have K6 := r_sign (p := q4) B6a
  have C7_ : (sgR q4 == 0) = false := by simpa using C7
  have C7_n : (sgR q4 != 0) = true := by simpa using C7
  have K8 := r_valid (p := q4) B6a
  have W9_ : IntKind.i64.wrap ((i_2 : Int) + 1) = (i_2 : Int) + 1 := wr64 W9.1 W9.2
  unfold Cont
  simp +decide [va_h2, loopsOf, Tryz.f36, va_C2, C1, C1_, EL2, EG2, E2, C3, C4, C5, C5_, K6, C7_, C7_n, K8, W9_]
theorem va_x2_1 {n : Nat} {a0 : Form} {a1 : Int} {i_2 : Nat} {v4 : Int} {q4 : Rat} (C1 : (i_2 : Int) < (a0.1.length : Int)) (E2 : a0.1[i_2]? = some (v4, q4)) (C3 : v4 < 0) :
    Leave 0 (exec Tryz.prog (tab n) 0 59 (livesOf 36) big va_C2) (livesOf 36 (outOf 2)) (va_h2 a0 a1 i_2) (.ret) (va_o2a a0) := by
  have C1_ : i_2 < a0.1.length := by omega
  obtain ⟨EL2, EG2⟩ := List.getElem?_eq_some_iff.1 E2
  unfold Leave
  simp +decide [va_h2, loopsOf, Tryz.f36, va_o2a, va_C2, C1, C1_, EL2, EG2, E2, C3]
theorem va_x2_2 {n : Nat} {a0 : Form} {a1 : Int} {i_2 : Nat} {v4 : Int} {q4 : Rat} (C1 : (i_2 : Int) < (a0.1.length : Int)) (E2 : a0.1[i_2]? = some (v4, q4)) (C3 : ¬ v4 < 0) (C4 : a1 ≤ v4) :
    Leave 0 (exec Tryz.prog (tab n) 0 59 (livesOf 36) big va_C2) (livesOf 36 (outOf 2)) (va_h2 a0 a1 i_2) (.ret) (va_o2a a0) := by
  have C1_ : i_2 < a0.1.length := by omega
  obtain ⟨EL2, EG2⟩ := List.getElem?_eq_some_iff.1 E2
  unfold Leave
  simp +decide [va_h2, loopsOf, Tryz.f36, va_o2a, va_C2, C1, C1_, EL2, EG2, E2, C3, C4]
theorem va_x2_3 {n : Nat} {a0 : Form} {a1 : Int} {i_2 : Nat} {v4 : Int} {q4 : Rat} {v5 : Int} {q5 : Rat} (C1 : (i_2 : Int) < (a0.1.length : Int)) (E2 : a0.1[i_2]? = some (v4, q4)) (C3 : ¬ v4 < 0) (C4 : ¬ a1 ≤ v4) (C5 : 0 < (i_2 : Int)) (W6 : InI ((i_2 : Int) - 1)) (E7 : a0.1[i_2 - 1]? = some (v5, q5)) (Z7 : 1 ≤ i_2) (C8 : v4 ≤ v5) :
    Leave 0 (exec Tryz.prog (tab n) 0 59 (livesOf 36) big va_C2) (livesOf 36 (outOf 2)) (va_h2 a0 a1 i_2) (.ret) (va_o2a a0) := by
  have C1_ : i_2 < a0.1.length := by omega
  obtain ⟨EL2, EG2⟩ := List.getElem?_eq_some_iff.1 E2
  have C5_ : 0 < i_2 := by omega
  have W6_ : IntKind.i64.wrap ((i_2 : Int) - 1) = (i_2 : Int) - 1 := wr64 W6.1 W6.2
  obtain ⟨EL7, EG7⟩ := List.getElem?_eq_some_iff.1 E7
  have Z7_0 : (1 : Int) ≤ (i_2 : Int) := by omega
  have Z7_1 : 0 ≤ (i_2 : Int) - 1 := by omega
  unfold Leave
  simp +decide [va_h2, loopsOf, Tryz.f36, va_o2a, va_C2, C1, C1_, EL2, EG2, E2, C3, C4, C5, C5_, W6_, EL7, EG7, E7, Z7, Z7_0, Z7_1, C8]
theorem va_x2_4 {n : Nat} {a0 : Form} {a1 : Int} {i_2 : Nat} {v4 : Int} {q4 : Rat} {v5 : Int} {q5 : Rat} (C1 : (i_2 : Int) < (a0.1.length : Int)) (E2 : a0.1[i_2]? = some (v4, q4)) (C3 : ¬ v4 < 0) (C4 : ¬ a1 ≤ v4) (C5 : 0 < (i_2 : Int)) (W6 : InI ((i_2 : Int) - 1)) (E7 : a0.1[i_2 - 1]? = some (v5, q5)) (Z7 : 1 ≤ i_2) (C8 : ¬ v4 ≤ v5) (B9a : H q4 ≤ 17179869184) (C10 : sgR q4 = 0) :
    Leave 0 (exec Tryz.prog (tab n) 0 59 (livesOf 36) big va_C2) (livesOf 36 (outOf 2)) (va_h2 a0 a1 i_2) (.ret) (va_o2a a0) := by
  have C1_ : i_2 < a0.1.length := by omega
  obtain ⟨EL2, EG2⟩ := List.getElem?_eq_some_iff.1 E2
  have C5_ : 0 < i_2 := by omega
  have W6_ : IntKind.i64.wrap ((i_2 : Int) - 1) = (i_2 : Int) - 1 := wr64 W6.1 W6.2
  obtain ⟨EL7, EG7⟩ := List.getElem?_eq_some_iff.1 E7
  have Z7_0 : (1 : Int) ≤ (i_2 : Int) := by omega
  have Z7_1 : 0 ≤ (i_2 : Int) - 1 := by omega
  have K9 := r_sign (p := q4) B9a
  have C10_ : (sgR q4 == 0) = true := by rw [C10]; simp
  have C10_n : (sgR q4 != 0) = false := by rw [C10]; simp
  unfold Leave
  simp +decide [va_h2, loopsOf, Tryz.f36, va_o2a, va_C2, C1, C1_, EL2, EG2, E2, C3, C4, C5, C5_, W6_, EL7, EG7, E7, Z7, Z7_0, Z7_1, C8, K9, C10_, C10_n]
theorem va_x2_5 {n : Nat} {a0 : Form} {a1 : Int} {i_2 : Nat} {v4 : Int} {q4 : Rat} (C1 : (i_2 : Int) < (a0.1.length : Int)) (E2 : a0.1[i_2]? = some (v4, q4)) (C3 : ¬ v4 < 0) (C4 : ¬ a1 ≤ v4) (C5 : ¬ 0 < (i_2 : Int)) (B6a : H q4 ≤ 17179869184) (C7 : sgR q4 = 0) :
    Leave 0 (exec Tryz.prog (tab n) 0 59 (livesOf 36) big va_C2) (livesOf 36 (outOf 2)) (va_h2 a0 a1 i_2) (.ret) (va_o2a a0) := by
  have C1_ : i_2 < a0.1.length := by omega
  obtain ⟨EL2, EG2⟩ := List.getElem?_eq_some_iff.1 E2
  have C5_ : ¬ 0 < i_2 := by omega
  have K6 := r_sign (p := q4) B6a
  have C7_ : (sgR q4 == 0) = true := by rw [C7]; simp
  have C7_n : (sgR q4 != 0) = false := by rw [C7]; simp
  unfold Leave
  simp +decide [va_h2, loopsOf, Tryz.f36, va_o2a, va_C2, C1, C1_, EL2, EG2, E2, C3, C4, C5, C5_, K6, C7_, C7_n]
theorem va_x2_6 {n : Nat} {a0 : Form} {a1 : Int} {i_2 : Nat} (C1 : ¬ (i_2 : Int) < (a0.1.length : Int)) :
    Leave 0 (exec Tryz.prog (tab n) 0 59 (livesOf 36) big va_C2) (livesOf 36 (outOf 2)) (va_h2 a0 a1 i_2) (.exit 0) (va_o2b a0) := by
  have C1_ : ¬ i_2 < a0.1.length := by omega
  unfold Leave
  simp +decide [va_h2, loopsOf, Tryz.f36, va_o2b, va_C2, C1, C1_]
theorem va_f1 {n : Nat} {a0 : Form} {a1 : Int} (L1 : loopG Tryz.prog (tab n) 0 59 (livesOf 36) 2 va_C2 (va_h2 a0 a1 0) = some (.ret, va_o2a a0)) :
    run n 36 [formV a0, .lit (.int .i64 a1)] = some (.lit (.bool false)) := by
  unfold run fnP
  simp +decide [Tryz.f36]
  rw [loopX_G (C' := va_C2) (e := (va_h2 a0 a1 0)) ?_ ?_, L1]
  rotate_left
  · kernel_rfl
  · simp +decide [va_h2]
  simp +decide [va_o2a]
theorem va_f2 {n : Nat} {a0 : Form} {a1 : Int} (L1 : loopG Tryz.prog (tab n) 0 59 (livesOf 36) 2 va_C2 (va_h2 a0 a1 0) = some (.exit 0, va_o2b a0)) (B2a : H a0.2 ≤ 17179869184) :
    run n 36 [formV a0, .lit (.int .i64 a1)] = some (.lit (.bool true)) := by
  have K2 := r_valid (p := a0.2) B2a
  unfold run fnP
  simp +decide [Tryz.f36, K2]
  rw [loopX_G (C' := va_C2) (e := (va_h2 a0 a1 0)) ?_ ?_, L1]
  rotate_left
  · kernel_rfl
  · simp +decide [va_h2, K2]
  simp +decide [va_o2b, K2]
/-! relucertref07.ValidAll, level 1 -/
noncomputable def vl_C2 : Code := (loopsOf (bodyOf Tryz.f225)).getD 0 .skip
def vl_h2 (a0 : List Form) (a1 : Int) (i_2 : Nat) : St :=
  ⟨[(0, .sl 4 (a0.map formC)), (1, .lit (.int .i64 a1)), (5, .lit (.int .i64 (i_2 : Int)))],
   [], 0⟩
def vl_o2a  : St :=
  ⟨[(4, .lit (.bool false))],
   [], 0⟩
def vl_o2b  : St :=
  ⟨[(4, .any)],
   [], 0⟩
theorem vl_r2_1 {n : Nat} {a0 : List Form} {a1 : Int} {i_2 : Nat} {F3 : List (Int × Rat)} {q3 : Rat} {r3 : Bool} (C1 : (i_2 : Int) < (a0.length : Int)) (E2 : a0[i_2]? = some (F3, q3)) (K3 : run n 36 [formV (F3, q3), .lit (.int .i64 a1)] = some (.lit (.bool r3))) (C4 : r3 = true) (W5 : InI ((i_2 : Int) + 1)) :
    Cont 0 (exec Tryz.prog (tab (n + 1)) 0 19 (livesOf 225) big vl_C2) (livesOf 225 2) (vl_h2 a0 a1 i_2) (vl_h2 a0 a1 (i_2 + 1)) := by
  have C1_ : i_2 < a0.length := by omega
  obtain ⟨EL2, EG2⟩ := List.getElem?_eq_some_iff.1 E2
  simp only [formV] at K3
  have W5_ : IntKind.i64.wrap ((i_2 : Int) + 1) = (i_2 : Int) + 1 := wr64 W5.1 W5.2
  unfold Cont
  simp +decide [vl_h2, loopsOf, Tryz.f225, vl_C2, C1, C1_, EL2, EG2, E2, K3, C4, W5_]
theorem vl_x2_1 {n : Nat} {a0 : List Form} {a1 : Int} {i_2 : Nat} {F3 : List (Int × Rat)} {q3 : Rat} {r3 : Bool} (C1 : (i_2 : Int) < (a0.length : Int)) (E2 : a0[i_2]? = some (F3, q3)) (K3 : run n 36 [formV (F3, q3), .lit (.int .i64 a1)] = some (.lit (.bool r3))) (C4 : r3 = false) :
    Leave 0 (exec Tryz.prog (tab (n + 1)) 0 19 (livesOf 225) big vl_C2) (livesOf 225 (outOf 2)) (vl_h2 a0 a1 i_2) (.ret) (vl_o2a ) := by
  have C1_ : i_2 < a0.length := by omega
  obtain ⟨EL2, EG2⟩ := List.getElem?_eq_some_iff.1 E2
  simp only [formV] at K3
  unfold Leave
  simp +decide [vl_h2, loopsOf, Tryz.f225, vl_o2a, vl_C2, C1, C1_, EL2, EG2, E2, K3, C4]
theorem vl_x2_2 {n : Nat} {a0 : List Form} {a1 : Int} {i_2 : Nat} (C1 : ¬ (i_2 : Int) < (a0.length : Int)) :
    Leave 0 (exec Tryz.prog (tab (n + 1)) 0 19 (livesOf 225) big vl_C2) (livesOf 225 (outOf 2)) (vl_h2 a0 a1 i_2) (.exit 0) (vl_o2b ) := by
  have C1_ : ¬ i_2 < a0.length := by omega
  unfold Leave
  simp +decide [vl_h2, loopsOf, Tryz.f225, vl_o2b, vl_C2, C1, C1_]
theorem vl_f1 {n : Nat} {a0 : List Form} {a1 : Int} (L1 : loopG Tryz.prog (tab (n + 1)) 0 19 (livesOf 225) 2 vl_C2 (vl_h2 a0 a1 0) = some (.ret, vl_o2a )) :
    run (n + 1) 225 [.sl 4 (a0.map formC), .lit (.int .i64 a1)] = some (.lit (.bool false)) := by
  unfold run fnP
  simp +decide [Tryz.f225]
  rw [loopX_G (C' := vl_C2) (e := (vl_h2 a0 a1 0)) ?_ ?_, L1]
  rotate_left
  · kernel_rfl
  · simp +decide [vl_h2]
  simp +decide [vl_o2a]
theorem vl_f2 {n : Nat} {a0 : List Form} {a1 : Int} (L1 : loopG Tryz.prog (tab (n + 1)) 0 19 (livesOf 225) 2 vl_C2 (vl_h2 a0 a1 0) = some (.exit 0, vl_o2b )) :
    run (n + 1) 225 [.sl 4 (a0.map formC), .lit (.int .i64 a1)] = some (.lit (.bool true)) := by
  unfold run fnP
  simp +decide [Tryz.f225]
  rw [loopX_G (C' := vl_C2) (e := (vl_h2 a0 a1 0)) ?_ ?_, L1]
  rotate_left
  · kernel_rfl
  · simp +decide [vl_h2]
  simp +decide [vl_o2b]
/-! relucertref03.ValidAll, level 0 -/
noncomputable def vn_C2 : Code := (loopsOf (bodyOf Tryz.f226)).getD 0 .skip
def vn_h2 (a0 : List Rat) (i_2 : Nat) : St :=
  ⟨[(0, .sl 3 (a0.map ratC)), (3, .lit (.int .i64 (i_2 : Int)))],
   [], 0⟩
def vn_o2a  : St :=
  ⟨[(2, .any)],
   [], 0⟩
theorem vn_r2_1 {n : Nat} {a0 : List Rat} {i_2 : Nat} {x3 : Rat} (C1 : (i_2 : Int) < (a0.length : Int)) (E2 : a0[i_2]? = some x3) (B3a : H x3 ≤ 17179869184) (W4 : InI ((i_2 : Int) + 1)) :
    Cont 0 (exec Tryz.prog (tab n) 0 16 (livesOf 226) big vn_C2) (livesOf 226 2) (vn_h2 a0 i_2) (vn_h2 a0 (i_2 + 1)) := by
  have C1_ : i_2 < a0.length := by omega
  obtain ⟨EL2, EG2⟩ := List.getElem?_eq_some_iff.1 E2
  have K3 := r_valid (p := x3) B3a
  have W4_ : IntKind.i64.wrap ((i_2 : Int) + 1) = (i_2 : Int) + 1 := wr64 W4.1 W4.2
  unfold Cont
  simp +decide [vn_h2, loopsOf, Tryz.f226, vn_C2, C1, C1_, EL2, EG2, E2, K3, W4_]
theorem vn_x2_1 {n : Nat} {a0 : List Rat} {i_2 : Nat} (C1 : ¬ (i_2 : Int) < (a0.length : Int)) :
    Leave 0 (exec Tryz.prog (tab n) 0 16 (livesOf 226) big vn_C2) (livesOf 226 (outOf 2)) (vn_h2 a0 i_2) (.exit 0) (vn_o2a ) := by
  have C1_ : ¬ i_2 < a0.length := by omega
  unfold Leave
  simp +decide [vn_h2, loopsOf, Tryz.f226, vn_o2a, vn_C2, C1, C1_]
theorem vn_f1 {n : Nat} {a0 : List Rat} (L1 : loopG Tryz.prog (tab n) 0 16 (livesOf 226) 2 vn_C2 (vn_h2 a0 0) = some (.exit 0, vn_o2a )) :
    run n 226 [.sl 3 (a0.map ratC)] = some (.lit (.bool true)) := by
  unfold run fnP
  simp +decide [Tryz.f226]
  rw [loopX_G (C' := vn_C2) (e := (vn_h2 a0 0)) ?_ ?_, L1]
  rotate_left
  · kernel_rfl
  · simp +decide [vn_h2]
  simp +decide [vn_o2a]
end Go.Proofs.YtkakmdadnhjphaaGreatDoor
set_option linter.all false
set_option maxRecDepth 100000
set_option maxHeartbeats 6400000
namespace Go.Proofs.YtkakmdadnhjphaaGreatDoor
open Go.RowKit

/-! relucertref15.Valid, level 2 -/
noncomputable def vg_C4 : Code := (loopsOf (bodyOf Tryz.f152)).getD 0 .skip
def vg_h4 (a0 : TGraph) (i_4 : Nat) : St :=
  ⟨[(1, .ptr 0 0), (3, .lit (.int .i64 (i_4 : Int)))],
   [(0, some (.box 37 [.lit (.int .i64 (a0.Inputs)), .sl 4 (a0.Units.map formC), .sl 4 (a0.Outputs.map formC)] false))], 1⟩
def vg_o4a (a0 : TGraph) : St :=
  ⟨[(1, .ptr 0 0), (2, .lit (.bool false))],
   [(0, some (.box 37 [.lit (.int .i64 (a0.Inputs)), .sl 4 (a0.Units.map formC), .sl 4 (a0.Outputs.map formC)] false))], 1⟩
def vg_o4b (a0 : TGraph) : St :=
  ⟨[(1, .ptr 0 0), (2, .any)],
   [(0, some (.box 37 [.lit (.int .i64 (a0.Inputs)), .sl 4 (a0.Units.map formC), .sl 4 (a0.Outputs.map formC)] false))], 1⟩
theorem vg_r4_1 {n : Nat} {a0 : TGraph} {i_4 : Nat} {F3 : List (Int × Rat)} {q3 : Rat} {r3 : Bool} (C1 : (i_4 : Int) < (a0.Units.length : Int)) (E2 : a0.Units[i_4]? = some (F3, q3)) (W3 : InI (a0.Inputs + (i_4 : Int))) (K4 : run (n + 1) 36 [formV (F3, q3), .lit (.int .i64 (a0.Inputs + (i_4 : Int)))] = some (.lit (.bool r3))) (C5 : r3 = true) (W6 : InI ((i_4 : Int) + 1)) :
    Cont 0 (exec Tryz.prog (tab (n + 2)) 0 57 (livesOf 152) big vg_C4) (livesOf 152 4) (vg_h4 a0 i_4) (vg_h4 a0 (i_4 + 1)) := by
  have C1_ : i_4 < a0.Units.length := by omega
  obtain ⟨EL2, EG2⟩ := List.getElem?_eq_some_iff.1 E2
  have W3_ : IntKind.i64.wrap (a0.Inputs + (i_4 : Int)) = a0.Inputs + (i_4 : Int) := wr64 W3.1 W3.2
  simp only [formV] at K4
  have W6_ : IntKind.i64.wrap ((i_4 : Int) + 1) = (i_4 : Int) + 1 := wr64 W6.1 W6.2
  unfold Cont
  simp +decide [vg_h4, loopsOf, Tryz.f152, vg_C4, C1, C1_, EL2, EG2, E2, W3_, K4, C5, W6_]
theorem vg_x4_1 {n : Nat} {a0 : TGraph} {i_4 : Nat} {F3 : List (Int × Rat)} {q3 : Rat} {r3 : Bool} (C1 : (i_4 : Int) < (a0.Units.length : Int)) (E2 : a0.Units[i_4]? = some (F3, q3)) (W3 : InI (a0.Inputs + (i_4 : Int))) (K4 : run (n + 1) 36 [formV (F3, q3), .lit (.int .i64 (a0.Inputs + (i_4 : Int)))] = some (.lit (.bool r3))) (C5 : r3 = false) :
    Leave 0 (exec Tryz.prog (tab (n + 2)) 0 57 (livesOf 152) big vg_C4) (livesOf 152 (outOf 4)) (vg_h4 a0 i_4) (.ret) (vg_o4a a0) := by
  have C1_ : i_4 < a0.Units.length := by omega
  obtain ⟨EL2, EG2⟩ := List.getElem?_eq_some_iff.1 E2
  have W3_ : IntKind.i64.wrap (a0.Inputs + (i_4 : Int)) = a0.Inputs + (i_4 : Int) := wr64 W3.1 W3.2
  simp only [formV] at K4
  unfold Leave
  simp +decide [vg_h4, loopsOf, Tryz.f152, vg_o4a, vg_C4, C1, C1_, EL2, EG2, E2, W3_, K4, C5]
theorem vg_x4_2 {n : Nat} {a0 : TGraph} {i_4 : Nat} (C1 : ¬ (i_4 : Int) < (a0.Units.length : Int)) :
    Leave 0 (exec Tryz.prog (tab (n + 2)) 0 57 (livesOf 152) big vg_C4) (livesOf 152 (outOf 4)) (vg_h4 a0 i_4) (.exit 0) (vg_o4b a0) := by
  have C1_ : ¬ i_4 < a0.Units.length := by omega
  unfold Leave
  simp +decide [vg_h4, loopsOf, Tryz.f152, vg_o4b, vg_C4, C1, C1_]
theorem vg_f1 {n : Nat} {a0 : TGraph} (C1 : a0.Inputs < 1) :
    run (n + 2) 152 [graphV a0] = some (.lit (.bool false)) := by
  unfold run fnP
  simp +decide [Tryz.f152, C1]
theorem vg_f2 {n : Nat} {a0 : TGraph} (C1 : ¬ a0.Inputs < 1) (C2 : 256 < a0.Inputs) :
    run (n + 2) 152 [graphV a0] = some (.lit (.bool false)) := by
  unfold run fnP
  simp +decide [Tryz.f152, C1, C2]
theorem vg_f3 {n : Nat} {a0 : TGraph} (C1 : ¬ a0.Inputs < 1) (C2 : ¬ 256 < a0.Inputs) (C3 : 1024 < (a0.Units.length : Int)) :
    run (n + 2) 152 [graphV a0] = some (.lit (.bool false)) := by
  have C3_ : 1024 < a0.Units.length := by omega
  unfold run fnP
  simp +decide [Tryz.f152, C1, C2, C3, C3_]
theorem vg_f4 {n : Nat} {a0 : TGraph} (C1 : ¬ a0.Inputs < 1) (C2 : ¬ 256 < a0.Inputs) (C3 : ¬ 1024 < (a0.Units.length : Int)) (C4 : (a0.Outputs.length : Int) < 1) :
    run (n + 2) 152 [graphV a0] = some (.lit (.bool false)) := by
  have C3_ : ¬ 1024 < a0.Units.length := by omega
  have C4_ : a0.Outputs.length < 1 := by omega
  unfold run fnP
  simp +decide [Tryz.f152, C1, C2, C3, C3_, C4, C4_]
theorem vg_f5 {n : Nat} {a0 : TGraph} (C1 : ¬ a0.Inputs < 1) (C2 : ¬ 256 < a0.Inputs) (C3 : ¬ 1024 < (a0.Units.length : Int)) (C4 : ¬ (a0.Outputs.length : Int) < 1) (C5 : 256 < (a0.Outputs.length : Int)) :
    run (n + 2) 152 [graphV a0] = some (.lit (.bool false)) := by
  have C3_ : ¬ 1024 < a0.Units.length := by omega
  have C4_ : ¬ a0.Outputs.length < 1 := by omega
  have C5_ : 256 < a0.Outputs.length := by omega
  unfold run fnP
  simp +decide [Tryz.f152, C1, C2, C3, C3_, C4, C4_, C5, C5_]
theorem vg_f6 {n : Nat} {a0 : TGraph} (C1 : ¬ a0.Inputs < 1) (C2 : ¬ 256 < a0.Inputs) (C3 : ¬ 1024 < (a0.Units.length : Int)) (C4 : ¬ (a0.Outputs.length : Int) < 1) (C5 : ¬ 256 < (a0.Outputs.length : Int)) (L6 : loopG Tryz.prog (tab (n + 2)) 0 57 (livesOf 152) 4 vg_C4 (vg_h4 a0 0) = some (.ret, vg_o4a a0)) :
    run (n + 2) 152 [graphV a0] = some (.lit (.bool false)) := by
  have C3_ : ¬ 1024 < a0.Units.length := by omega
  have C4_ : ¬ a0.Outputs.length < 1 := by omega
  have C5_ : ¬ 256 < a0.Outputs.length := by omega
  unfold run fnP
  simp +decide [Tryz.f152, C1, C2, C3, C3_, C4, C4_, C5, C5_]
  rw [loopX_G (C' := vg_C4) (e := (vg_h4 a0 0)) ?_ ?_, L6]
  rotate_left
  · kernel_rfl
  · simp +decide [vg_h4, C1, C2, C3, C3_, C4, C4_, C5, C5_]
  simp +decide [vg_o4a, C1, C2, C3, C3_, C4, C4_, C5, C5_]
theorem vg_f7 {n : Nat} {a0 : TGraph} {r4 : Bool} (C1 : ¬ a0.Inputs < 1) (C2 : ¬ 256 < a0.Inputs) (C3 : ¬ 1024 < (a0.Units.length : Int)) (C4 : ¬ (a0.Outputs.length : Int) < 1) (C5 : ¬ 256 < (a0.Outputs.length : Int)) (L6 : loopG Tryz.prog (tab (n + 2)) 0 57 (livesOf 152) 4 vg_C4 (vg_h4 a0 0) = some (.exit 0, vg_o4b a0)) (W7 : InI (a0.Inputs + (a0.Units.length : Int))) (K8 : run (n + 1) 225 [.sl 4 (a0.Outputs.map formC), .lit (.int .i64 (a0.Inputs + (a0.Units.length : Int)))] = some (.lit (.bool r4))) :
    run (n + 2) 152 [graphV a0] = some (.lit (.bool r4)) := by
  have C3_ : ¬ 1024 < a0.Units.length := by omega
  have C4_ : ¬ a0.Outputs.length < 1 := by omega
  have C5_ : ¬ 256 < a0.Outputs.length := by omega
  have W7_ : IntKind.i64.wrap (a0.Inputs + (a0.Units.length : Int)) = a0.Inputs + (a0.Units.length : Int) := wr64 W7.1 W7.2
  unfold run fnP
  simp +decide [Tryz.f152, C1, C2, C3, C3_, C4, C4_, C5, C5_, W7_, K8]
  rw [loopX_G (C' := vg_C4) (e := (vg_h4 a0 0)) ?_ ?_, L6]
  rotate_left
  · kernel_rfl
  · simp +decide [vg_h4, C1, C2, C3, C3_, C4, C4_, C5, C5_, W7_, K8]
  simp +decide [vg_o4b, C1, C2, C3, C3_, C4, C4_, C5, C5_, W7_, K8]
/-! relucertref15.Vars, level 3 -/
theorem vars_f1 {n : Nat} {a0 : TGraph} {r : Bool} (K1 : run (n + 2) 152 [graphV a0] = some (.lit (.bool r))) (C2 : r = false) :
    run (n + 3) 154 [graphV a0] = some (.lit (.int .i64 0)) := by
  simp only [graphV] at K1
  unfold run fnP
  simp +decide [Tryz.f154, K1, C2]
theorem vars_f2 {n : Nat} {a0 : TGraph} {r : Bool} (K1 : run (n + 2) 152 [graphV a0] = some (.lit (.bool r))) (C2 : r = true) (W3 : InI (a0.Inputs + (a0.Units.length : Int))) :
    run (n + 3) 154 [graphV a0] = some (.lit (.int .i64 (a0.Inputs + (a0.Units.length : Int)))) := by
  simp only [graphV] at K1
  have W3_ : IntKind.i64.wrap (a0.Inputs + (a0.Units.length : Int)) = a0.Inputs + (a0.Units.length : Int) := wr64 W3.1 W3.2
  unfold run fnP
  simp +decide [Tryz.f154, K1, C2, W3_]
end Go.Proofs.YtkakmdadnhjphaaGreatDoor
set_option linter.all false
set_option maxRecDepth 100000
set_option maxHeartbeats 6400000
namespace Go.Proofs.YtkakmdadnhjphaaGreatDoor
open Go.RowKit

/-! relucertref19.Valid, level 2 -/
noncomputable def vr19_C6 : Code := (loopsOf (bodyOf Tryz.f153)).getD 0 .skip
def vr19_h6 (a0 : TRegion) (a1 : Int) (i_6 : Nat) : St :=
  ⟨[(1, .lit (.int .i64 a1)), (2, .ptr 0 0), (5, .lit (.int .i64 (i_6 : Int)))],
   [(0, some (.box 40 [.sl 3 (a0.Lo.map ratC), .sl 3 (a0.Hi.map ratC), .sl 4 (a0.Rows.map formC)] false))], 1⟩
def vr19_o6b  : St :=
  ⟨[(4, .any)],
   [], 0⟩
theorem vr19_r6_1 {n : Nat} {a0 : TRegion} {a1 : Int} {i_6 : Nat} {x5 : Rat} {x6 : Rat} (C1 : (i_6 : Int) < a1) (E2 : a0.Lo[i_6]? = some x5) (E3 : a0.Hi[i_6]? = some x6) (B4a : H x5 ≤ 17179869184) (B4b : H x6 ≤ 17179869184) (C5 : ¬ 0 < sgR (x5 - x6)) (W6 : InI ((i_6 : Int) + 1)) :
    Cont 0 (exec Tryz.prog (tab (n + 2)) 0 66 (livesOf 153) big vr19_C6) (livesOf 153 6) (vr19_h6 a0 a1 i_6) (vr19_h6 a0 a1 (i_6 + 1)) := by
  obtain ⟨EL2, EG2⟩ := List.getElem?_eq_some_iff.1 E2
  obtain ⟨EL3, EG3⟩ := List.getElem?_eq_some_iff.1 E3
  have K4 := r_cmp (p := x5) (q := x6) B4a B4b
  have W6_ : IntKind.i64.wrap ((i_6 : Int) + 1) = (i_6 : Int) + 1 := wr64 W6.1 W6.2
  unfold Cont
  simp +decide [vr19_h6, loopsOf, Tryz.f153, vr19_C6, C1, EL2, EG2, E2, EL3, EG3, E3, K4, C5, W6_]
theorem vr19_x6_2 {n : Nat} {a0 : TRegion} {a1 : Int} {i_6 : Nat} (C1 : ¬ (i_6 : Int) < a1) :
    Leave 0 (exec Tryz.prog (tab (n + 2)) 0 66 (livesOf 153) big vr19_C6) (livesOf 153 (outOf 6)) (vr19_h6 a0 a1 i_6) (.exit 0) (vr19_o6b ) := by
  unfold Leave
  simp +decide [vr19_h6, loopsOf, Tryz.f153, vr19_o6b, vr19_C6, C1]
theorem vr19_f10 {n : Nat} {a0 : TRegion} {a1 : Int} {r : Bool} {r2 : Bool} {r3 : Bool} (C1 : ¬ a1 < 1) (C2 : ¬ 256 < a1) (C3 : (a0.Lo.length : Int) = a1) (C4 : (a0.Hi.length : Int) = a1) (C5 : ¬ 256 < (a0.Rows.length : Int)) (K6 : run (n + 1) 226 [.sl 3 (a0.Lo.map ratC)] = some (.lit (.bool r))) (C7 : r = true) (K8 : run (n + 1) 226 [.sl 3 (a0.Hi.map ratC)] = some (.lit (.bool r2))) (C9 : r2 = true) (K10 : run (n + 1) 225 [.sl 4 (a0.Rows.map formC), .lit (.int .i64 a1)] = some (.lit (.bool r3))) (C11 : r3 = true) (L12 : loopG Tryz.prog (tab (n + 2)) 0 66 (livesOf 153) 6 vr19_C6 (vr19_h6 a0 a1 0) = some (.exit 0, vr19_o6b )) :
    run (n + 2) 153 [regionV a0, .lit (.int .i64 a1)] = some (.lit (.bool true)) := by
  have C3_ : ((a0.Lo.length : Int) == a1) = true := by rw [C3]; simp
  have C3_n : ((a0.Lo.length : Int) != a1) = false := by rw [C3]; simp
  have C4_ : ((a0.Hi.length : Int) == a1) = true := by rw [C4]; simp
  have C4_n : ((a0.Hi.length : Int) != a1) = false := by rw [C4]; simp
  have C5_ : ¬ 256 < a0.Rows.length := by omega
  unfold run fnP
  simp +decide [Tryz.f153, C1, C2, C3_, C3_n, C4_, C4_n, C5, C5_, K6, C7, K8, C9, K10, C11]
  rw [loopX_G (C' := vr19_C6) (e := (vr19_h6 a0 a1 0)) ?_ ?_, L12]
  rotate_left
  · kernel_rfl
  · simp +decide [vr19_h6, C1, C2, C3_, C3_n, C4_, C4_n, C5, C5_, K6, C7, K8, C9, K10, C11]
  simp +decide [vr19_o6b, C1, C2, C3_, C3_n, C4_, C4_n, C5, C5_, K6, C7, K8, C9, K10, C11]
end Go.Proofs.YtkakmdadnhjphaaGreatDoor
set_option linter.all false
set_option maxRecDepth 100000
set_option maxHeartbeats 6400000
namespace Go.Proofs.YtkakmdadnhjphaaGreatDoor
open Go.RowKit

/-! relucertref21.Valid, level 4 -/
theorem vq_f1 {n : Nat} {a0 : TQuery} {r : Bool} {r2 : Bool} {r3 : Int} {r4 : Bool} (K1 : run (n + 3) 152 [graphV a0.Graph] = some (.lit (.bool r))) (C2 : r = true) (K3 : run (n + 3) 153 [regionV a0.Region, .lit (.int .i64 (a0.Graph.Inputs))] = some (.lit (.bool r2))) (C4 : r2 = true) (K5 : run (n + 3) 154 [graphV a0.Graph] = some (.lit (.int .i64 r3))) (K6 : run (n + 3) 36 [formV a0.Goal, .lit (.int .i64 r3)] = some (.lit (.bool r4))) :
    run (n + 4) 66 [queryV a0] = some (.lit (.bool r4)) := by
  simp only [graphV] at K1
  simp only [regionV] at K3
  simp only [graphV] at K5
  simp only [formV] at K6
  unfold run fnP
  simp +decide [Tryz.f66, K1, C2, K3, C4, K5, K6]
end Go.Proofs.YtkakmdadnhjphaaGreatDoor
set_option linter.all false
set_option maxRecDepth 100000
set_option maxHeartbeats 6400000
namespace Go.Proofs.YtkakmdadnhjphaaGreatDoor
open Go.RowKit

/-! relucertref21.fits, level 0 -/
theorem fi_f1 {n : Nat} {a0 : TQuery} {a1 : TDecision} (C1 : a1.Kind = 1) (C2 : 0 ≤ a1.Index) (C3 : a1.Index < (a0.Graph.Units.length : Int)) (B4a : H a1.At ≤ 17179869184) :
    run n 147 [queryV a0, decisionV a1] = some (.lit (.bool (decide (a1.At = 0)))) := by
  have C1_ : (a1.Kind == 1) = true := by rw [C1]; simp
  have C1_n : (a1.Kind != 1) = false := by rw [C1]; simp
  have B4b : H 0 ≤ 17179869184 := by decide
  have K4 := r_same (p := a1.At) (q := 0) B4a B4b
  simp only [z0s, z0n, z0d] at K4
  unfold run fnP
  simp +decide [Tryz.f147, C1_, C1_n, C2, C3, K4]
theorem fi_f2 {n : Nat} {a0 : TQuery} {a1 : TDecision} (C1 : a1.Kind = 1) (C2 : 0 ≤ a1.Index) (C3 : ¬ a1.Index < (a0.Graph.Units.length : Int)) :
    run n 147 [queryV a0, decisionV a1] = some (.lit (.bool false)) := by
  have C1_ : (a1.Kind == 1) = true := by rw [C1]; simp
  have C1_n : (a1.Kind != 1) = false := by rw [C1]; simp
  unfold run fnP
  simp +decide [Tryz.f147, C1_, C1_n, C2, C3]
theorem fi_f3 {n : Nat} {a0 : TQuery} {a1 : TDecision} (C1 : a1.Kind = 1) (C2 : ¬ 0 ≤ a1.Index) :
    run n 147 [queryV a0, decisionV a1] = some (.lit (.bool false)) := by
  have C1_ : (a1.Kind == 1) = true := by rw [C1]; simp
  have C1_n : (a1.Kind != 1) = false := by rw [C1]; simp
  unfold run fnP
  simp +decide [Tryz.f147, C1_, C1_n, C2]
theorem fi_f4 {n : Nat} {a0 : TQuery} {a1 : TDecision} (C1 : ¬ a1.Kind = 1) (C2 : a1.Kind = 2) (C3 : 0 ≤ a1.Index) (C4 : a1.Index < (a0.Graph.Units.length : Int)) (B5a : H a1.At ≤ 17179869184) :
    run n 147 [queryV a0, decisionV a1] = some (.lit (.bool (decide (a1.At = 0)))) := by
  have C1_ : (a1.Kind == 1) = false := by simpa using C1
  have C1_n : (a1.Kind != 1) = true := by simpa using C1
  have C2_ : (a1.Kind == 2) = true := by rw [C2]; simp
  have C2_n : (a1.Kind != 2) = false := by rw [C2]; simp
  have B5b : H 0 ≤ 17179869184 := by decide
  have K5 := r_same (p := a1.At) (q := 0) B5a B5b
  simp only [z0s, z0n, z0d] at K5
  unfold run fnP
  simp +decide [Tryz.f147, C1_, C1_n, C2_, C2_n, C3, C4, K5]
theorem fi_f5 {n : Nat} {a0 : TQuery} {a1 : TDecision} (C1 : ¬ a1.Kind = 1) (C2 : a1.Kind = 2) (C3 : 0 ≤ a1.Index) (C4 : ¬ a1.Index < (a0.Graph.Units.length : Int)) :
    run n 147 [queryV a0, decisionV a1] = some (.lit (.bool false)) := by
  have C1_ : (a1.Kind == 1) = false := by simpa using C1
  have C1_n : (a1.Kind != 1) = true := by simpa using C1
  have C2_ : (a1.Kind == 2) = true := by rw [C2]; simp
  have C2_n : (a1.Kind != 2) = false := by rw [C2]; simp
  unfold run fnP
  simp +decide [Tryz.f147, C1_, C1_n, C2_, C2_n, C3, C4]
theorem fi_f6 {n : Nat} {a0 : TQuery} {a1 : TDecision} (C1 : ¬ a1.Kind = 1) (C2 : a1.Kind = 2) (C3 : ¬ 0 ≤ a1.Index) :
    run n 147 [queryV a0, decisionV a1] = some (.lit (.bool false)) := by
  have C1_ : (a1.Kind == 1) = false := by simpa using C1
  have C1_n : (a1.Kind != 1) = true := by simpa using C1
  have C2_ : (a1.Kind == 2) = true := by rw [C2]; simp
  have C2_n : (a1.Kind != 2) = false := by rw [C2]; simp
  unfold run fnP
  simp +decide [Tryz.f147, C1_, C1_n, C2_, C2_n, C3]
theorem fi_f7 {n : Nat} {a0 : TQuery} {a1 : TDecision} (C1 : ¬ a1.Kind = 1) (C2 : ¬ a1.Kind = 2) (C3 : a1.Kind = 3) (C4 : 0 ≤ a1.Index) (C5 : a1.Index < a0.Graph.Inputs) (B6a : H a1.At ≤ 17179869184) :
    run n 147 [queryV a0, decisionV a1] = some (.lit (.bool true)) := by
  have C1_ : (a1.Kind == 1) = false := by simpa using C1
  have C1_n : (a1.Kind != 1) = true := by simpa using C1
  have C2_ : (a1.Kind == 2) = false := by simpa using C2
  have C2_n : (a1.Kind != 2) = true := by simpa using C2
  have C3_ : (a1.Kind == 3) = true := by rw [C3]; simp
  have C3_n : (a1.Kind != 3) = false := by rw [C3]; simp
  have K6 := r_valid (p := a1.At) B6a
  unfold run fnP
  simp +decide [Tryz.f147, C1_, C1_n, C2_, C2_n, C3_, C3_n, C4, C5, K6]
theorem fi_f8 {n : Nat} {a0 : TQuery} {a1 : TDecision} (C1 : ¬ a1.Kind = 1) (C2 : ¬ a1.Kind = 2) (C3 : a1.Kind = 3) (C4 : 0 ≤ a1.Index) (C5 : ¬ a1.Index < a0.Graph.Inputs) :
    run n 147 [queryV a0, decisionV a1] = some (.lit (.bool false)) := by
  have C1_ : (a1.Kind == 1) = false := by simpa using C1
  have C1_n : (a1.Kind != 1) = true := by simpa using C1
  have C2_ : (a1.Kind == 2) = false := by simpa using C2
  have C2_n : (a1.Kind != 2) = true := by simpa using C2
  have C3_ : (a1.Kind == 3) = true := by rw [C3]; simp
  have C3_n : (a1.Kind != 3) = false := by rw [C3]; simp
  unfold run fnP
  simp +decide [Tryz.f147, C1_, C1_n, C2_, C2_n, C3_, C3_n, C4, C5]
theorem fi_f9 {n : Nat} {a0 : TQuery} {a1 : TDecision} (C1 : ¬ a1.Kind = 1) (C2 : ¬ a1.Kind = 2) (C3 : a1.Kind = 3) (C4 : ¬ 0 ≤ a1.Index) :
    run n 147 [queryV a0, decisionV a1] = some (.lit (.bool false)) := by
  have C1_ : (a1.Kind == 1) = false := by simpa using C1
  have C1_n : (a1.Kind != 1) = true := by simpa using C1
  have C2_ : (a1.Kind == 2) = false := by simpa using C2
  have C2_n : (a1.Kind != 2) = true := by simpa using C2
  have C3_ : (a1.Kind == 3) = true := by rw [C3]; simp
  have C3_n : (a1.Kind != 3) = false := by rw [C3]; simp
  unfold run fnP
  simp +decide [Tryz.f147, C1_, C1_n, C2_, C2_n, C3_, C3_n, C4]
theorem fi_f10 {n : Nat} {a0 : TQuery} {a1 : TDecision} (C1 : ¬ a1.Kind = 1) (C2 : ¬ a1.Kind = 2) (C3 : ¬ a1.Kind = 3) (C4 : a1.Kind = 4) (C5 : 0 ≤ a1.Index) (C6 : a1.Index < a0.Graph.Inputs) (B7a : H a1.At ≤ 17179869184) :
    run n 147 [queryV a0, decisionV a1] = some (.lit (.bool true)) := by
  have C1_ : (a1.Kind == 1) = false := by simpa using C1
  have C1_n : (a1.Kind != 1) = true := by simpa using C1
  have C2_ : (a1.Kind == 2) = false := by simpa using C2
  have C2_n : (a1.Kind != 2) = true := by simpa using C2
  have C3_ : (a1.Kind == 3) = false := by simpa using C3
  have C3_n : (a1.Kind != 3) = true := by simpa using C3
  have C4_ : (a1.Kind == 4) = true := by rw [C4]; simp
  have C4_n : (a1.Kind != 4) = false := by rw [C4]; simp
  have K7 := r_valid (p := a1.At) B7a
  unfold run fnP
  simp +decide [Tryz.f147, C1_, C1_n, C2_, C2_n, C3_, C3_n, C4_, C4_n, C5, C6, K7]
theorem fi_f11 {n : Nat} {a0 : TQuery} {a1 : TDecision} (C1 : ¬ a1.Kind = 1) (C2 : ¬ a1.Kind = 2) (C3 : ¬ a1.Kind = 3) (C4 : a1.Kind = 4) (C5 : 0 ≤ a1.Index) (C6 : ¬ a1.Index < a0.Graph.Inputs) :
    run n 147 [queryV a0, decisionV a1] = some (.lit (.bool false)) := by
  have C1_ : (a1.Kind == 1) = false := by simpa using C1
  have C1_n : (a1.Kind != 1) = true := by simpa using C1
  have C2_ : (a1.Kind == 2) = false := by simpa using C2
  have C2_n : (a1.Kind != 2) = true := by simpa using C2
  have C3_ : (a1.Kind == 3) = false := by simpa using C3
  have C3_n : (a1.Kind != 3) = true := by simpa using C3
  have C4_ : (a1.Kind == 4) = true := by rw [C4]; simp
  have C4_n : (a1.Kind != 4) = false := by rw [C4]; simp
  unfold run fnP
  simp +decide [Tryz.f147, C1_, C1_n, C2_, C2_n, C3_, C3_n, C4_, C4_n, C5, C6]
theorem fi_f12 {n : Nat} {a0 : TQuery} {a1 : TDecision} (C1 : ¬ a1.Kind = 1) (C2 : ¬ a1.Kind = 2) (C3 : ¬ a1.Kind = 3) (C4 : a1.Kind = 4) (C5 : ¬ 0 ≤ a1.Index) :
    run n 147 [queryV a0, decisionV a1] = some (.lit (.bool false)) := by
  have C1_ : (a1.Kind == 1) = false := by simpa using C1
  have C1_n : (a1.Kind != 1) = true := by simpa using C1
  have C2_ : (a1.Kind == 2) = false := by simpa using C2
  have C2_n : (a1.Kind != 2) = true := by simpa using C2
  have C3_ : (a1.Kind == 3) = false := by simpa using C3
  have C3_n : (a1.Kind != 3) = true := by simpa using C3
  have C4_ : (a1.Kind == 4) = true := by rw [C4]; simp
  have C4_n : (a1.Kind != 4) = false := by rw [C4]; simp
  unfold run fnP
  simp +decide [Tryz.f147, C1_, C1_n, C2_, C2_n, C3_, C3_n, C4_, C4_n, C5]
theorem fi_f13 {n : Nat} {a0 : TQuery} {a1 : TDecision} (C1 : ¬ a1.Kind = 1) (C2 : ¬ a1.Kind = 2) (C3 : ¬ a1.Kind = 3) (C4 : ¬ a1.Kind = 4) :
    run n 147 [queryV a0, decisionV a1] = some (.lit (.bool false)) := by
  have C1_ : (a1.Kind == 1) = false := by simpa using C1
  have C1_n : (a1.Kind != 1) = true := by simpa using C1
  have C2_ : (a1.Kind == 2) = false := by simpa using C2
  have C2_n : (a1.Kind != 2) = true := by simpa using C2
  have C3_ : (a1.Kind == 3) = false := by simpa using C3
  have C3_n : (a1.Kind != 3) = true := by simpa using C3
  have C4_ : (a1.Kind == 4) = false := by simpa using C4
  have C4_n : (a1.Kind != 4) = true := by simpa using C4
  unfold run fnP
  simp +decide [Tryz.f147, C1_, C1_n, C2_, C2_n, C3_, C3_n, C4_, C4_n]
end Go.Proofs.YtkakmdadnhjphaaGreatDoor
