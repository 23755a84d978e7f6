/- Walks: relucertref07.Add, relucertref07.Scale. -/
import Derived.Test.YthkkmokbjmempaaGreatDoorUe
set_option linter.all false
set_option linter.all false
set_option maxRecDepth 100000
set_option maxHeartbeats 6400000
namespace Go.Proofs.YthkkmokbjmempaaGreatDoor
open Go.RowKit

/-! relucertref07.Add, level 2 -/
noncomputable def ad_C3 : Code := (loopsOf (bodyOf Tryz.f33)).getD 0 .skip
def ad_h3 (a1 : Form) (i_3 : Nat) (l_3 : List (Int × Rat)) (s_3 : Rat) : St :=
  ⟨[(3, .ptr 0 0), (4, .ptr 1 0), (5, .ptr 2 0), (6, .lit (.int .i64 (i_3 : Int)))],
   [(0, some (.box 29 [.sl 4 (a1.1.map termC), .lit (.bool (rawQ a1.2).s), natA (rawQ a1.2).l1, natA (rawQ a1.2).l2] false)),
    (1, some (.box 29 [.nl 4, .lit (.bool false), .nl 1, .nl 1] false)),
    (2, some (.box 29 [.sl 4 (l_3.map termC), .lit (.bool (rawQ s_3).s), natA (rawQ s_3).l1, natA (rawQ s_3).l2] false))], 3⟩
def ad_o3a (l_3 : List (Int × Rat)) (s_3 : Rat) : St :=
  ⟨[(4, .ptr 0 0), (5, .ptr 1 0)],
   [(0, some (.box 29 [.nl 4, .lit (.bool false), .nl 1, .nl 1] false)),
    (1, some (.box 29 [.sl 4 (l_3.map termC), .lit (.bool (rawQ s_3).s), natA (rawQ s_3).l1, natA (rawQ s_3).l2] false))], 2⟩
theorem ad_r3_1 {n : Nat} {a1 : Form} {i_3 : Nat} {v3 : Int} {q3 : Rat} {l_3 : List (Int × Rat)} {s_3 : Rat} {r3 : Form} (C1 : (i_3 : Int) < (a1.1.length : Int)) (E2 : a1.1[i_3]? = some (v3, q3)) (K3 : run (n + 1) 78 [formV (l_3, s_3), .lit (.int .i64 v3), ratV q3] = some (formV r3)) (W4 : InI ((i_3 : Int) + 1)) :
    Cont 0 (exec Tryz.prog (tab (n + 2)) 0 43 (livesOf 33) big ad_C3) (livesOf 33 3) (ad_h3 a1 i_3 l_3 s_3) (ad_h3 a1 (i_3 + 1) r3.1 r3.2) := by
  have C1_ : i_3 < a1.1.length := by omega
  obtain ⟨EL2, EG2⟩ := List.getElem?_eq_some_iff.1 E2
  simp only [ratV, formV] at K3
  have W4_ : IntKind.i64.wrap ((i_3 : Int) + 1) = (i_3 : Int) + 1 := wr64 W4.1 W4.2
  unfold Cont
  simp +decide [ad_h3, loopsOf, Tryz.f33, ad_C3, C1, C1_, EL2, EG2, E2, K3, W4_]
theorem ad_x3_1 {n : Nat} {a1 : Form} {i_3 : Nat} {l_3 : List (Int × Rat)} {s_3 : Rat} (C1 : ¬ (i_3 : Int) < (a1.1.length : Int)) :
    Leave 0 (exec Tryz.prog (tab (n + 2)) 0 43 (livesOf 33) big ad_C3) (livesOf 33 (outOf 3)) (ad_h3 a1 i_3 l_3 s_3) (.exit 0) (ad_o3a l_3 s_3) := by
  have C1_ : ¬ i_3 < a1.1.length := by omega
  unfold Leave
  simp +decide [ad_h3, loopsOf, Tryz.f33, ad_o3a, ad_C3, C1, C1_]
theorem ad_f1 {n : Nat} {a0 : Form} {a1 : Form} {l_3 : List (Int × Rat)} {s_3 : Rat} (B1a : H a0.2 ≤ 17179869184) (B1b : H a1.2 ≤ 17179869184) (L2 : loopG Tryz.prog (tab (n + 2)) 0 43 (livesOf 33) 3 ad_C3 (ad_h3 a1 0 a0.1 (a0.2 + a1.2)) = some (.exit 0, ad_o3a l_3 s_3)) (M3 : l_3.length ≤ 100000000) :
    run (n + 2) 33 [formV a0, formV a1] = some (formV (l_3, s_3)) := by
  have K1 := r_add (p := a0.2) (q := a1.2) B1a B1b
  have M3_ : ∀ b, b ≤ 10000 → roomy (l_3.length) b = true := fun b hb => roomy_s M3 hb
  unfold run fnP
  simp +decide [Tryz.f33, K1, M3_]
  rw [loopX_G (C' := ad_C3) (e := (ad_h3 a1 0 a0.1 (a0.2 + a1.2))) ?_ ?_, L2]
  rotate_left
  · kernel_rfl
  · simp +decide [ad_h3, K1, M3_]
  simp +decide [ad_o3a, K1, M3_]
/-! relucertref07.Scale, level 1 -/
noncomputable def sc_C3 : Code := (loopsOf (bodyOf Tryz.f38)).getD 0 .skip
def sc_h3 (a0 : Form) (a1 : Rat) (i_3 : Nat) (out_3 : List (Int × Rat)) : St :=
  ⟨[(2, .ptr 0 0), (3, .ptr 1 0), (4, .ptr 2 0), (5, .ptr 3 0), (6, .lit (.int .i64 (i_3 : Int)))],
   [(0, some (.box 29 [.sl 4 (a0.1.map termC), .lit (.bool (rawQ a0.2).s), natA (rawQ a0.2).l1, natA (rawQ a0.2).l2] false)),
    (1, some (.box 27 [.lit (.bool (rawQ a1).s), natA (rawQ a1).l1, natA (rawQ a1).l2] false)),
    (2, some (.box 29 [.nl 4, .lit (.bool false), .nl 1, .nl 1] false)),
    (3, some (.box 29 [.own 4 out_3.length, .lit (.bool (rawQ (a0.2 * a1)).s), natA (rawQ (a0.2 * a1)).l1, natA (rawQ (a0.2 * a1)).l2] false)),
    (4, some (.row 76 4 (out_3.map termC) 0))], 5⟩
def sc_o3a (a0 : Form) (a1 : Rat) (out_3 : List (Int × Rat)) : St :=
  ⟨[(4, .ptr 0 0), (5, .ptr 1 0)],
   [(0, some (.box 29 [.nl 4, .lit (.bool false), .nl 1, .nl 1] false)),
    (1, some (.box 29 [.own 2 out_3.length, .lit (.bool (rawQ (a0.2 * a1)).s), natA (rawQ (a0.2 * a1)).l1, natA (rawQ (a0.2 * a1)).l2] false)),
    (2, some (.row 76 4 (out_3.map termC) 0))], 3⟩
theorem sc_r3_1 {n : Nat} {a0 : Form} {a1 : Rat} {i_3 : Nat} {v3 : Int} {q3 : Rat} {out_3 : List (Int × Rat)} (C1 : (i_3 : Int) < (a0.1.length : Int)) (E2 : a0.1[i_3]? = some (v3, q3)) (B3a : H q3 ≤ 17179869184) (B3b : H a1 ≤ 17179869184) (K4 : runL n 90 [.own 0 out_3.length, .agg [.lit (.int .i64 v3), .lit (.bool (rawQ (q3 * a1)).s), natA (rawQ (q3 * a1)).l1, natA (rawQ (q3 * a1)).l2]] [.row 76 4 (out_3.map termC) 0] = some (.own 0 out_3.length, [(0, .row 76 4 (out_3.map termC) 0)])) (W5 : InI ((i_3 : Int) + 1)) :
    Cont 0 (exec Tryz.prog (tab (n + 1)) 0 39 (livesOf 38) big sc_C3) (livesOf 38 3) (sc_h3 a0 a1 i_3 out_3) (sc_h3 a0 a1 (i_3 + 1) out_3) := by
  have C1_ : i_3 < a0.1.length := by omega
  obtain ⟨EL2, EG2⟩ := List.getElem?_eq_some_iff.1 E2
  have K3 := r_mul (p := q3) (q := a1) B3a B3b
  have W5_ : IntKind.i64.wrap ((i_3 : Int) + 1) = (i_3 : Int) + 1 := wr64 W5.1 W5.2
  unfold Cont
  simp +decide [sc_h3, loopsOf, Tryz.f38, sc_C3, C1, C1_, EL2, EG2, E2, K3, K4, W5_]
theorem sc_r3_2 {n : Nat} {a0 : Form} {a1 : Rat} {i_3 : Nat} {v3 : Int} {q3 : Rat} {out_3 : List (Int × Rat)} {R3 : List (Int × Rat)} (C1 : (i_3 : Int) < (a0.1.length : Int)) (E2 : a0.1[i_3]? = some (v3, q3)) (B3a : H q3 ≤ 17179869184) (B3b : H a1 ≤ 17179869184) (K4 : runL n 90 [.own 0 out_3.length, .agg [.lit (.int .i64 v3), .lit (.bool (rawQ (q3 * a1)).s), natA (rawQ (q3 * a1)).l1, natA (rawQ (q3 * a1)).l2]] [.row 76 4 (out_3.map termC) 0] = some (.own 3 R3.length, [(3, .row 76 4 (R3.map termC) 0)])) (W5 : InI ((i_3 : Int) + 1)) :
    Cont 0 (exec Tryz.prog (tab (n + 1)) 0 39 (livesOf 38) big sc_C3) (livesOf 38 3) (sc_h3 a0 a1 i_3 out_3) (sc_h3 a0 a1 (i_3 + 1) R3) := by
  have C1_ : i_3 < a0.1.length := by omega
  obtain ⟨EL2, EG2⟩ := List.getElem?_eq_some_iff.1 E2
  have K3 := r_mul (p := q3) (q := a1) B3a B3b
  have W5_ : IntKind.i64.wrap ((i_3 : Int) + 1) = (i_3 : Int) + 1 := wr64 W5.1 W5.2
  unfold Cont
  simp +decide [sc_h3, loopsOf, Tryz.f38, sc_C3, C1, C1_, EL2, EG2, E2, K3, K4, W5_]
theorem sc_x3_1 {n : Nat} {a0 : Form} {a1 : Rat} {i_3 : Nat} {out_3 : List (Int × Rat)} (C1 : ¬ (i_3 : Int) < (a0.1.length : Int)) :
    Leave 0 (exec Tryz.prog (tab (n + 1)) 0 39 (livesOf 38) big sc_C3) (livesOf 38 (outOf 3)) (sc_h3 a0 a1 i_3 out_3) (.exit 0) (sc_o3a a0 a1 out_3) := by
  have C1_ : ¬ i_3 < a0.1.length := by omega
  unfold Leave
  simp +decide [sc_h3, loopsOf, Tryz.f38, sc_o3a, sc_C3, C1, C1_]
theorem sc_f1 {n : Nat} {a0 : Form} {a1 : Rat} {out_3 : List (Int × Rat)} (B1a : H a0.2 ≤ 17179869184) (B1b : H a1 ≤ 17179869184) (L2 : loopG Tryz.prog (tab (n + 1)) 0 39 (livesOf 38) 3 sc_C3 (sc_h3 a0 a1 0 []) = some (.exit 0, sc_o3a a0 a1 out_3)) :
    run (n + 1) 38 [formV a0, ratV a1] = some (formV (out_3, a0.2 * a1)) := by
  have K1 := r_mul (p := a0.2) (q := a1) B1a B1b
  unfold run fnP
  simp +decide [Tryz.f38, K1]
  rw [loopX_G (C' := sc_C3) (e := (sc_h3 a0 a1 0 [])) ?_ ?_, L2]
  rotate_left
  · kernel_rfl
  · simp +decide [sc_h3, K1]
  simp +decide [sc_o3a, K1]
end Go.Proofs.YthkkmokbjmempaaGreatDoor
