import Derived.Test.YtlpmemelhlnfbaaGreatDoorGA16
import Derived.Test.YtlpmemelhlnfbaaGreatDoorGA19
set_option linter.all false
set_option maxRecDepth 100000
set_option maxHeartbeats 6400000
namespace Go.Proofs.YtlpmemelhlnfbaaGreatDoor
open Go.RowKit
noncomputable def pl_C4 : Code := (loopsOf (bodyOf Tryz.f138)).getD 0 .skip
def pl_h4 (a0 : Form) (a1 : Int) (a2 : Rat) (out_4 : List (Int × Rat)) (d_4 : Bool) (i_4 : Nat) : St :=
  ⟨[(1, .lit (.int .i64 a1)), (3, .ptr 0 0), (5, .ptr 1 0), (6, .ptr 2 0), (7, .own 3 out_4.length), (8, .lit (.bool d_4)), (9, .lit (.int .i64 (i_4 : Int)))],
   [(0, some (.box 29 [.sl 4 (a0.1.map termC), .lit (.bool (rawQ a0.2).s), natA (rawQ a0.2).l1, natA (rawQ a0.2).l2] false)),
    (1, some (.box 27 [.lit (.bool (rawQ a2).s), natA (rawQ a2).l1, natA (rawQ a2).l2] false)),
    (2, some (.box 29 [.nl 4, .lit (.bool false), .nl 1, .nl 1] false)),
    (3, some (.row 84 4 (out_4.map termC) 0))], 4⟩
def pl_o4a (a0 : Form) (a1 : Int) (a2 : Rat) (out_4 : List (Int × Rat)) (d_4 : Bool) : St :=
  ⟨[(1, .lit (.int .i64 a1)), (3, .ptr 0 0), (5, .ptr 1 0), (6, .ptr 2 0), (7, .own 3 out_4.length), (8, .lit (.bool d_4))],
   [(0, some (.box 29 [.sl 4 (a0.1.map termC), .lit (.bool (rawQ a0.2).s), natA (rawQ a0.2).l1, natA (rawQ a0.2).l2] false)),
    (1, some (.box 27 [.lit (.bool (rawQ a2).s), natA (rawQ a2).l1, natA (rawQ a2).l2] false)),
    (2, some (.box 29 [.nl 4, .lit (.bool false), .nl 1, .nl 1] false)),
    (3, some (.row 84 4 (out_4.map termC) 0))], 4⟩
section
variable {a1 : Int} {v3 : Int} {q3 : Rat} {a2 : Rat} {d_4 : Bool} {i_4 : Nat} {a0 : Form} {out_4 : List (Int × Rat)} {n : Nat} {R12 : List (Int × Rat)} {R14 : List (Int × Rat)} {R15 : List (Int × Rat)} {R13 : List (Int × Rat)} {R16 : List (Int × Rat)} {R17 : List (Int × Rat)} {R18 : List (Int × Rat)}
theorem pl_r4_1 (C1 : (i_4 : Int) < (a0.1.length : Int)) (E2 : a0.1[i_4]? = some (v3, q3)) (C3 : v3 = a1) (B4a : H q3 ≤ 17179869184) (B4b : H a2 ≤ 17179869184) (K5 : runL n 163 [.own 0 out_4.length, .agg [.lit (.int .i64 v3), .lit (.bool (rawQ (q3 + a2)).s), natA (rawQ (q3 + a2)).l1, natA (rawQ (q3 + a2)).l2]] [.row 84 4 (out_4.map termC) 0] = some (.own 0 out_4.length, [(0, .row 84 4 (out_4.map termC) 0)])) (W6 : InI ((i_4 : Int) + 1)) :
    Cont 0 (exec Tryz.prog (tab (n + 1)) 0 61 (livesOf 138) big pl_C4) (livesOf 138 4) (pl_h4 a0 a1 a2 out_4 d_4 i_4) (pl_h4 a0 a1 a2 out_4 true (i_4 + 1)) := by
  have C1_ : i_4 < a0.1.length := by omega
  obtain ⟨EL2, EG2⟩ := List.getElem?_eq_some_iff.1 E2
  have C3_ : (v3 == a1) = true := by rw [C3]; simp
  have C3_n : (v3 != a1) = false := by rw [C3]; simp
  have K4 := r_add (p := q3) (q := a2) B4a B4b
  have W6_ : IntKind.i64.wrap ((i_4 : Int) + 1) = (i_4 : Int) + 1 := wr64 W6.1 W6.2
  unfold Cont
  simp +decide [pl_h4, loopsOf, Tryz.f138, pl_C4, C1, C1_, EL2, EG2, E2, C3_, C3_n, K4, K5, W6_]
theorem pl_r4_2 (C1 : (i_4 : Int) < (a0.1.length : Int)) (E2 : a0.1[i_4]? = some (v3, q3)) (C3 : v3 = a1) (B4a : H q3 ≤ 17179869184) (B4b : H a2 ≤ 17179869184) (K5 : runL n 163 [.own 0 out_4.length, .agg [.lit (.int .i64 v3), .lit (.bool (rawQ (q3 + a2)).s), natA (rawQ (q3 + a2)).l1, natA (rawQ (q3 + a2)).l2]] [.row 84 4 (out_4.map termC) 0] = some (.own 3 R12.length, [(3, .row 84 4 (R12.map termC) 0)])) (W6 : InI ((i_4 : Int) + 1)) :
    Cont 0 (exec Tryz.prog (tab (n + 1)) 0 61 (livesOf 138) big pl_C4) (livesOf 138 4) (pl_h4 a0 a1 a2 out_4 d_4 i_4) (pl_h4 a0 a1 a2 R12 true (i_4 + 1)) := by
  have C1_ : i_4 < a0.1.length := by omega
  obtain ⟨EL2, EG2⟩ := List.getElem?_eq_some_iff.1 E2
  have C3_ : (v3 == a1) = true := by rw [C3]; simp
  have C3_n : (v3 != a1) = false := by rw [C3]; simp
  have K4 := r_add (p := q3) (q := a2) B4a B4b
  have W6_ : IntKind.i64.wrap ((i_4 : Int) + 1) = (i_4 : Int) + 1 := wr64 W6.1 W6.2
  unfold Cont
  simp +decide [pl_h4, loopsOf, Tryz.f138, pl_C4, C1, C1_, EL2, EG2, E2, C3_, C3_n, K4, K5, W6_]
theorem pl_r4_4 (C1 : (i_4 : Int) < (a0.1.length : Int)) (E2 : a0.1[i_4]? = some (v3, q3)) (C3 : ¬ v3 = a1) (C4 : d_4 = false) (C5 : a1 < v3) (B6a : H a2 ≤ 17179869184) (K7 : runL n 163 [.own 0 out_4.length, .agg [.lit (.int .i64 a1), .lit (.bool (rawQ a2).s), natA (rawQ a2).l1, natA (rawQ a2).l2]] [.row 84 4 (out_4.map termC) 0] = some (.own 0 out_4.length, [(0, .row 84 4 (out_4.map termC) 0)])) (K8 : runL n 163 [.own 0 out_4.length, .agg [.lit (.int .i64 v3), .lit (.bool (rawQ q3).s), natA (rawQ q3).l1, natA (rawQ q3).l2]] [.row 84 4 (out_4.map termC) 0] = some (.own 3 R14.length, [(3, .row 84 4 (R14.map termC) 0)])) (W9 : InI ((i_4 : Int) + 1)) :
    Cont 0 (exec Tryz.prog (tab (n + 1)) 0 61 (livesOf 138) big pl_C4) (livesOf 138 4) (pl_h4 a0 a1 a2 out_4 d_4 i_4) (pl_h4 a0 a1 a2 R14 true (i_4 + 1)) := by
  have C1_ : i_4 < a0.1.length := by omega
  obtain ⟨EL2, EG2⟩ := List.getElem?_eq_some_iff.1 E2
  have C3_ : (v3 == a1) = false := by simpa using C3
  have C3_n : (v3 != a1) = true := by simpa using C3
  have K6 := r_canon (p := a2) B6a
  have W9_ : IntKind.i64.wrap ((i_4 : Int) + 1) = (i_4 : Int) + 1 := wr64 W9.1 W9.2
  unfold Cont
  simp +decide [pl_h4, loopsOf, Tryz.f138, pl_C4, C1, C1_, EL2, EG2, E2, C3_, C3_n, C4, C5, K6, K7, K8, W9_]
theorem pl_r4_6 (C1 : (i_4 : Int) < (a0.1.length : Int)) (E2 : a0.1[i_4]? = some (v3, q3)) (C3 : ¬ v3 = a1) (C4 : d_4 = false) (C5 : a1 < v3) (B6a : H a2 ≤ 17179869184) (K7 : runL n 163 [.own 0 out_4.length, .agg [.lit (.int .i64 a1), .lit (.bool (rawQ a2).s), natA (rawQ a2).l1, natA (rawQ a2).l2]] [.row 84 4 (out_4.map termC) 0] = some (.own 3 R13.length, [(3, .row 84 4 (R13.map termC) 0)])) (K8 : runL n 163 [.own 0 R13.length, .agg [.lit (.int .i64 v3), .lit (.bool (rawQ q3).s), natA (rawQ q3).l1, natA (rawQ q3).l2]] [.row 84 4 (R13.map termC) 0] = some (.own 3 R15.length, [(3, .row 84 4 (R15.map termC) 0)])) (W9 : InI ((i_4 : Int) + 1)) :
    Cont 0 (exec Tryz.prog (tab (n + 1)) 0 61 (livesOf 138) big pl_C4) (livesOf 138 4) (pl_h4 a0 a1 a2 out_4 d_4 i_4) (pl_h4 a0 a1 a2 R15 true (i_4 + 1)) := by
  have C1_ : i_4 < a0.1.length := by omega
  obtain ⟨EL2, EG2⟩ := List.getElem?_eq_some_iff.1 E2
  have C3_ : (v3 == a1) = false := by simpa using C3
  have C3_n : (v3 != a1) = true := by simpa using C3
  have K6 := r_canon (p := a2) B6a
  have W9_ : IntKind.i64.wrap ((i_4 : Int) + 1) = (i_4 : Int) + 1 := wr64 W9.1 W9.2
  unfold Cont
  simp +decide [pl_h4, loopsOf, Tryz.f138, pl_C4, C1, C1_, EL2, EG2, E2, C3_, C3_n, C4, C5, K6, K7, K8, W9_]
theorem pl_r4_8 (C1 : (i_4 : Int) < (a0.1.length : Int)) (E2 : a0.1[i_4]? = some (v3, q3)) (C3 : ¬ v3 = a1) (C4 : d_4 = false) (C5 : ¬ a1 < v3) (K6 : runL n 163 [.own 0 out_4.length, .agg [.lit (.int .i64 v3), .lit (.bool (rawQ q3).s), natA (rawQ q3).l1, natA (rawQ q3).l2]] [.row 84 4 (out_4.map termC) 0] = some (.own 3 R16.length, [(3, .row 84 4 (R16.map termC) 0)])) (W7 : InI ((i_4 : Int) + 1)) :
    Cont 0 (exec Tryz.prog (tab (n + 1)) 0 61 (livesOf 138) big pl_C4) (livesOf 138 4) (pl_h4 a0 a1 a2 out_4 d_4 i_4) (pl_h4 a0 a1 a2 R16 d_4 (i_4 + 1)) := by
  have C1_ : i_4 < a0.1.length := by omega
  obtain ⟨EL2, EG2⟩ := List.getElem?_eq_some_iff.1 E2
  have C3_ : (v3 == a1) = false := by simpa using C3
  have C3_n : (v3 != a1) = true := by simpa using C3
  have W7_ : IntKind.i64.wrap ((i_4 : Int) + 1) = (i_4 : Int) + 1 := wr64 W7.1 W7.2
  unfold Cont
  simp +decide [pl_h4, loopsOf, Tryz.f138, pl_C4, C1, C1_, EL2, EG2, E2, C3_, C3_n, C4, C5, K6, W7_]
theorem pl_r4_10 (C1 : (i_4 : Int) < (a0.1.length : Int)) (E2 : a0.1[i_4]? = some (v3, q3)) (C3 : ¬ v3 = a1) (C4 : d_4 = true) (K5 : runL n 163 [.own 0 out_4.length, .agg [.lit (.int .i64 v3), .lit (.bool (rawQ q3).s), natA (rawQ q3).l1, natA (rawQ q3).l2]] [.row 84 4 (out_4.map termC) 0] = some (.own 3 R17.length, [(3, .row 84 4 (R17.map termC) 0)])) (W6 : InI ((i_4 : Int) + 1)) :
    Cont 0 (exec Tryz.prog (tab (n + 1)) 0 61 (livesOf 138) big pl_C4) (livesOf 138 4) (pl_h4 a0 a1 a2 out_4 d_4 i_4) (pl_h4 a0 a1 a2 R17 d_4 (i_4 + 1)) := by
  have C1_ : i_4 < a0.1.length := by omega
  obtain ⟨EL2, EG2⟩ := List.getElem?_eq_some_iff.1 E2
  have C3_ : (v3 == a1) = false := by simpa using C3
  have C3_n : (v3 != a1) = true := by simpa using C3
  have W6_ : IntKind.i64.wrap ((i_4 : Int) + 1) = (i_4 : Int) + 1 := wr64 W6.1 W6.2
  unfold Cont
  simp +decide [pl_h4, loopsOf, Tryz.f138, pl_C4, C1, C1_, EL2, EG2, E2, C3_, C3_n, C4, K5, W6_]
theorem pl_x4_1 (C1 : ¬ (i_4 : Int) < (a0.1.length : Int)) :
    Leave 0 (exec Tryz.prog (tab (n + 1)) 0 61 (livesOf 138) big pl_C4) (livesOf 138 (outOf 4)) (pl_h4 a0 a1 a2 out_4 d_4 i_4) (.exit 0) (pl_o4a a0 a1 a2 out_4 d_4) := by
  have C1_ : ¬ i_4 < a0.1.length := by omega
  unfold Leave
  simp +decide [pl_h4, loopsOf, Tryz.f138, pl_o4a, pl_C4, C1, C1_]
theorem pl_f1 (L1 : loopG Tryz.prog (tab (n + 1)) 0 61 (livesOf 138) 4 pl_C4 (pl_h4 a0 a1 a2 [] false 0) = some (.exit 0, pl_o4a a0 a1 a2 out_4 d_4)) (C2 : d_4 = false) (B3a : H a2 ≤ 17179869184) (K4 : runL n 163 [.own 0 out_4.length, .agg [.lit (.int .i64 a1), .lit (.bool (rawQ a2).s), natA (rawQ a2).l1, natA (rawQ a2).l2]] [.row 84 4 (out_4.map termC) 0] = some (.own 0 out_4.length, [(0, .row 84 4 (out_4.map termC) 0)])) :
    run (n + 1) 138 [formV a0, .lit (.int .i64 a1), ratV a2] = some (formV (out_4, a0.2)) := by
  have K3 := r_canon (p := a2) B3a
  unfold run fnP
  simp +decide [Tryz.f138, C2, K3, K4]
  rw [loopX_G (C' := pl_C4) (e := (pl_h4 a0 a1 a2 [] false 0)) ?_ ?_, L1]
  rotate_left
  · kernel_rfl
  · simp +decide [pl_h4, C2, K3, K4]
  simp +decide [pl_o4a, C2, K3, K4]
theorem pl_f2 (L1 : loopG Tryz.prog (tab (n + 1)) 0 61 (livesOf 138) 4 pl_C4 (pl_h4 a0 a1 a2 [] false 0) = some (.exit 0, pl_o4a a0 a1 a2 out_4 d_4)) (C2 : d_4 = false) (B3a : H a2 ≤ 17179869184) (K4 : runL n 163 [.own 0 out_4.length, .agg [.lit (.int .i64 a1), .lit (.bool (rawQ a2).s), natA (rawQ a2).l1, natA (rawQ a2).l2]] [.row 84 4 (out_4.map termC) 0] = some (.own 3 R18.length, [(3, .row 84 4 (R18.map termC) 0)])) :
    run (n + 1) 138 [formV a0, .lit (.int .i64 a1), ratV a2] = some (formV (R18, a0.2)) := by
  have K3 := r_canon (p := a2) B3a
  unfold run fnP
  simp +decide [Tryz.f138, C2, K3, K4]
  rw [loopX_G (C' := pl_C4) (e := (pl_h4 a0 a1 a2 [] false 0)) ?_ ?_, L1]
  rotate_left
  · kernel_rfl
  · simp +decide [pl_h4, C2, K3, K4]
  simp +decide [pl_o4a, C2, K3, K4]
theorem pl_f3 (L1 : loopG Tryz.prog (tab (n + 1)) 0 61 (livesOf 138) 4 pl_C4 (pl_h4 a0 a1 a2 [] false 0) = some (.exit 0, pl_o4a a0 a1 a2 out_4 d_4)) (C2 : d_4 = true) :
    run (n + 1) 138 [formV a0, .lit (.int .i64 a1), ratV a2] = some (formV (out_4, a0.2)) := by
  unfold run fnP
  simp +decide [Tryz.f138, C2]
  rw [loopX_G (C' := pl_C4) (e := (pl_h4 a0 a1 a2 [] false 0)) ?_ ?_, L1]
  rotate_left
  · kernel_rfl
  · simp +decide [pl_h4, C2]
  simp +decide [pl_o4a, C2]
end
end Go.Proofs.YtlpmemelhlnfbaaGreatDoor
set_option linter.all false
set_option maxRecDepth 100000
set_option maxHeartbeats 6400000
namespace Go.Proofs.YtlpmemelhlnfbaaGreatDoor
open Go.RowKit
noncomputable def ad_C3 : Code := (loopsOf (bodyOf Tryz.f115)).getD 0 .skip
def ad_h3 (a1 : Form) (i_3 : Nat) (l_3 : List (Int × Rat)) (s_3 : Rat) : St :=
  ⟨[(3, .ptr 0 0), (4, .ptr 1 0), (5, .ptr 2 0), (6, .lit (.int .i64 (i_3 : Int)))],
   [(0, some (.box 29 [.sl 4 (a1.1.map termC), .lit (.bool (rawQ a1.2).s), natA (rawQ a1.2).l1, natA (rawQ a1.2).l2] false)),
    (1, some (.box 29 [.nl 4, .lit (.bool false), .nl 1, .nl 1] false)),
    (2, some (.box 29 [.sl 4 (l_3.map termC), .lit (.bool (rawQ s_3).s), natA (rawQ s_3).l1, natA (rawQ s_3).l2] false))], 3⟩
def ad_o3a (l_3 : List (Int × Rat)) (s_3 : Rat) : St :=
  ⟨[(4, .ptr 0 0), (5, .ptr 1 0)],
   [(0, some (.box 29 [.nl 4, .lit (.bool false), .nl 1, .nl 1] false)),
    (1, some (.box 29 [.sl 4 (l_3.map termC), .lit (.bool (rawQ s_3).s), natA (rawQ s_3).l1, natA (rawQ s_3).l2] false))], 2⟩
section
variable {a1 : Form} {l_3 : List (Int × Rat)} {r3 : Form} {v3 : Int} {q3 : Rat} {s_3 : Rat} {i_3 : Nat} {n : Nat} {a0 : Form}
theorem ad_r3_1 (C1 : (i_3 : Int) < (a1.1.length : Int)) (E2 : a1.1[i_3]? = some (v3, q3)) (K3 : run (n + 1) 138 [formV (l_3, s_3), .lit (.int .i64 v3), ratV q3] = some (formV r3)) (W4 : InI ((i_3 : Int) + 1)) :
    Cont 0 (exec Tryz.prog (tab (n + 2)) 0 43 (livesOf 115) big ad_C3) (livesOf 115 3) (ad_h3 a1 i_3 l_3 s_3) (ad_h3 a1 (i_3 + 1) r3.1 r3.2) := by
  have C1_ : i_3 < a1.1.length := by omega
  obtain ⟨EL2, EG2⟩ := List.getElem?_eq_some_iff.1 E2
  simp only [ratV, formV] at K3
  have W4_ : IntKind.i64.wrap ((i_3 : Int) + 1) = (i_3 : Int) + 1 := wr64 W4.1 W4.2
  unfold Cont
  simp +decide [ad_h3, loopsOf, Tryz.f115, ad_C3, C1, C1_, EL2, EG2, E2, K3, W4_]
theorem ad_x3_1 (C1 : ¬ (i_3 : Int) < (a1.1.length : Int)) :
    Leave 0 (exec Tryz.prog (tab (n + 2)) 0 43 (livesOf 115) big ad_C3) (livesOf 115 (outOf 3)) (ad_h3 a1 i_3 l_3 s_3) (.exit 0) (ad_o3a l_3 s_3) := by
  have C1_ : ¬ i_3 < a1.1.length := by omega
  unfold Leave
  simp +decide [ad_h3, loopsOf, Tryz.f115, ad_o3a, ad_C3, C1, C1_]
theorem ad_f1 (B1a : H a0.2 ≤ 17179869184) (B1b : H a1.2 ≤ 17179869184) (L2 : loopG Tryz.prog (tab (n + 2)) 0 43 (livesOf 115) 3 ad_C3 (ad_h3 a1 0 a0.1 (a0.2 + a1.2)) = some (.exit 0, ad_o3a l_3 s_3)) (M3 : l_3.length ≤ 100000000) :
    run (n + 2) 115 [formV a0, formV a1] = some (formV (l_3, s_3)) := by
  have K1 := r_add (p := a0.2) (q := a1.2) B1a B1b
  have M3_ : ∀ b, b ≤ 10000 → roomy (l_3.length) b = true := fun b hb => roomy_s M3 hb
  unfold run fnP
  simp +decide [Tryz.f115, K1, M3_]
  rw [loopX_G (C' := ad_C3) (e := (ad_h3 a1 0 a0.1 (a0.2 + a1.2))) ?_ ?_, L2]
  rotate_left
  · kernel_rfl
  · simp +decide [ad_h3, K1, M3_]
  simp +decide [ad_o3a, K1, M3_]
end
noncomputable def sc_C3 : Code := (loopsOf (bodyOf Tryz.f87)).getD 0 .skip
def sc_h3 (a0 : Form) (a1 : Rat) (i_3 : Nat) (out_3 : List (Int × Rat)) : St :=
  ⟨[(2, .ptr 0 0), (3, .ptr 1 0), (4, .ptr 2 0), (5, .ptr 3 0), (6, .lit (.int .i64 (i_3 : Int)))],
   [(0, some (.box 29 [.sl 4 (a0.1.map termC), .lit (.bool (rawQ a0.2).s), natA (rawQ a0.2).l1, natA (rawQ a0.2).l2] false)),
    (1, some (.box 27 [.lit (.bool (rawQ a1).s), natA (rawQ a1).l1, natA (rawQ a1).l2] false)),
    (2, some (.box 29 [.nl 4, .lit (.bool false), .nl 1, .nl 1] false)),
    (3, some (.box 29 [.own 4 out_3.length, .lit (.bool (rawQ (a0.2 * a1)).s), natA (rawQ (a0.2 * a1)).l1, natA (rawQ (a0.2 * a1)).l2] false)),
    (4, some (.row 84 4 (out_3.map termC) 0))], 5⟩
def sc_o3a (a0 : Form) (a1 : Rat) (out_3 : List (Int × Rat)) : St :=
  ⟨[(4, .ptr 0 0), (5, .ptr 1 0)],
   [(0, some (.box 29 [.nl 4, .lit (.bool false), .nl 1, .nl 1] false)),
    (1, some (.box 29 [.own 2 out_3.length, .lit (.bool (rawQ (a0.2 * a1)).s), natA (rawQ (a0.2 * a1)).l1, natA (rawQ (a0.2 * a1)).l2] false)),
    (2, some (.row 84 4 (out_3.map termC) 0))], 3⟩
section
variable {a1 : Rat} {v3 : Int} {q3 : Rat} {out_3 : List (Int × Rat)} {a0 : Form} {i_3 : Nat} {n : Nat} {R3 : List (Int × Rat)}
theorem sc_r3_1 (C1 : (i_3 : Int) < (a0.1.length : Int)) (E2 : a0.1[i_3]? = some (v3, q3)) (B3a : H q3 ≤ 17179869184) (B3b : H a1 ≤ 17179869184) (K4 : runL n 163 [.own 0 out_3.length, .agg [.lit (.int .i64 v3), .lit (.bool (rawQ (q3 * a1)).s), natA (rawQ (q3 * a1)).l1, natA (rawQ (q3 * a1)).l2]] [.row 84 4 (out_3.map termC) 0] = some (.own 0 out_3.length, [(0, .row 84 4 (out_3.map termC) 0)])) (W5 : InI ((i_3 : Int) + 1)) :
    Cont 0 (exec Tryz.prog (tab (n + 1)) 0 39 (livesOf 87) big sc_C3) (livesOf 87 3) (sc_h3 a0 a1 i_3 out_3) (sc_h3 a0 a1 (i_3 + 1) out_3) := by
  have C1_ : i_3 < a0.1.length := by omega
  obtain ⟨EL2, EG2⟩ := List.getElem?_eq_some_iff.1 E2
  have K3 := r_mul (p := q3) (q := a1) B3a B3b
  have W5_ : IntKind.i64.wrap ((i_3 : Int) + 1) = (i_3 : Int) + 1 := wr64 W5.1 W5.2
  unfold Cont
  simp +decide [sc_h3, loopsOf, Tryz.f87, sc_C3, C1, C1_, EL2, EG2, E2, K3, K4, W5_]
theorem sc_r3_2 (C1 : (i_3 : Int) < (a0.1.length : Int)) (E2 : a0.1[i_3]? = some (v3, q3)) (B3a : H q3 ≤ 17179869184) (B3b : H a1 ≤ 17179869184) (K4 : runL n 163 [.own 0 out_3.length, .agg [.lit (.int .i64 v3), .lit (.bool (rawQ (q3 * a1)).s), natA (rawQ (q3 * a1)).l1, natA (rawQ (q3 * a1)).l2]] [.row 84 4 (out_3.map termC) 0] = some (.own 3 R3.length, [(3, .row 84 4 (R3.map termC) 0)])) (W5 : InI ((i_3 : Int) + 1)) :
    Cont 0 (exec Tryz.prog (tab (n + 1)) 0 39 (livesOf 87) big sc_C3) (livesOf 87 3) (sc_h3 a0 a1 i_3 out_3) (sc_h3 a0 a1 (i_3 + 1) R3) := by
  have C1_ : i_3 < a0.1.length := by omega
  obtain ⟨EL2, EG2⟩ := List.getElem?_eq_some_iff.1 E2
  have K3 := r_mul (p := q3) (q := a1) B3a B3b
  have W5_ : IntKind.i64.wrap ((i_3 : Int) + 1) = (i_3 : Int) + 1 := wr64 W5.1 W5.2
  unfold Cont
  simp +decide [sc_h3, loopsOf, Tryz.f87, sc_C3, C1, C1_, EL2, EG2, E2, K3, K4, W5_]
theorem sc_x3_1 (C1 : ¬ (i_3 : Int) < (a0.1.length : Int)) :
    Leave 0 (exec Tryz.prog (tab (n + 1)) 0 39 (livesOf 87) big sc_C3) (livesOf 87 (outOf 3)) (sc_h3 a0 a1 i_3 out_3) (.exit 0) (sc_o3a a0 a1 out_3) := by
  have C1_ : ¬ i_3 < a0.1.length := by omega
  unfold Leave
  simp +decide [sc_h3, loopsOf, Tryz.f87, sc_o3a, sc_C3, C1, C1_]
theorem sc_f1 (B1a : H a0.2 ≤ 17179869184) (B1b : H a1 ≤ 17179869184) (L2 : loopG Tryz.prog (tab (n + 1)) 0 39 (livesOf 87) 3 sc_C3 (sc_h3 a0 a1 0 []) = some (.exit 0, sc_o3a a0 a1 out_3)) :
    run (n + 1) 87 [formV a0, ratV a1] = some (formV (out_3, a0.2 * a1)) := by
  have K1 := r_mul (p := a0.2) (q := a1) B1a B1b
  unfold run fnP
  simp +decide [Tryz.f87, K1]
  rw [loopX_G (C' := sc_C3) (e := (sc_h3 a0 a1 0 [])) ?_ ?_, L2]
  rotate_left
  · kernel_rfl
  · simp +decide [sc_h3, K1]
  simp +decide [sc_o3a, K1]
end
end Go.Proofs.YtlpmemelhlnfbaaGreatDoor
set_option linter.all false
set_option maxRecDepth 100000
set_option maxHeartbeats 6400000
namespace Go.Proofs.YtlpmemelhlnfbaaGreatDoor
open Go.RowKit
theorem nz_same {n : Nat} {F : List (Int × Rat)} {v : Int} {q : Rat} (hq : H q ≤ 17179869184) (h0 : q = 0) :
    runL n 163 [.own 0 F.length, .agg [.lit (.int .i64 v), .lit (.bool (rawQ q).s), natA (rawQ q).l1, natA (rawQ q).l2]] [.row 84 4 (F.map termC) 0] = some (.own 0 F.length, [(0, .row 84 4 (F.map termC) 0)]) := by
  unfold runL fnL
  have hs := r_sign (p := q) hq
  have e2 : (sgR q == 0) = true := by rw [sgR_eq_zero.2 h0]; rfl
  simp +decide [Tryz.f163, hs, e2]
theorem nz_new {n : Nat} {F : List (Int × Rat)} {v : Int} {q : Rat} (hq : H q ≤ 17179869184) (h0 : q ≠ 0) (hF : F.length ≤ 10000000) :
    runL n 163 [.own 0 F.length, .agg [.lit (.int .i64 v), .lit (.bool (rawQ q).s), natA (rawQ q).l1, natA (rawQ q).l2]] [.row 84 4 (F.map termC) 0] = some (.own 3 (F ++ [(v, q)]).length, [(3, .row 84 4 ((F ++ [(v, q)]).map termC) 0)]) := by
  unfold runL fnL
  have hs := r_sign (p := q) hq
  have e2 : (sgR q == 0) = false := by simpa using fun h => h0 (sgR_eq_zero.1 h)
  have hr : ∀ b, b ≤ 10000 → roomy (F.length + 1) b = true := fun b hb => roomy_s (by omega) hb
  simp +decide [Tryz.f163, hs, e2, hr]
def plF (v : Int) (c : Rat) (i : Nat) (b : List (Int × Rat) × Bool) (t : Int × Rat) : List (Int × Rat) × Bool :=
  if t.1 = v then (b.1 ++ put1 t.1 (t.2 + c), true) else if b.2 = false ∧ v < t.1 then (b.1 ++ (put1 v c ++ put1 t.1 t.2), true) else (b.1 ++ put1 t.1 t.2, b.2)
theorem plF_fold (v : Int) (c : Rat) : ∀ (R : List (Int × Rat)) (i : Nat) (out : List (Int × Rat)) (d : Bool), foldI (plF v c) i (out, d) R = (out ++ plO d R v c, plD d R v)
  | [], i, out, d => by simp [foldI, plO, plD]
  | t :: R, i, out, d => by
    rw [foldI, plO, plD, plF]
    split
    · rw [plF_fold]; simp [List.append_assoc]
    · split
      · rw [plF_fold]; simp [List.append_assoc]
      · rw [plF_fold]; simp [List.append_assoc]
theorem pl_step {n : Nat} {f : Form} {v : Int} {c : Rat} (hT : TmB 1000000 f.1) (hF : f.1.length ≤ 400000) (hc : H c ≤ 1000000) {i : Nat} {t : Int × Rat} {b : List (Int × Rat) × Bool} (hi : f.1[i]? = some t) (hb : b.1.length ≤ 2 * i) :
    Cont 0 (exec Tryz.prog (tab (n + 1)) 0 61 (livesOf 138) big pl_C4) (livesOf 138 4) (pl_h4 f v c b.1 b.2 i) (pl_h4 f v c (plF v c i b t).1 (plF v c i b t).2 (i + 1)) := by
  obtain ⟨u, q⟩ := t
  obtain ⟨out, d⟩ := b
  have hlt := (List.getElem?_eq_some_iff.1 hi).1
  have ht := hT _ (List.mem_of_getElem? hi)
  have hq : H q ≤ 1000000 := ht.2
  have hq0 : q ≠ 0 := ht.1
  have hH := H_add q c
  have C1 : (i : Int) < (f.1.length : Int) := by omega
  have W : InI ((i : Int) + 1) := ⟨by omega, by omega⟩
  have hb : out.length ≤ 2 * i := hb
  have e3 : put1 u q = [(u, q)] := if_neg hq0
  unfold plF
  dsimp only
  split
  · rename_i e
    by_cases h0 : q + c = 0
    · have e4 : put1 u (q + c) = [] := if_pos h0
      rw [e4, List.append_nil]
      exact pl_r4_1 C1 hi e (by omega) (by omega) (nz_same (by omega) h0) W
    · have e4 : put1 u (q + c) = [(u, q + c)] := if_neg h0
      rw [e4]
      exact pl_r4_2 C1 hi e (by omega) (by omega) (nz_new (by omega) h0 (by omega)) W
  · rename_i e
    split
    · rename_i e2
      obtain ⟨e2, e5⟩ := e2
      rw [e3]
      by_cases h0 : c = 0
      · have e4 : put1 v c = [] := if_pos h0
        rw [e4, List.nil_append]
        exact pl_r4_4 C1 hi e e2 e5 (by omega) (nz_same (by omega) h0) (nz_new (by omega) hq0 (by omega)) W
      · have e4 : put1 v c = [(v, c)] := if_neg h0
        rw [e4, ← List.append_assoc]
        exact pl_r4_6 C1 hi e e2 e5 (by omega) (nz_new (by omega) h0 (by omega)) (nz_new (by omega) hq0 (by rw [List.length_append]; simp; omega)) W
    · rename_i e2
      rw [e3]
      cases d with
      | true => exact pl_r4_10 C1 hi e rfl (nz_new (by omega) hq0 (by omega)) W
      | false => exact pl_r4_8 C1 hi e rfl (fun h => e2 ⟨rfl, h⟩) (nz_new (by omega) hq0 (by omega)) W
theorem plF_len (v : Int) (c : Rat) (i : Nat) (b : List (Int × Rat) × Bool) (t : Int × Rat) : (plF v c i b t).1.length ≤ b.1.length + 2 := by
  have h1 := put1_len t.1 (t.2 + c)
  have h2 := put1_len v c
  have h3 := put1_len t.1 t.2
  unfold plF
  split
  · rw [List.length_append]; omega
  · split
    · rw [List.length_append, List.length_append]; omega
    · rw [List.length_append]; omega
theorem plus_c {n : Nat} {f : Form} {v : Int} {c : Rat} (hT : TmB 1000000 f.1) (hF : f.1.length ≤ 400000) (hc : H c ≤ 1000000) :
    run (n + 1) 138 [formV f, .lit (.int .i64 v), ratV c] = some (formV (plusV false f.1 v c, f.2)) := by
  have L : loopG Tryz.prog (tab (n + 1)) 0 61 (livesOf 138) 4 pl_C4 (pl_h4 f v c [] false 0) = some (.exit 0, pl_o4a f v c (plO false f.1 v c) (plD false f.1 v)) := by
    have h := (loopG_I (O := tab (n + 1)) (exN := .exit 0) (L := f.1) (enc := fun i b => pl_h4 f v c b.1 b.2 i) (f := plF v c) (Inv := fun i b => b.1.length ≤ 2 * i) (out := fun b => pl_o4a f v c b.1 b.2) ([], false) (by simp) (by omega) (by simp)
      (fun i t b hi hI => ⟨pl_step hT hF hc hi hI, by have := plF_len v c i b t; omega⟩) (fun b hI => pl_x4_1 (by omega))).1
    rw [plF_fold] at h
    exact h
  have hl := plO_len v c false f.1
  rw [plusV_plO]
  cases hd : plD false f.1 v with
  | true =>
    rw [hd] at L
    rw [if_pos rfl, List.append_nil]
    exact pl_f3 L rfl
  | false =>
    rw [hd] at L
    rw [if_neg (by simp)]
    by_cases h0 : c = 0
    · have e : put1 v c = [] := if_pos h0
      rw [e, List.append_nil]
      exact pl_f1 L rfl (by omega) (nz_same (by omega) h0)
    · have e : put1 v c = [(v, c)] := if_neg h0
      rw [e]
      exact pl_f2 L rfl (by omega) (nz_new (by omega) h0 (by omega))
theorem scale_c {n : Nat} {f : Form} {c : Rat} (hT : TmB 1000000 f.1) (hF : f.1.length ≤ 400000) (hk : H f.2 ≤ 1000000) (hc : H c ≤ 1000000) :
    run (n + 1) 87 [formV f, ratV c] = some (formV (sclV f.1 c, f.2 * c)) := by
  have key : ∀ (R : List (Int × Rat)) (i : Nat) (o : List (Int × Rat)), foldI (fun _ b (t : Int × Rat) => b ++ put1 t.1 (t.2 * c)) i o R = o ++ sclV R c := fun R => by
    induction R with
    | nil => intro i o; simp [foldI, sclV]
    | cons t R ih => intro i o; rw [foldI, ih]; simp [sclV, List.append_assoc]
  refine sc_f1 (by omega) (by omega) ?_
  have h := (loopG_I (O := tab (n + 1)) (exN := .exit 0) (L := f.1) (enc := fun i b => sc_h3 f c i b) (f := fun _ b (t : Int × Rat) => b ++ put1 t.1 (t.2 * c)) (Inv := fun i b => b.length ≤ i) (out := fun b => sc_o3a f c b) [] (by simp) (by omega) (by simp)
    (fun i t b hi hI => by
      obtain ⟨u, q⟩ := t
      have hlt := (List.getElem?_eq_some_iff.1 hi).1
      have hq : H q ≤ 1000000 := (hT _ (List.mem_of_getElem? hi)).2
      have hm := H_mul q c
      have C1 : (i : Int) < (f.1.length : Int) := by omega
      have W : InI ((i : Int) + 1) := ⟨by omega, by omega⟩
      have hl := put1_len u (q * c)
      refine ⟨?_, by rw [List.length_append]; dsimp only; omega⟩
      dsimp only
      by_cases h0 : q * c = 0
      · have e : put1 u (q * c) = [] := if_pos h0
        rw [e, List.append_nil]
        exact sc_r3_1 C1 hi (by omega) (by omega) (nz_same (by omega) h0) W
      · have e : put1 u (q * c) = [(u, q * c)] := if_neg h0
        rw [e]
        exact sc_r3_2 C1 hi (by omega) (by omega) (nz_new (by omega) h0 (by omega)) W) (fun b hI => sc_x3_1 (by omega))).1
  rw [key, List.nil_append] at h
  exact h
theorem add_c {n : Nat} {f g : Form} {m b : Nat} (hT : TmB b g.1) (hG : g.1.length ≤ 200000) (hF : TmB m f.1) (hl : f.1.length ≤ 200000) (hm : m + (b + 1) * (g.1.length + 1) ≤ 1000000) (h1 : H f.2 ≤ 1000000) (h2 : H g.2 ≤ 1000000) :
    run (n + 2) 115 [formV f, formV g] = some (formV (addV f.1 g.1, f.2 + g.2)) := by
  have key : ∀ (R : List (Int × Rat)) (i : Nat) (o : List (Int × Rat)), foldI (fun _ b (t : Int × Rat) => plusV false b t.1 t.2) i o R = addV o R := fun R => by
    induction R with
    | nil => intro i o; rfl
    | cons t R ih => intro i o; rw [foldI, ih]; rfl
  have hlen : ∀ (R o : List (Int × Rat)), (addV o R).length ≤ o.length + R.length := fun R => by
    induction R with
    | nil => intro o; simp [addV]
    | cons t R ih =>
      intro o
      have h1 := ih (plusV false o t.1 t.2)
      have h2 := plusV_len false o t.1 t.2
      show (addV (plusV false o t.1 t.2) R).length ≤ _
      rw [List.length_cons]; omega
  refine ad_f1 (by omega) (by omega) ?_ (by have := hlen g.1 f.1; omega)
  have h := (loopG_I (O := tab (n + 2)) (exN := .exit 0) (L := g.1) (enc := fun i o => ad_h3 g i o (f.2 + g.2)) (f := fun _ o (t : Int × Rat) => plusV false o t.1 t.2) (Inv := fun i o => o.length ≤ f.1.length + i ∧ TmB (m + (b + 1) * i) o ∧ i ≤ g.1.length) (out := fun o => ad_o3a o (f.2 + g.2)) f.1 ⟨by omega, by simpa using hF, by omega⟩ (by omega) (by simp)
    (fun i t o hi hI => by
      obtain ⟨u, q⟩ := t
      obtain ⟨hI1, hI2, hI3⟩ := hI
      have hlt := (List.getElem?_eq_some_iff.1 hi).1
      have hq : H q ≤ b := (hT _ (List.mem_of_getElem? hi)).2
      have C1 : (i : Int) < (g.1.length : Int) := by omega
      have W : InI ((i : Int) + 1) := ⟨by omega, by omega⟩
      have hl2 := plusV_len false o u q
      have hmi : (b + 1) * i ≤ (b + 1) * (g.1.length + 1) := Nat.mul_le_mul_left _ (by omega)
      have hb1 : b + 1 ≤ (b + 1) * (g.1.length + 1) := Nat.le_mul_of_pos_right _ (by omega)
      have e : m + (b + 1) * (i + 1) = m + (b + 1) * i + b + 1 := by rw [Nat.mul_succ]; omega
      refine ⟨ad_r3_1 (r3 := (plusV false o u q, f.2 + g.2)) C1 hi (plus_c (f := (o, f.2 + g.2)) (hI2.mono (by omega)) (by dsimp only; omega) (by omega)) W, by dsimp only; omega, ?_, hlt⟩
      rw [e]
      exact hI2.plus hq) (fun b hI => ad_x3_1 (by omega))).1
  rw [key] at h
  exact h
theorem var_c {n : Nat} (v : Int) : run n 88 [.lit (.int .i64 v)] = some (formV ([(v, 1)], 0)) := by
  have h := vr_f1 (n := n) (a0 := v)
  have e : ofQ 1 = 1 := by decide +kernel
  rw [e] at h
  rw [h]
  simp
end Go.Proofs.YtlpmemelhlnfbaaGreatDoor
set_option linter.all false
set_option maxRecDepth 100000
set_option maxHeartbeats 6400000
namespace Go.Proofs.YtlpmemelhlnfbaaGreatDoor
open Go.RowKit
attribute [local irreducible] run runL loopG exec
theorem lcm_c {n : Nat} {s t : Int × Rat} : ∃ r : Int, run n 134 [.agg [.lit (.int .i64 s.1), .lit (.bool (rawQ s.2).s), natA (rawQ s.2).l1, natA (rawQ s.2).l2], .agg [.lit (.int .i64 t.1), .lit (.bool (rawQ t.2).s), natA (rawQ t.2).l1, natA (rawQ t.2).l2]] = some (.lit (.int .i64 r)) ∧ (r < 0 ↔ s.1 < t.1) := by
  by_cases h1 : s.1 < t.1
  · exact ⟨_, lcm_f1 h1, fun _ => h1, fun _ => by omega⟩
  by_cases h2 : t.1 < s.1
  · exact ⟨_, lcm_f2 h1 h2, fun h => by omega, fun h => absurd h h1⟩
  · exact ⟨_, lcm_f3 h1 h2, fun h => by omega, fun h => absurd h h1⟩
structure InsI (L out : List (Int × Rat)) (i j : Nat) : Prop where
  pm : out.Perm L
  le : j ≤ i
  lt : i < out.length
  so : ∀ p q s t, p < q → q ≤ i → p ≠ j → q ≠ j → out[p]? = some s → out[q]? = some t → s.1 ≤ t.1
  bg : ∀ q s t, j < q → q ≤ i → out[j]? = some s → out[q]? = some t → s.1 ≤ t.1
def SoT (out : List (Int × Rat)) (i : Nat) : Prop := ∀ p q s t, p < q → q < i → out[p]? = some s → out[q]? = some t → s.1 ≤ t.1
theorem swap_get {l : List (Int × Rat)} {j k : Nat} {a b : Int × Rat} (hj : j < l.length) (hjk : j + 1 = k) (hk : k < l.length) (p : Nat) : ((l.set k a).set j b)[p]? = if p = j then some b else if p = k then some a else l[p]? := by
  rw [List.getElem?_set]
  by_cases h : j = p
  · subst h; rw [if_pos rfl, if_pos rfl, if_pos (by rw [List.length_set]; exact hj)]
  · rw [if_neg h, if_neg (fun e => h e.symm), List.getElem?_set]
    by_cases h2 : k = p
    · subst h2; rw [if_pos rfl, if_pos rfl, if_pos hk]
    · rw [if_neg h2, if_neg (fun e => h2 e.symm)]
theorem swap_perm {l : List (Int × Rat)} {j k : Nat} {a b : Int × Rat} (hjk : j + 1 = k) (hb : l[k]? = some b) (ha : l[j]? = some a) : ((l.set k a).set j b).Perm l := by
  subst hjk
  have hk := (List.getElem?_eq_some_iff.1 hb).1
  have e : l = l.take j ++ a :: b :: l.drop (j + 2) := by
    have h1 : l.drop j = a :: l.drop (j + 1) := by
      rw [List.drop_eq_getElem_cons (by omega)]
      congr 1
      exact (List.getElem?_eq_some_iff.1 ha).2
    have h2 : l.drop (j + 1) = b :: l.drop (j + 2) := by
      rw [List.drop_eq_getElem_cons (by omega)]
      congr 1
      exact (List.getElem?_eq_some_iff.1 hb).2
    conv => lhs; rw [← List.take_append_drop j l, h1, h2]
  have e2 : (l.set (j + 1) a).set j b = l.take j ++ b :: a :: l.drop (j + 2) := by
    apply List.ext_getElem?
    intro p
    rw [swap_get (by omega) rfl hk]
    have ht : (l.take j).length = j := by rw [List.length_take]; omega
    by_cases h1 : p < j
    · rw [if_neg (by omega), if_neg (by omega), List.getElem?_append_left (by omega), List.getElem?_take, if_pos h1]
    · rw [List.getElem?_append_right (by omega), ht]
      by_cases h2 : p = j
      · subst h2; rw [if_pos rfl, Nat.sub_self]; rfl
      · rw [if_neg h2]
        by_cases h3 : p = j + 1
        · subst h3; rw [if_pos rfl, show j + 1 - j = 1 from by omega]; rfl
        · rw [if_neg h3]
          obtain ⟨m, hm⟩ : ∃ m, p = j + 2 + m := ⟨p - (j + 2), by omega⟩
          subst hm
          rw [show j + 2 + m - j = m + 2 from by omega, List.getElem?_cons_succ, List.getElem?_cons_succ, List.getElem?_drop]
  rw [e2]
  conv => rhs; rw [e]
  exact List.Perm.append_left _ (List.Perm.swap _ _ _)
theorem ins_step {L out : List (Int × Rat)} {i j : Nat} {s t : Int × Rat} (h : InsI L out i (j + 1)) (hs : out[j + 1]? = some s) (ht : out[j]? = some t) (hlt : s.1 < t.1) : InsI L ((out.set (j + 1) t).set j s) i j := by
  have hl := h.lt
  have hle := h.le
  have get := fun p => swap_get (l := out) (j := j) (k := j + 1) (a := t) (b := s) (by omega) rfl (by omega) p
  refine ⟨(swap_perm rfl hs ht).trans h.pm, by omega, by rw [List.length_set, List.length_set]; exact hl, fun p q u v hpq hqi hp hq hu hv => ?_, fun q u v hq hqi hu hv => ?_⟩
  · rw [get, if_neg hp] at hu
    rw [get, if_neg hq] at hv
    by_cases h1 : p = j + 1
    · rw [if_pos h1] at hu
      rw [if_neg (by omega)] at hv
      cases hu
      exact h.so j q t v (by omega) hqi (by omega) (by omega) ht hv
    · rw [if_neg h1] at hu
      by_cases h2 : q = j + 1
      · rw [if_pos h2] at hv
        cases hv
        exact h.so p j u t (by omega) (by omega) h1 (by omega) hu ht
      · rw [if_neg h2] at hv
        exact h.so p q u v hpq hqi h1 h2 hu hv
  · rw [get, if_pos rfl] at hu
    cases hu
    rw [get, if_neg (by omega)] at hv
    by_cases h2 : q = j + 1
    · rw [if_pos h2] at hv
      cases hv
      omega
    · rw [if_neg h2] at hv
      exact h.bg q s v (by omega) hqi hs hv
theorem ins_done {L out : List (Int × Rat)} {i j : Nat} (h : InsI L out i j) (hd : j = 0 ∨ ∃ s t, out[j]? = some s ∧ out[j - 1]? = some t ∧ ¬ s.1 < t.1) : SoT out (i + 1) := fun p q s t hpq hqi hs ht => by
  by_cases h1 : p = j
  · subst h1; exact h.bg q s t hpq (by omega) hs ht
  by_cases h2 : q = j
  · subst h2
    rcases hd with h0 | ⟨s', t', h3, h4, h5⟩
    · omega
    · rw [ht] at h3; cases h3
      by_cases h6 : p = q - 1
      · subst h6; rw [hs] at h4; cases h4; omega
      · have := h.so p (q - 1) s t' (by omega) (by omega) h1 (by omega) hs h4
        omega
  · exact h.so p q s t hpq (by omega) h1 h2 hs ht
theorem isc_in {n : Nat} {L out : List (Int × Rat)} {i : Nat} {m : Int} (hl : L.length ≤ 1000000) (hp : out.Perm L) (hi : i < out.length) (hs : SoT out i) :
    ∃ out', loopG Tryz.prog (tab (n + 1)) 1 53 (livesOf 222) 4 isc_C4 (isc_h4 0 m out (i : Int) (i : Int)) = some (.exit 2, isc_o4a 0 m out' (i : Int)) ∧ out'.Perm L ∧ SoT out' (i + 1) := by
  have hlen : out.length = L.length := hp.length_eq
  obtain ⟨ex, t, h1, h2⟩ := loopG_Q (β := List (Int × Rat)) (P := Tryz.prog) (O := tab (n + 1)) (m := 1) (N := 53) (lives := livesOf 222) (r := 4) (C := isc_C4) (M := i) (enc := fun k o => isc_h4 0 m o (i : Int) ((i : Int) - (k : Int)))
    (fun k o => InsI L o i (i - k)) (fun ex t => ex = .exit 2 ∧ ∃ o, t = isc_o4a 0 m o (i : Int) ∧ o.Perm L ∧ SoT o (i + 1)) out
    ⟨hp, by omega, hi, fun p q s t hpq hqi hp' hq' hs' ht' => hs p q s t hpq (by omega) hs' ht', fun q s t hq hqi => by omega⟩ (by omega)
    (fun k o hk hI => by
      have hlo : o.length = L.length := hI.pm.length_eq
      have hlt := hI.lt
      obtain ⟨j, hj⟩ : ∃ j, i - k = j + 1 := ⟨i - k - 1, by omega⟩
      rw [hj] at hI
      have e1 : ((i : Int) - (k : Int)).toNat = j + 1 := by omega
      have hs' : o[j + 1]? = some (o[j + 1]'(by omega)) := List.getElem?_eq_getElem _
      have ht' : o[j]? = some (o[j]'(by omega)) := List.getElem?_eq_getElem _
      generalize o[j + 1]'(by omega) = s at hs'
      generalize o[j]'(by omega) = t at ht'
      obtain ⟨r, K, hr⟩ := lcm_c (n := n) (s := s) (t := t)
      have g1 : o[((i : Int) - (k : Int)).toNat]? = some (s.1, s.2) := by rw [e1]; exact hs'
      have g2 : o[((i : Int) - (k : Int)).toNat - 1]? = some (t.1, t.2) := by rw [e1]; exact ht'
      by_cases c : r < 0
      · refine .inl ⟨(o.set (j + 1) t).set j s, ?_, ?_⟩
        · have R := isc_r4_1 (n := n) (a1 := 0) (a2 := m) (i_1 := (i : Int)) (i_4 := (i : Int) - (k : Int)) (out_4 := o) (by omega) (by omega) (by omega) g1 (by omega) ⟨by omega, by omega⟩ (by omega) (by omega) g2 (by omega) K c
          rw [e1] at R
          have e2 : (i : Int) - (k : Int) - 1 = (i : Int) - ((k + 1 : Nat) : Int) := by omega
          rw [e2] at R
          exact R
        · rw [show i - (k + 1) = j from by omega]
          exact ins_step hI hs' ht' (hr.1 c)
      · refine .inr ⟨_, _, by simp, isc_x4_1 (n := n) (a1 := 0) (a2 := m) (i_1 := (i : Int)) (i_4 := (i : Int) - (k : Int)) (out_4 := o) (by omega) (by omega) (by omega) g1 (by omega) ⟨by omega, by omega⟩ (by omega) (by omega) g2 (by omega) K c, rfl, o, rfl, hI.pm, ins_done hI (.inr ⟨s, t, hs', ht', fun h => c (hr.2 h)⟩)⟩)
    (fun o hI => by
      rw [Nat.sub_self] at hI
      exact ⟨_, _, by simp, isc_x4_2 (n := n) (a1 := 0) (a2 := m) (i_1 := (i : Int)) (i_4 := (i : Int) - (i : Int)) (out_4 := o) (by omega), rfl, o, rfl, hI.pm, ins_done hI (.inl rfl)⟩)
  obtain ⟨rfl, o, rfl, h3, h4⟩ := h2
  have e : (i : Int) - ((0 : Nat) : Int) = (i : Int) := by omega
  rw [e] at h1
  exact ⟨o, h1, h3, h4⟩
theorem isc_c {n : Nat} {L : List (Int × Rat)} (hl : L.length ≤ 1000000) : ∃ R, runL (n + 1) 222 [.own 0 L.length, .lit (.int .i64 0), .lit (.int .i64 (L.length : Int)), .clo 134 []] [.row 84 4 (L.map termC) 0] = some (.tup [], [(0, .row 84 4 (R.map termC) 0)]) ∧ R.Perm L ∧ SoT R R.length := by
  obtain ⟨o, hL, h1, h2⟩ := loopG_R (O := tab (n + 1)) (P := Tryz.prog) (m := 1) (N := 53) (lives := livesOf 222) (r := 1) (C := isc_C1) (exN := .exit 0) (M := L.length - 1) (enc := fun k o => isc_h1 0 (L.length : Int) o (0 + 1 + (k : Int))) (out := fun o => isc_o1a o)
    (fun k o => o.Perm L ∧ SoT o (k + 1)) L ⟨List.Perm.refl _, fun p q s t hpq hq => by omega⟩ (by omega) (fun h => by cases h)
    (fun k o hk hI => by
      obtain ⟨h1, h2⟩ := hI
      have hlo : o.length = L.length := h1.length_eq
      obtain ⟨o', h3, h4, h5⟩ := isc_in (n := n) (L := L) (out := o) (i := k + 1) (m := (L.length : Int)) hl h1 (by omega) h2
      refine ⟨o', ?_, h4, h5⟩
      have e : ((k + 1 : Nat) : Int) = 0 + 1 + (k : Int) := by omega
      have e2 : (0 : Int) + 1 + ((k + 1 : Nat) : Int) = 0 + 1 + (k : Int) + 1 := by omega
      rw [e] at h3
      rw [e2]
      exact isc_r1_1 (n := n) (by omega) h3 ⟨by omega, by omega⟩)
    (fun o hI => isc_x1_1 (by omega))
  have hlo : o.length = L.length := h1.length_eq
  refine ⟨o, isc_f1 (n := n) ⟨by omega, by omega⟩ ?_, h1, fun p q s t hpq hq hs ht => h2 p q s t hpq (by omega) hs ht⟩
  have e : (0 : Int) + 1 + ((0 : Nat) : Int) = 0 + 1 := rfl
  exact hL
end Go.Proofs.YtlpmemelhlnfbaaGreatDoor
set_option linter.all false
set_option maxRecDepth 100000
set_option maxHeartbeats 6400000
namespace Go.Proofs.YtlpmemelhlnfbaaGreatDoor
open Go.RowKit
noncomputable def stb_C2 : Code := (loopsOf (bodyOf Tryz.f187)).getD 0 .skip
noncomputable def stb_C7 : Code := (loopsOf (bodyOf Tryz.f187)).getD 1 .skip
def stb_h2 (a1 : Int) (out_2 : List (Int × Rat)) (i_2 : Int) (i2_2 : Nat) : St :=
  ⟨[(0, .own 0 out_2.length), (1, .lit (.int .i64 a1)), (2, .clo 134 []), (6, .lit (.int .i64 20)), (7, .lit (.int .i64 i_2)), (8, .lit (.int .i64 (i2_2 : Int)))],
   [(0, some (.row 84 4 (out_2.map termC) 0))], 1⟩
def stb_h7 (a1 : Int) (out_7 : List (Int × Rat)) (i_7 : Int) : St :=
  ⟨[(0, .own 0 out_7.length), (1, .lit (.int .i64 a1)), (2, .clo 134 []), (6, .lit (.int .i64 i_7))],
   [(0, some (.row 84 4 (out_7.map termC) 0))], 1⟩
def stb_o2a (a1 : Int) (out_2 : List (Int × Rat)) (i_2 : Int) : St :=
  ⟨[(0, .own 0 out_2.length), (1, .lit (.int .i64 a1)), (2, .clo 134 []), (6, .lit (.int .i64 20)), (7, .lit (.int .i64 i_2))],
   [(0, some (.row 84 4 (out_2.map termC) 0))], 1⟩
def stb_o7a (out_7 : List (Int × Rat)) : St :=
  ⟨[],
   [(0, some (.row 84 4 (out_7.map termC) 0))], 1⟩
section
variable {a1 : Int} {i_2 : Int} {out_2 : List (Int × Rat)} {n : Nat} {i2_2 : Nat} {i_7 : Int} {out_7 : List (Int × Rat)}
theorem stb_x2_1 (C1 : ¬ (i2_2 : Int) ≤ a1) :
    Leave 1 (exec Tryz.prog (tab (n + 43)) 1 63 (livesOf 187) big stb_C2) (livesOf 187 (outOf 2)) (stb_h2 a1 out_2 i_2 i2_2) (.exit 0) (stb_o2a a1 out_2 i_2) := by
  unfold Leave
  simp +decide [stb_h2, loopsOf, Tryz.f187, stb_o2a, stb_C2, C1]
theorem stb_x7_1 (C1 : ¬ i_7 < a1) :
    Leave 1 (exec Tryz.prog (tab (n + 43)) 1 63 (livesOf 187) big stb_C7) (livesOf 187 (outOf 7)) (stb_h7 a1 out_7 i_7) (.exit 2) (stb_o7a out_7) := by
  unfold Leave
  simp +decide [stb_h7, loopsOf, Tryz.f187, stb_o7a, stb_C7, C1]
theorem stb_f1  {a0 : List (Int × Rat)} {a1 : Int} {out_2 : List (Int × Rat)} {i_2 : Int} {R4 : List (Int × Rat)} {out_7 : List (Int × Rat)} (H1 : R4.length = out_2.length) (L1 : loopG Tryz.prog (tab (n + 43)) 1 63 (livesOf 187) 2 stb_C2 (stb_h2 a1 a0 0 20) = some (.exit 0, stb_o2a a1 out_2 i_2)) (K2 : runL (n + 42) 222 [.own 0 out_2.length, .lit (.int .i64 i_2), .lit (.int .i64 a1), .clo 134 []] [.row 84 4 (out_2.map termC) 0] = some (.tup [], [(0, .row 84 4 (R4.map termC) 0)])) (L3 : loopG Tryz.prog (tab (n + 43)) 1 63 (livesOf 187) 7 stb_C7 (stb_h7 a1 R4 20) = some (.exit 2, stb_o7a out_7)) :
    runL (n + 43) 187 [.own 0 a0.length, .lit (.int .i64 a1), .clo 134 []] [.row 84 4 (a0.map termC) 0] = some (.tup [], [(0, .row 84 4 (out_7.map termC) 0)]) := by
  unfold runL fnL
  simp +decide [H1, Tryz.f187, K2]
  rw [loopX_G (C' := stb_C2) (e := (stb_h2 a1 a0 0 20)) ?_ ?_, L1]
  rotate_left
  · kernel_rfl
  · simp +decide [H1, stb_h2, K2]
  simp +decide [H1, stb_o2a, K2]
  rw [loopX_G (C' := stb_C7) (e := (stb_h7 a1 R4 20)) ?_ ?_, L3]
  rotate_left
  · kernel_rfl
  · simp +decide [H1, stb_h7, K2]
  simp +decide [H1, stb_o7a, K2]
end
end Go.Proofs.YtlpmemelhlnfbaaGreatDoor
set_option linter.all false
set_option maxRecDepth 100000
set_option maxHeartbeats 6400000
namespace Go.Proofs.YtlpmemelhlnfbaaGreatDoor
open Go.RowKit
theorem srt_f1 {n : Nat} {a0 : List (Int × Rat)} {R : List (Int × Rat)} (K1 : runL (n + 43) 187 [.own 0 a0.length, .lit (.int .i64 (a0.length : Int)), .clo 134 []] [.row 84 4 (a0.map termC) 0] = some (.tup [], [(0, .row 84 4 (R.map termC) 0)])) :
    runL (n + 44) 133 [.own 0 a0.length, .clo 134 []] [.row 84 4 (a0.map termC) 0] = some (.tup [], [(0, .row 84 4 (R.map termC) 0)]) := by
  unfold runL fnL
  simp +decide [Tryz.f133, K1]
end Go.Proofs.YtlpmemelhlnfbaaGreatDoor
set_option linter.all false
set_option maxRecDepth 100000
set_option maxHeartbeats 6400000
namespace Go.Proofs.YtlpmemelhlnfbaaGreatDoor
open Go.RowKit
attribute [local irreducible] run runL loopG exec
theorem srt_c {n : Nat} {L : List (Int × Rat)} (hl : L.length ≤ 19) : ∃ R, runL (n + 44) 133 [.own 0 L.length, .clo 134 []] [.row 84 4 (L.map termC) 0] = some (.tup [], [(0, .row 84 4 (R.map termC) 0)]) ∧ R.Perm L ∧ SoT R R.length := by
  obtain ⟨R, K, h1, h2⟩ := isc_c (n := n + 41) (L := L) (by omega)
  obtain ⟨_, A, _, _⟩ := loopG_R (O := tab (n + 43)) (P := Tryz.prog) (m := 1) (N := 63) (lives := livesOf 187) (r := 2) (C := stb_C2) (exN := .exit 0) (M := 0) (enc := fun _ (_ : Unit) => stb_h2 (L.length : Int) L 0 20) (out := fun _ => stb_o2a (L.length : Int) L 0) (fun _ _ => True ∧ True) () ⟨trivial, trivial⟩ (by omega) (fun h => by cases h) (fun i b hi => by omega) (fun b hI => stb_x2_1 (by omega))
  obtain ⟨_, B, _, _⟩ := loopG_R (O := tab (n + 43)) (P := Tryz.prog) (m := 1) (N := 63) (lives := livesOf 187) (r := 7) (C := stb_C7) (exN := .exit 2) (M := 0) (enc := fun _ (_ : Unit) => stb_h7 (L.length : Int) R 20) (out := fun _ => stb_o7a R) (fun _ _ => True ∧ True) () ⟨trivial, trivial⟩ (by omega) (fun h => by cases h) (fun i b hi => by omega) (fun b hI => stb_x7_1 (by omega))
  exact ⟨R, srt_f1 (n := n) (stb_f1 (n := n) (by have := h1.length_eq; omega) A K B), h1, h2⟩
end Go.Proofs.YtlpmemelhlnfbaaGreatDoor
