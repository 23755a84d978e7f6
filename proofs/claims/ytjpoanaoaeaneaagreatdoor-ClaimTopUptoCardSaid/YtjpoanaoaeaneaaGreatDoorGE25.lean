import Derived.Test.YtjpoanaoaeaneaaGreatDoorGE16
import Derived.Test.YtjpoanaoaeaneaaGreatDoorGE22
import Derived.Test.YtjpoanaoaeaneaaGreatDoorGE24
set_option linter.all false
set_option maxRecDepth 100000
set_option maxHeartbeats 6400000
namespace Go.Proofs.YtjpoanaoaeaneaaGreatDoor
open Go.RowKit
noncomputable def ctlT (n : Nat) : FuncId → Option Orc := ext (tab (n + 16)) 35 (.pure awG)
theorem ctlT_ok (n : Nat) : OrcOk Tryz.prog (ctlT n) := (tab_ok (n + 16)).extP (by kernel_rfl) con_awake
noncomputable def ctl (n : Nat) (args : List AV) : Option AV := fnP Tryz.prog (ctlT n) (livesOf 11) big (fnOf 11) args
theorem ctl_con {n : Nat} {args : List AV} {r : AV} (h : ctl n args = some r) : Con Tryz.prog 11 args r :=
  con_of (ctlT_ok n) mixed (plain_fn (by kernel_rfl)) (body_some (by kernel_rfl) (plain_fn (by kernel_rfl))) h
@[simp] theorem ctl_aw (n : Nat) : ctlT n 35 = some (.pure awG) := by unfold ctlT ext; rw [if_pos rfl]
@[simp] theorem ctl_l43 (n : Nat) : ctlT n 43 = some (.pure (run (n + 15) 43)) := by unfold ctlT ext; rw [if_neg (by decide)]; exact tb_43 _
@[simp] theorem ctl_l44 (n : Nat) : ctlT n 44 = some (.pure (run (n + 15) 44)) := by unfold ctlT ext; rw [if_neg (by decide)]; exact tb_44 _
@[simp] theorem ctl_l47 (n : Nat) : ctlT n 47 = some (.pure fAdd) := by unfold ctlT ext; rw [if_neg (by decide)]; exact tab_num rfl _
@[simp] theorem ctl_l48 (n : Nat) : ctlT n 48 = some (.pure fSub) := by unfold ctlT ext; rw [if_neg (by decide)]; exact tab_num rfl _
@[simp] theorem ctl_l49 (n : Nat) : ctlT n 49 = some (.pure fSign) := by unfold ctlT ext; rw [if_neg (by decide)]; exact tab_num rfl _
@[simp] theorem ctl_l50 (n : Nat) : ctlT n 50 = some (.pure fCmp) := by unfold ctlT ext; rw [if_neg (by decide)]; exact tab_num rfl _
@[simp] theorem ctl_l51 (n : Nat) : ctlT n 51 = some (.pure fOf) := by unfold ctlT ext; rw [if_neg (by decide)]; exact tab_num rfl _
attribute [local simp] awG
noncomputable def ctl_C8 : Code := (loopsOf (bodyOf Tryz.f11)).getD 0 .skip
def ctl_h8 (a0 : List Raw) (a1 : Int) (d_8 : Bool) (d2_8 : Bool) (i_8 : Nat) (s_8 : Rat) : St :=
  ⟨[(0, .sl 3 (a0.map rawC)), (5, .lit (.int .i64 (a1.tmod (a0.length : Int)))), (6, .lit (.bool d_8)), (7, .ptr 0 0), (8, .lit (.bool d2_8)), (9, .lit (.int .i64 (i_8 : Int)))],
   [(0, some (.box 26 [.lit (.bool (rawQ s_8).s), natA (rawQ s_8).l1, natA (rawQ s_8).l2] false))], 1⟩
def ctl_o8a (a0 : List Raw) (a1 : Int) (d_8 : Bool) (d2_8 : Bool) (s_8 : Rat) : St :=
  ⟨[(0, .sl 3 (a0.map rawC)), (5, .lit (.int .i64 (a1.tmod (a0.length : Int)))), (6, .lit (.bool d_8)), (7, .ptr 0 0), (8, .lit (.bool d2_8))],
   [(0, some (.box 26 [.lit (.bool (rawQ s_8).s), natA (rawQ s_8).l1, natA (rawQ s_8).l2] false))], 1⟩
section
variable {a0 : List Raw} {i_8 : Nat} {d_8 : Bool} {a1 : Int} {n : Nat} {d2_8 : Bool} {s_8 : Rat} {x6 : Raw} {x5 : Raw}
theorem ctl_r8_1 (C1 : (i_8 : Int) < (a0.length : Int)) (C2 : (i_8 : Int) = a1.tmod (a0.length : Int)) (W3 : InI ((i_8 : Int) + 1)) :
    Cont 0 (exec Tryz.prog (ctlT n) 0 116 (livesOf 11) big ctl_C8) (livesOf 11 8) (ctl_h8 a0 a1 d_8 d2_8 i_8 s_8) (ctl_h8 a0 a1 d_8 d2_8 (i_8 + 1) s_8) := by
  have C1_ : i_8 < a0.length := by omega
  have C2_ : ((i_8 : Int) == a1.tmod (a0.length : Int)) = true := by rw [C2]; simp
  have C2_n : ((i_8 : Int) != a1.tmod (a0.length : Int)) = false := by rw [C2]; simp
  have W3_ : IntKind.i64.wrap ((i_8 : Int) + 1) = (i_8 : Int) + 1 := wr64 W3.1 W3.2
  unfold Cont
  simp +decide [ctl_h8, loopsOf, Tryz.f11, ctl_C8, C1, C1_, C2_, C2_n, W3_]
theorem ctl_r8_3 (C1 : (i_8 : Int) < (a0.length : Int)) (C2 : ¬ (i_8 : Int) = a1.tmod (a0.length : Int)) (E3 : a0[(a1.tmod (a0.length : Int)).toNat]? = some x5) (Z3 : 0 ≤ a1.tmod (a0.length : Int)) (E4 : a0[i_8]? = some x6) (B5a : RawB x5) (B5b : RawB x6) (C6 : d_8 = true) (B7a : H (x5.q - x6.q) ≤ 17179869184) (C8 : d2_8 = true) (B9b : H s_8 ≤ 17179869184) (C10 : sgR ((x5.q - x6.q) - s_8) < 0) (W11 : InI ((i_8 : Int) + 1)) :
    Cont 0 (exec Tryz.prog (ctlT n) 0 116 (livesOf 11) big ctl_C8) (livesOf 11 8) (ctl_h8 a0 a1 d_8 d2_8 i_8 s_8) (ctl_h8 a0 a1 (decide (0 ≤ sgR (x5.q - x6.q))) true (i_8 + 1) (x5.q - x6.q)) := by
  have C1_ : i_8 < a0.length := by omega
  have C2_ : ((i_8 : Int) == a1.tmod (a0.length : Int)) = false := by simpa using C2
  have C2_n : ((i_8 : Int) != a1.tmod (a0.length : Int)) = true := by simpa using C2
  obtain ⟨EL3, EG3⟩ := List.getElem?_eq_some_iff.1 E3
  obtain ⟨EL4, EG4⟩ := List.getElem?_eq_some_iff.1 E4
  have K5 := rr_sub B5a B5b
  have K7 := r_sign (p := x5.q - x6.q) B7a
  have K9 := r_cmp (p := x5.q - x6.q) (q := s_8) B7a B9b
  have W11_ : IntKind.i64.wrap ((i_8 : Int) + 1) = (i_8 : Int) + 1 := wr64 W11.1 W11.2
  unfold Cont
  simp +decide [ctl_h8, loopsOf, Tryz.f11, ctl_C8, C1, C1_, C2_, C2_n, EL3, EG3, E3, Z3, EL4, EG4, E4, K5, C6, K7, C8, K9, C10, W11_]
theorem ctl_r8_4 (C1 : (i_8 : Int) < (a0.length : Int)) (C2 : ¬ (i_8 : Int) = a1.tmod (a0.length : Int)) (E3 : a0[(a1.tmod (a0.length : Int)).toNat]? = some x5) (Z3 : 0 ≤ a1.tmod (a0.length : Int)) (E4 : a0[i_8]? = some x6) (B5a : RawB x5) (B5b : RawB x6) (C6 : d_8 = true) (B7a : H (x5.q - x6.q) ≤ 17179869184) (C8 : d2_8 = true) (B9b : H s_8 ≤ 17179869184) (C10 : ¬ sgR ((x5.q - x6.q) - s_8) < 0) (W11 : InI ((i_8 : Int) + 1)) :
    Cont 0 (exec Tryz.prog (ctlT n) 0 116 (livesOf 11) big ctl_C8) (livesOf 11 8) (ctl_h8 a0 a1 d_8 d2_8 i_8 s_8) (ctl_h8 a0 a1 (decide (0 ≤ sgR (x5.q - x6.q))) d2_8 (i_8 + 1) s_8) := by
  have C1_ : i_8 < a0.length := by omega
  have C2_ : ((i_8 : Int) == a1.tmod (a0.length : Int)) = false := by simpa using C2
  have C2_n : ((i_8 : Int) != a1.tmod (a0.length : Int)) = true := by simpa using C2
  obtain ⟨EL3, EG3⟩ := List.getElem?_eq_some_iff.1 E3
  obtain ⟨EL4, EG4⟩ := List.getElem?_eq_some_iff.1 E4
  have K5 := rr_sub B5a B5b
  have K7 := r_sign (p := x5.q - x6.q) B7a
  have K9 := r_cmp (p := x5.q - x6.q) (q := s_8) B7a B9b
  have W11_ : IntKind.i64.wrap ((i_8 : Int) + 1) = (i_8 : Int) + 1 := wr64 W11.1 W11.2
  unfold Cont
  simp +decide [ctl_h8, loopsOf, Tryz.f11, ctl_C8, C1, C1_, C2_, C2_n, EL3, EG3, E3, Z3, EL4, EG4, E4, K5, C6, K7, C8, K9, C10, W11_]
theorem ctl_r8_6 (C1 : (i_8 : Int) < (a0.length : Int)) (C2 : ¬ (i_8 : Int) = a1.tmod (a0.length : Int)) (E3 : a0[(a1.tmod (a0.length : Int)).toNat]? = some x5) (Z3 : 0 ≤ a1.tmod (a0.length : Int)) (E4 : a0[i_8]? = some x6) (B5a : RawB x5) (B5b : RawB x6) (C6 : d_8 = false) (C7 : d2_8 = true) (B8a : H (x5.q - x6.q) ≤ 17179869184) (B8b : H s_8 ≤ 17179869184) (C9 : sgR ((x5.q - x6.q) - s_8) < 0) (W10 : InI ((i_8 : Int) + 1)) :
    Cont 0 (exec Tryz.prog (ctlT n) 0 116 (livesOf 11) big ctl_C8) (livesOf 11 8) (ctl_h8 a0 a1 d_8 d2_8 i_8 s_8) (ctl_h8 a0 a1 false true (i_8 + 1) (x5.q - x6.q)) := by
  have C1_ : i_8 < a0.length := by omega
  have C2_ : ((i_8 : Int) == a1.tmod (a0.length : Int)) = false := by simpa using C2
  have C2_n : ((i_8 : Int) != a1.tmod (a0.length : Int)) = true := by simpa using C2
  obtain ⟨EL3, EG3⟩ := List.getElem?_eq_some_iff.1 E3
  obtain ⟨EL4, EG4⟩ := List.getElem?_eq_some_iff.1 E4
  have K5 := rr_sub B5a B5b
  have K8 := r_cmp (p := x5.q - x6.q) (q := s_8) B8a B8b
  have W10_ : IntKind.i64.wrap ((i_8 : Int) + 1) = (i_8 : Int) + 1 := wr64 W10.1 W10.2
  unfold Cont
  simp +decide [ctl_h8, loopsOf, Tryz.f11, ctl_C8, C1, C1_, C2_, C2_n, EL3, EG3, E3, Z3, EL4, EG4, E4, K5, C6, C7, K8, C9, W10_]
theorem ctl_r8_7 (C1 : (i_8 : Int) < (a0.length : Int)) (C2 : ¬ (i_8 : Int) = a1.tmod (a0.length : Int)) (E3 : a0[(a1.tmod (a0.length : Int)).toNat]? = some x5) (Z3 : 0 ≤ a1.tmod (a0.length : Int)) (E4 : a0[i_8]? = some x6) (B5a : RawB x5) (B5b : RawB x6) (C6 : d_8 = false) (C7 : d2_8 = true) (B8a : H (x5.q - x6.q) ≤ 17179869184) (B8b : H s_8 ≤ 17179869184) (C9 : ¬ sgR ((x5.q - x6.q) - s_8) < 0) (W10 : InI ((i_8 : Int) + 1)) :
    Cont 0 (exec Tryz.prog (ctlT n) 0 116 (livesOf 11) big ctl_C8) (livesOf 11 8) (ctl_h8 a0 a1 d_8 d2_8 i_8 s_8) (ctl_h8 a0 a1 false d2_8 (i_8 + 1) s_8) := by
  have C1_ : i_8 < a0.length := by omega
  have C2_ : ((i_8 : Int) == a1.tmod (a0.length : Int)) = false := by simpa using C2
  have C2_n : ((i_8 : Int) != a1.tmod (a0.length : Int)) = true := by simpa using C2
  obtain ⟨EL3, EG3⟩ := List.getElem?_eq_some_iff.1 E3
  obtain ⟨EL4, EG4⟩ := List.getElem?_eq_some_iff.1 E4
  have K5 := rr_sub B5a B5b
  have K8 := r_cmp (p := x5.q - x6.q) (q := s_8) B8a B8b
  have W10_ : IntKind.i64.wrap ((i_8 : Int) + 1) = (i_8 : Int) + 1 := wr64 W10.1 W10.2
  unfold Cont
  simp +decide [ctl_h8, loopsOf, Tryz.f11, ctl_C8, C1, C1_, C2_, C2_n, EL3, EG3, E3, Z3, EL4, EG4, E4, K5, C6, C7, K8, C9, W10_]
theorem ctl_x8_1 (C1 : ¬ (i_8 : Int) < (a0.length : Int)) :
    Leave 0 (exec Tryz.prog (ctlT n) 0 116 (livesOf 11) big ctl_C8) (livesOf 11 (outOf 8)) (ctl_h8 a0 a1 d_8 d2_8 i_8 s_8) (.exit 0) (ctl_o8a a0 a1 d_8 d2_8 s_8) := by
  have C1_ : ¬ i_8 < a0.length := by omega
  unfold Leave
  simp +decide [ctl_h8, loopsOf, Tryz.f11, ctl_o8a, ctl_C8, C1, C1_]
end
def ctl_hn (a0 : List Raw) (a1 : Int) (d_8 : Bool) (i_8 : Nat) : St :=
  ⟨[(0, .sl 3 (a0.map rawC)), (5, .lit (.int .i64 (a1.tmod (a0.length : Int)))), (6, .lit (.bool d_8)), (7, .ptr 0 0), (8, .lit (.bool false)), (9, .lit (.int .i64 (i_8 : Int)))],
   [(0, some (.box 26 [.lit (.bool false), .nl 1, .nl 1] false))], 1⟩
def ctl_on (a0 : List Raw) (a1 : Int) (d_8 : Bool) : St :=
  ⟨[(0, .sl 3 (a0.map rawC)), (5, .lit (.int .i64 (a1.tmod (a0.length : Int)))), (6, .lit (.bool d_8)), (7, .ptr 0 0), (8, .lit (.bool false))],
   [(0, some (.box 26 [.lit (.bool false), .nl 1, .nl 1] false))], 1⟩
theorem ctl_n8_1 {n : Nat} {a0 : List Raw} {a1 : Int} {i_8 : Nat} {d_8 : Bool} (C1 : (i_8 : Int) < (a0.length : Int)) (C2 : (i_8 : Int) = a1.tmod (a0.length : Int)) (W3 : InI ((i_8 : Int) + 1)) :
    Cont 0 (exec Tryz.prog (ctlT n) 0 116 (livesOf 11) big ctl_C8) (livesOf 11 8) (ctl_hn a0 a1 d_8 i_8) (ctl_hn a0 a1 d_8 (i_8 + 1)) := by
  have C1_ : i_8 < a0.length := by omega
  have C2_ : ((i_8 : Int) == a1.tmod (a0.length : Int)) = true := by rw [C2]; simp
  have C2_n : ((i_8 : Int) != a1.tmod (a0.length : Int)) = false := by rw [C2]; simp
  have W3_ : IntKind.i64.wrap ((i_8 : Int) + 1) = (i_8 : Int) + 1 := wr64 W3.1 W3.2
  unfold Cont
  simp +decide [ctl_h8, ctl_hn, loopsOf, Tryz.f11, ctl_C8, C1, C1_, C2_, C2_n, W3_]
theorem ctl_n8_2 {n : Nat} {a0 : List Raw} {a1 : Int} {i_8 : Nat} {x5 : Raw} {x6 : Raw} {d_8 : Bool} (C1 : (i_8 : Int) < (a0.length : Int)) (C2 : ¬ (i_8 : Int) = a1.tmod (a0.length : Int)) (E3 : a0[(a1.tmod (a0.length : Int)).toNat]? = some x5) (Z3 : 0 ≤ a1.tmod (a0.length : Int)) (E4 : a0[i_8]? = some x6) (B5a : RawB x5) (B5b : RawB x6) (C6 : d_8 = true) (B7a : H (x5.q - x6.q) ≤ 17179869184) (W9 : InI ((i_8 : Int) + 1)) :
    Cont 0 (exec Tryz.prog (ctlT n) 0 116 (livesOf 11) big ctl_C8) (livesOf 11 8) (ctl_hn a0 a1 d_8 i_8) (ctl_h8 a0 a1 (decide (0 ≤ sgR (x5.q - x6.q))) true (i_8 + 1) (x5.q - x6.q)) := by
  have C1_ : i_8 < a0.length := by omega
  have C2_ : ((i_8 : Int) == a1.tmod (a0.length : Int)) = false := by simpa using C2
  have C2_n : ((i_8 : Int) != a1.tmod (a0.length : Int)) = true := by simpa using C2
  obtain ⟨EL3, EG3⟩ := List.getElem?_eq_some_iff.1 E3
  obtain ⟨EL4, EG4⟩ := List.getElem?_eq_some_iff.1 E4
  have K5 := rr_sub B5a B5b
  have K7 := r_sign (p := x5.q - x6.q) B7a
  have W9_ : IntKind.i64.wrap ((i_8 : Int) + 1) = (i_8 : Int) + 1 := wr64 W9.1 W9.2
  unfold Cont
  simp +decide [ctl_h8, ctl_hn, loopsOf, Tryz.f11, ctl_C8, C1, C1_, C2_, C2_n, EL3, EG3, E3, Z3, EL4, EG4, E4, K5, C6, K7, W9_]
theorem ctl_n8_5 {n : Nat} {a0 : List Raw} {a1 : Int} {i_8 : Nat} {x5 : Raw} {x6 : Raw} {d_8 : Bool} (C1 : (i_8 : Int) < (a0.length : Int)) (C2 : ¬ (i_8 : Int) = a1.tmod (a0.length : Int)) (E3 : a0[(a1.tmod (a0.length : Int)).toNat]? = some x5) (Z3 : 0 ≤ a1.tmod (a0.length : Int)) (E4 : a0[i_8]? = some x6) (B5a : RawB x5) (B5b : RawB x6) (C6 : d_8 = false) (W8 : InI ((i_8 : Int) + 1)) :
    Cont 0 (exec Tryz.prog (ctlT n) 0 116 (livesOf 11) big ctl_C8) (livesOf 11 8) (ctl_hn a0 a1 d_8 i_8) (ctl_h8 a0 a1 false true (i_8 + 1) (x5.q - x6.q)) := by
  have C1_ : i_8 < a0.length := by omega
  have C2_ : ((i_8 : Int) == a1.tmod (a0.length : Int)) = false := by simpa using C2
  have C2_n : ((i_8 : Int) != a1.tmod (a0.length : Int)) = true := by simpa using C2
  obtain ⟨EL3, EG3⟩ := List.getElem?_eq_some_iff.1 E3
  obtain ⟨EL4, EG4⟩ := List.getElem?_eq_some_iff.1 E4
  have K5 := rr_sub B5a B5b
  have W8_ : IntKind.i64.wrap ((i_8 : Int) + 1) = (i_8 : Int) + 1 := wr64 W8.1 W8.2
  unfold Cont
  simp +decide [ctl_h8, ctl_hn, loopsOf, Tryz.f11, ctl_C8, C1, C1_, C2_, C2_n, EL3, EG3, E3, Z3, EL4, EG4, E4, K5, C6, W8_]
theorem ctl_n8_x {n : Nat} {a0 : List Raw} {a1 : Int} {i_8 : Nat} {d_8 : Bool} (C1 : ¬ (i_8 : Int) < (a0.length : Int)) :
    Leave 0 (exec Tryz.prog (ctlT n) 0 116 (livesOf 11) big ctl_C8) (livesOf 11 (outOf 8)) (ctl_hn a0 a1 d_8 i_8) (.exit 0) (ctl_on a0 a1 d_8) := by
  have C1_ : ¬ i_8 < a0.length := by omega
  unfold Leave
  simp +decide [ctl_h8, ctl_hn, loopsOf, Tryz.f11, ctl_on, ctl_C8, C1, C1_]
section
variable {a0 : List Raw} {r : Bool} {a1 : Int} {n : Nat} {d_8 : Bool} {r3 : Bool} {r2 : Int} {d2_8 : Bool} {r4 : Int} {s_8 : Rat} {r9 : Bool} {r6 : Bool} {r10 : Int} {r8 : Int} {r7 : Int} {r5 : Int}
theorem ctl_f1 (K1 : run (n + 15) 43 [.sl 3 (a0.map rawC)] = some (.lit (.bool r))) (C2 : r = false) :
    ctl n [.sl 3 (a0.map rawC), .lit (.int .u8 a1)] = some (.lit (.bool true)) := by
  unfold ctl fnP
  simp +decide [Tryz.f11, K1, C2]
theorem ctl_f2 (K1 : run (n + 15) 43 [.sl 3 (a0.map rawC)] = some (.lit (.bool r))) (C2 : r = true) (C3 : (a0.length : Int) = 0) :
    ctl n [.sl 3 (a0.map rawC), .lit (.int .u8 a1)] = some (.lit (.bool true)) := by
  have C3_ : ((a0.length : Int) == 0) = true := by rw [C3]; simp
  have C3_n : ((a0.length : Int) != 0) = false := by rw [C3]; simp
  have C3_l : ¬ 0 < (a0.length : Int) := by omega
  unfold ctl fnP
  simp +decide [Tryz.f11, K1, C2, C3_, C3_n, C3_l]
theorem ctl_f5 (K1 : run (n + 15) 43 [.sl 3 (a0.map rawC)] = some (.lit (.bool r))) (C2 : r = true) (C3 : ¬ (a0.length : Int) = 0) (W4 : InI (a1)) (N5 : (a0.length : Int) ≠ 0) (L6 : loopG Tryz.prog (ctlT n) 0 116 (livesOf 11) 8 ctl_C8 (ctl_hn a0 a1 true 0) = some (.exit 0, ctl_o8a a0 a1 d_8 d2_8 s_8)) (K7 : run (n + 15) 44 [.agg [.lit (.int .i64 1), .lit (.int .i64 (a1.tmod (a0.length : Int))), .lit (.bool false), .sl 1 [], .sl 1 [], .sl 4 []], .sl 3 (a0.map rawC)] = some (.tup [.lit (.int .i64 r2), .lit (.bool r3), .lit (.int .i64 r4)])) (C8 : r4 = 0) (C9 : r3 = d_8) (C10 : d_8 = false) :
    ctl n [.sl 3 (a0.map rawC), .lit (.int .u8 a1)] = some (.lit (.bool true)) := by
  have C3_ : ((a0.length : Int) == 0) = false := by simpa using C3
  have C3_n : ((a0.length : Int) != 0) = true := by simpa using C3
  have C3_l : 0 < (a0.length : Int) := by omega
  have W4_ : IntKind.i64.wrap (a1) = a1 := wr64 W4.1 W4.2
  have N5_l : ¬ a0 = [] := by intro h9; rw [h9] at N5; exact N5 rfl
  have C8_ : (r4 == 0) = true := by rw [C8]; simp
  have C8_n : (r4 != 0) = false := by rw [C8]; simp
  have C9_ : (r3 == d_8) = true := by rw [C9]; simp
  have C9_n : (r3 != d_8) = false := by rw [C9]; simp
  unfold ctl fnP
  simp +decide [Tryz.f11, K1, C2, C3_, C3_n, C3_l, W4_, N5, N5_l, K7, C8_, C8_n, C9_, C9_n, C9, C10]
  rw [loopX_G (C' := ctl_C8) (e := (ctl_hn a0 a1 true 0)) ?_ ?_, L6]
  rotate_left
  · kernel_rfl
  · simp +decide [ctl_hn, K1, C2, C3_, C3_n, C3_l, W4_, N5, N5_l, K7, C8_, C8_n, C9_, C9_n, C9, C10]
  simp +decide [ctl_o8a, K1, C2, C3_, C3_n, C3_l, W4_, N5, N5_l, K7, C8_, C8_n, C9_, C9_n, C9, C10]
theorem ctl_f6 (K1 : run (n + 15) 43 [.sl 3 (a0.map rawC)] = some (.lit (.bool r))) (C2 : r = true) (C3 : ¬ (a0.length : Int) = 0) (W4 : InI (a1)) (N5 : (a0.length : Int) ≠ 0) (L6 : loopG Tryz.prog (ctlT n) 0 116 (livesOf 11) 8 ctl_C8 (ctl_hn a0 a1 true 0) = some (.exit 0, ctl_on a0 a1 d_8)) (K7 : run (n + 15) 44 [.agg [.lit (.int .i64 1), .lit (.int .i64 (a1.tmod (a0.length : Int))), .lit (.bool false), .sl 1 [], .sl 1 [], .sl 4 []], .sl 3 (a0.map rawC)] = some (.tup [.lit (.int .i64 r2), .lit (.bool r3), .lit (.int .i64 r4)])) (C8 : r4 = 0) (C9 : r3 = d_8) (C10 : d_8 = true) :
    ctl n [.sl 3 (a0.map rawC), .lit (.int .u8 a1)] = some (.lit (.bool true)) := by
  have C3_ : ((a0.length : Int) == 0) = false := by simpa using C3
  have C3_n : ((a0.length : Int) != 0) = true := by simpa using C3
  have C3_l : 0 < (a0.length : Int) := by omega
  have W4_ : IntKind.i64.wrap (a1) = a1 := wr64 W4.1 W4.2
  have N5_l : ¬ a0 = [] := by intro h9; rw [h9] at N5; exact N5 rfl
  have C8_ : (r4 == 0) = true := by rw [C8]; simp
  have C8_n : (r4 != 0) = false := by rw [C8]; simp
  have C9_ : (r3 == d_8) = true := by rw [C9]; simp
  have C9_n : (r3 != d_8) = false := by rw [C9]; simp
  unfold ctl fnP
  simp +decide [Tryz.f11, K1, C2, C3_, C3_n, C3_l, W4_, N5, N5_l, K7, C8_, C8_n, C9_, C9_n, C9, C10]
  rw [loopX_G (C' := ctl_C8) (e := (ctl_hn a0 a1 true 0)) ?_ ?_, L6]
  rotate_left
  · kernel_rfl
  · simp +decide [ctl_hn, K1, C2, C3_, C3_n, C3_l, W4_, N5, N5_l, K7, C8_, C8_n, C9_, C9_n, C9, C10]
  simp +decide [ctl_on, K1, C2, C3_, C3_n, C3_l, W4_, N5, N5_l, K7, C8_, C8_n, C9_, C9_n, C9, C10]
theorem ctl_f7 (K1 : run (n + 15) 43 [.sl 3 (a0.map rawC)] = some (.lit (.bool r))) (C2 : r = true) (C3 : ¬ (a0.length : Int) = 0) (W4 : InI (a1)) (N5 : (a0.length : Int) ≠ 0) (L6 : loopG Tryz.prog (ctlT n) 0 116 (livesOf 11) 8 ctl_C8 (ctl_hn a0 a1 true 0) = some (.exit 0, ctl_o8a a0 a1 d_8 d2_8 s_8)) (K7 : run (n + 15) 44 [.agg [.lit (.int .i64 1), .lit (.int .i64 (a1.tmod (a0.length : Int))), .lit (.bool false), .sl 1 [], .sl 1 [], .sl 4 []], .sl 3 (a0.map rawC)] = some (.tup [.lit (.int .i64 r2), .lit (.bool r3), .lit (.int .i64 r4)])) (C8 : r4 = 0) (C9 : r3 = d_8) (C10 : d_8 = true) (C11 : d2_8 = true) (K12 : run (n + 15) 44 [.agg [.lit (.int .i64 1), .lit (.int .i64 (a1.tmod (a0.length : Int))), .lit (.bool (rawQ s_8).s), natA (rawQ s_8).l1, natA (rawQ s_8).l2, .sl 4 []], .sl 3 (a0.map rawC)] = some (.tup [.lit (.int .i64 r5), .lit (.bool r6), .lit (.int .i64 r7)])) (B14a : H s_8 ≤ 17179869184) (B14b : H (ofQ 1) ≤ 17179869184) (K15 : run (n + 15) 44 [.agg [.lit (.int .i64 1), .lit (.int .i64 (a1.tmod (a0.length : Int))), .lit (.bool (rawQ (s_8 + (ofQ 1))).s), natA (rawQ (s_8 + (ofQ 1))).l1, natA (rawQ (s_8 + (ofQ 1))).l2, .sl 4 []], .sl 3 (a0.map rawC)] = some (.tup [.lit (.int .i64 r8), .lit (.bool r9), .lit (.int .i64 r10)])) (C16 : r7 = 0) (C17 : r6 = true) :
    ctl n [.sl 3 (a0.map rawC), .lit (.int .u8 a1)] = some (.lit (.bool (!r9))) := by
  have C3_ : ((a0.length : Int) == 0) = false := by simpa using C3
  have C3_n : ((a0.length : Int) != 0) = true := by simpa using C3
  have C3_l : 0 < (a0.length : Int) := by omega
  have W4_ : IntKind.i64.wrap (a1) = a1 := wr64 W4.1 W4.2
  have N5_l : ¬ a0 = [] := by intro h9; rw [h9] at N5; exact N5 rfl
  have C8_ : (r4 == 0) = true := by rw [C8]; simp
  have C8_n : (r4 != 0) = false := by rw [C8]; simp
  have C9_ : (r3 == d_8) = true := by rw [C9]; simp
  have C9_n : (r3 != d_8) = false := by rw [C9]; simp
  have K13 := r_ofq (z := 1) (by omega) (by omega)
  have K14 := r_add (p := s_8) (q := ofQ 1) B14a B14b
  have C16_ : (r7 == 0) = true := by rw [C16]; simp
  have C16_n : (r7 != 0) = false := by rw [C16]; simp
  unfold ctl fnP
  simp +decide [Tryz.f11, K1, C2, C3_, C3_n, C3_l, W4_, N5, N5_l, K7, C8_, C8_n, C9_, C9_n, C9, C10, C11, K12, K13, K14, K15, C16_, C16_n, C17]
  rw [loopX_G (C' := ctl_C8) (e := (ctl_hn a0 a1 true 0)) ?_ ?_, L6]
  rotate_left
  · kernel_rfl
  · simp +decide [ctl_hn, K1, C2, C3_, C3_n, C3_l, W4_, N5, N5_l, K7, C8_, C8_n, C9_, C9_n, C9, C10, C11, K12, K13, K14, K15, C16_, C16_n, C17]
  simp +decide [ctl_o8a, K1, C2, C3_, C3_n, C3_l, W4_, N5, N5_l, K7, C8_, C8_n, C9_, C9_n, C9, C10, C11, K12, K13, K14, K15, C16_, C16_n, C17]
end
end Go.Proofs.YtjpoanaoaeaneaaGreatDoor
set_option linter.all false
set_option maxRecDepth 100000
set_option maxHeartbeats 6400000
namespace Go.Proofs.YtjpoanaoaeaneaaGreatDoor
open Go.RowKit
attribute [local irreducible] run runL loopG exec ctl
def dif (X : List Rat) (t j : Nat) : Rat := X.getD t 0 - X.getD j 0
theorem dif_val {X : List Rat} {t j : Nat} : (subF (varF t) (varF j)).2 + evS X (subF (varF t) (varF j)).1 = dif X t j := by
  show (0 - 0 : Rat) + evS X (addV (varF t).1 (sclV (varF j).1 (-1))) = _
  rw [evS_add (var_sb _).s (scl_srt (var_sb _).s).1, evS_scl]
  simp only [varF, evS, of1, Int.toNat_natCast]
  unfold dif
  grind
theorem dif_in {X : List Rat} {t j : Nat} (ht : t < X.length) (hj : j < X.length) : InR X.length (subF (varF t) (varF j)).1 :=
  InR.add (fun u hu => by
    have : u = ((t : Int), ofQ 1) := List.mem_singleton.1 hu
    rw [this]; dsimp only; omega) (InR.scl fun u hu => by
    have : u = ((j : Int), ofQ 1) := List.mem_singleton.1 hu
    rw [this]; dsimp only; omega)
theorem dif_H {X : List Rat} {t j : Nat} (h : ∀ q ∈ X, H q ≤ 2) (ht : t < X.length) (hj : j < X.length) : H (dif X t j) ≤ 6 := by
  have a1 : H (X.getD t 0) ≤ 2 := h _ (by rw [List.getD_eq_getElem?_getD, List.getElem?_eq_getElem ht]; exact List.getElem_mem ht)
  have a2 : H (X.getD j 0) ≤ 2 := h _ (by rw [List.getD_eq_getElem?_getD, List.getElem?_eq_getElem hj]; exact List.getElem_mem hj)
  have h1 : H (-1) ≤ 1 := by decide +kernel
  have e : dif X t j = X.getD t 0 + X.getD j 0 * (-1) := by unfold dif; grind
  have h2 := H_add (X.getD t 0) (X.getD j 0 * (-1))
  have h3 := H_mul (X.getD j 0) (-1)
  rw [e]; omega
def topC (t : Nat) (m : Rat) : TClaimR := ⟨1, (t : Int), rawQ m, []⟩
theorem topC_e (t : Nat) (m : Rat) : claimRV (topC t m) = .agg [.lit (.int .i64 1), .lit (.int .i64 (t : Int)), .lit (.bool (rawQ m).s), natA (rawQ m).l1, natA (rawQ m).l2, .sl 4 []] := by simp [topC]
theorem topC_0 (t : Nat) : claimRV (topC t 0) = .agg [.lit (.int .i64 1), .lit (.int .i64 (t : Int)), .lit (.bool false), .sl 1 [], .sl 1 [], .sl 4 []] := by simp [topC]
theorem top_holds {xs : List Raw} {t : Nat} {m : Rat} (hp : PtR xs) (ht : t < xs.length) (hm : H m ≤ 8) (h0 : 0 ≤ m) :
    ∃ i ok, (∀ n, run (n + 6) 44 [claimRV (topC t m), .sl 3 (xs.map rawC)] = some (.tup [.lit (.int .i64 i), .lit (.bool ok), .lit (.int .i64 0)])) ∧ (ok = true ↔ ∀ j, j < xs.length → j ≠ t → ¬ dif (xs.map Raw.q) t j < m) := by
  have hl := hp.l
  have hg : Good (topC t m) := ⟨rawB_q (by omega), by simp [topC], fun f hf => (by cases hf), fun f hf => (by cases hf)⟩
  have hq : (topC t m).Margin.q = m := rawQ_q m
  have ho : OkClR (topC t m) (xs.length : Int) := ⟨by omega, by omega, cn_raw, by rw [hq, sg_neg]; exact Rat.not_lt.2 h0, .inl ⟨rfl, by show (0 : Int) ≤ (t : Int); omega, by show (t : Int) < _; omega, rfl⟩⟩
  obtain ⟨i, ok, e, A, _, h1⟩ := holdsG hg (fun _ => by rw [hq]; exact hm) hp
  rcases h1 with ⟨_, rfl, s1, g1⟩ | ⟨h, _⟩
  rotate_left
  · exact absurd ho h
  refine ⟨i, ok, A, ?_⟩
  rw [g1.base]
  have eb : baseF (unC (topC t m)) (xs.length : Int) = ((List.range xs.length).filter fun j : Nat => decide ((j : Int) ≠ (t : Int))).map fun j : Nat => subF (varF (t : Int)) (varF (j : Int)) := rfl
  have em : (unC (topC t m)).Margin = m := hq
  rw [eb, em]
  constructor
  · intro h j hj hn h2
    refine h _ (List.mem_map.2 ⟨j, List.mem_filter.2 ⟨List.mem_range.2 hj, by simpa using (fun h => hn (by omega))⟩, rfl⟩) ⟨dif_in (by simpa using ht) (by simpa using hj), ?_⟩
    rw [dif_val]; exact h2
  · intro h f hf h2
    obtain ⟨j, hj, rfl⟩ := List.mem_map.1 hf
    obtain ⟨hj1, hj2⟩ := List.mem_filter.1 hj
    have h3 := h2.2
    rw [dif_val] at h3
    have hj3 : (j : Int) ≠ (t : Int) := by simpa using hj2
    exact h j (List.mem_range.1 hj1) (fun e => hj3 (by rw [e])) h3
structure TopI (D : Nat → Rat) (t i : Nat) (d d2 : Bool) (s : Rat) : Prop where
  a : d = true ↔ ∀ j, j < i → j ≠ t → 0 ≤ D j
  b : (d2 = false ∧ ∀ j, j < i → j = t) ∨ (d2 = true ∧ (∃ j, j < i ∧ j ≠ t ∧ s = D j) ∧ ∀ j, j < i → j ≠ t → s ≤ D j)
theorem TopI.same {D : Nat → Rat} {t i : Nat} {d d2 : Bool} {s : Rat} (h : TopI D t i d d2 s) (hi : i = t) : TopI D t (i + 1) d d2 s := by
  refine ⟨h.a.trans ⟨fun h2 j hj hn => h2 j (by omega) hn, fun h2 j hj hn => h2 j (by omega) hn⟩, ?_⟩
  rcases h.b with ⟨h1, h2⟩ | ⟨h1, ⟨j, h2, h3, h4⟩, h5⟩
  · exact .inl ⟨h1, fun j hj => by rcases Nat.lt_succ_iff_lt_or_eq.1 hj with h6 | h6; exact h2 j h6; omega⟩
  · exact .inr ⟨h1, ⟨j, by omega, h3, h4⟩, fun k hk hn => h5 k (by omega) hn⟩
theorem TopI.next {D : Nat → Rat} {t i : Nat} {d d2 d' : Bool} {s s' : Rat} (h : TopI D t i d d2 s) (hi : i ≠ t) (hd : d' = true ↔ (d = true ∧ 0 ≤ D i)) (hs : (s' = D i ∧ (d2 = false ∨ D i < s)) ∨ (s' = s ∧ d2 = true ∧ s ≤ D i)) : TopI D t (i + 1) d' true s' := by
  constructor
  · rw [hd, h.a]
    constructor
    · rintro ⟨h1, h2⟩ j hj hn
      rcases Nat.lt_succ_iff_lt_or_eq.1 hj with h6 | rfl
      · exact h1 j h6 hn
      · exact h2
    · intro h1
      exact ⟨fun j hj hn => h1 j (by omega) hn, h1 i (by omega) hi⟩
  · refine .inr ⟨rfl, ?_⟩
    rcases hs with ⟨rfl, h1⟩ | ⟨rfl, h1, h2⟩
    · refine ⟨⟨i, by omega, hi, rfl⟩, fun j hj hn => ?_⟩
      rcases Nat.lt_succ_iff_lt_or_eq.1 hj with h6 | rfl
      · rcases h1 with h1 | h1
        · rcases h.b with ⟨_, h3⟩ | ⟨h3, _⟩
          · exact absurd (h3 j h6) hn
          · rw [h1] at h3; cases h3
        · rcases h.b with ⟨_, h3⟩ | ⟨_, _, h3⟩
          · exact absurd (h3 j h6) hn
          · have := h3 j h6 hn
            grind
      · exact Rat.le_refl
    · rcases h.b with ⟨h3, _⟩ | ⟨_, ⟨k, h3, h4, h5⟩, h6⟩
      · rw [h1] at h3; cases h3
      · refine ⟨⟨k, by omega, h4, h5⟩, fun j hj hn => ?_⟩
        rcases Nat.lt_succ_iff_lt_or_eq.1 hj with h7 | rfl
        · exact h6 j h7 hn
        · exact h2
def encT (xs : List Raw) (p : Int) (i : Nat) (b : Bool × Bool × Rat) : St := match b.2.1 with | true => ctl_h8 xs p b.1 true i b.2.2 | false => ctl_hn xs p b.1 i
def outT (xs : List Raw) (p : Int) (b : Bool × Bool × Rat) : St := match b.2.1 with | true => ctl_o8a xs p b.1 true b.2.2 | false => ctl_on xs p b.1
theorem ct_law {xs : List Raw} {a : Int} (hx : ∀ r ∈ xs, LimR2 r) (hn : xs.length ≤ 100000000) (ha : 0 ≤ a ∧ a ≤ 255) : Con Tryz.prog 11 [.sl 3 (xs.map rawC), .lit (.int .u8 a)] (.lit (.bool true)) := by
  rcases outputs_c (n := 14) (xs := xs) with ⟨O, _⟩ | ⟨O, ho⟩ | h
  · exact ctl_con (n := 0) (ctl_f1 O rfl)
  rotate_left
  · omega
  have hp : PtR xs := ⟨ho.1, fun r hr => ⟨ho.2 r hr, hx r hr⟩⟩
  have hl := hp.l
  by_cases h0 : (xs.length : Int) = 0
  · exact ctl_con (n := 0) (ctl_f2 O rfl h0)
  obtain ⟨p, rfl⟩ := Int.eq_ofNat_of_zero_le ha.1
  have et : (p : Int).tmod (xs.length : Int) = ((p % xs.length : Nat) : Int) := (Int.ofNat_tmod p xs.length).symm
  have ht : p % xs.length < xs.length := Nat.mod_lt _ (by omega)
  generalize hT : p % xs.length = t at et ht
  have hD : ∀ j, j < xs.length → H (dif (xs.map Raw.q) t j) ≤ 6 := fun j hj => dif_H hp.h (by simpa using ht) (by simpa using hj)
  have hr : ∀ j r, xs[j]? = some r → (xs.map Raw.q).getD j 0 = r.q := fun j r h => by rw [List.getD_eq_getElem?_getD, List.getElem?_map, h]; rfl
  have hT5 : xs[((p : Int).tmod (xs.length : Int)).toNat]? = some xs[t] := by rw [et, Int.toNat_natCast]; exact List.getElem?_eq_getElem ht
  have hq5 := hr t xs[t] (List.getElem?_eq_getElem ht)
  have hb5 := hp.b xs[t] (List.getElem_mem ht)
  generalize xs[t] = x5 at hT5 hq5 hb5
  obtain ⟨⟨d, d2, s⟩, L, hI, _⟩ := loopG_R (β := Bool × Bool × Rat) (O := ctlT 0) (P := Tryz.prog) (m := 0) (N := 116) (lives := livesOf 11) (r := 8) (C := ctl_C8) (exN := .exit 0) (M := xs.length) (enc := encT xs (p : Int)) (out := outT xs (p : Int))
    (fun i b => TopI (dif (xs.map Raw.q) t) t i b.1 b.2.1 b.2.2 ∧ i ≤ xs.length) (true, false, 0) ⟨⟨⟨fun _ j hj => by omega, fun _ => rfl⟩, .inl ⟨rfl, fun j hj => by omega⟩⟩, by omega⟩ (by omega) (fun h => by cases h)
    (fun i b hi hI => by
      obtain ⟨d, d2, s⟩ := b
      obtain ⟨hI, _⟩ := hI
      dsimp only at hI
      have W : InI ((i : Int) + 1) := ⟨by omega, by omega⟩
      have C1 : (i : Int) < (xs.length : Int) := by omega
      by_cases e : i = t
      · cases d2 with
        | false => exact ⟨(d, false, s), ctl_n8_1 C1 (by rw [et, e]) W, hI.same e, hi⟩
        | true => exact ⟨(d, true, s), ctl_r8_1 C1 (by rw [et, e]) W, hI.same e, hi⟩
      · have h2 : ¬ (i : Int) = (p : Int).tmod (xs.length : Int) := by rw [et]; omega
        have h4 : xs[i]? = some xs[i] := List.getElem?_eq_getElem hi
        generalize xs[i] = x6 at h4
        have hb6 := hp.b x6 (List.mem_of_getElem? h4)
        have eD : dif (xs.map Raw.q) t i = x5.q - x6.q := by unfold dif; rw [hq5, hr i x6 h4]
        have hH := hD i hi
        rw [eD] at hH
        have Z3 : 0 ≤ (p : Int).tmod (xs.length : Int) := by rw [et]; omega
        have sg0 : decide (0 ≤ sgR (x5.q - x6.q)) = true ↔ (true = true ∧ 0 ≤ dif (xs.map Raw.q) t i) := by rw [eD, decide_eq_true_iff, sgq_nonneg]; simp
        have sgf : false = true ↔ (false = true ∧ 0 ≤ dif (xs.map Raw.q) t i) := by simp
        cases d2 with
        | false =>
          cases d with
          | true => exact ⟨(_, true, x5.q - x6.q), ctl_n8_2 C1 h2 hT5 Z3 h4 hb5 hb6 rfl (by omega) W, hI.next e sg0 (.inl ⟨eD.symm, .inl rfl⟩), hi⟩
          | false => exact ⟨(false, true, x5.q - x6.q), ctl_n8_5 C1 h2 hT5 Z3 h4 hb5 hb6 rfl W, hI.next e sgf (.inl ⟨eD.symm, .inl rfl⟩), hi⟩
        | true =>
          have hs : H s ≤ 6 := by
            rcases hI.b with ⟨h3, _⟩ | ⟨_, ⟨j, h3, _, h5⟩, _⟩
            · cases h3
            · rw [h5]; exact hD j (by omega)
          have hs2 : H s ≤ 17179869184 := by omega
          by_cases hc : sgR ((x5.q - x6.q) - s) < 0
          · have hlt : dif (xs.map Raw.q) t i < s := by rw [eD]; have := sg_neg.1 hc; grind
            cases d with
            | true => exact ⟨(_, true, x5.q - x6.q), ctl_r8_3 C1 h2 hT5 Z3 h4 hb5 hb6 rfl (by omega) rfl hs2 hc W, hI.next e sg0 (.inl ⟨eD.symm, .inr hlt⟩), hi⟩
            | false => exact ⟨(false, true, x5.q - x6.q), ctl_r8_6 C1 h2 hT5 Z3 h4 hb5 hb6 rfl rfl (by omega) hs2 hc W, hI.next e sgf (.inl ⟨eD.symm, .inr hlt⟩), hi⟩
          · have hge : s ≤ dif (xs.map Raw.q) t i := by
              rw [eD]
              have h10 : ¬ ((x5.q - x6.q) - s < 0) := fun h => hc (sg_neg.2 h)
              grind
            cases d with
            | true => exact ⟨(_, true, s), ctl_r8_4 C1 h2 hT5 Z3 h4 hb5 hb6 rfl (by omega) rfl hs2 hc W, hI.next e sg0 (.inr ⟨rfl, rfl, hge⟩), hi⟩
            | false => exact ⟨(false, true, s), ctl_r8_7 C1 h2 hT5 Z3 h4 hb5 hb6 rfl rfl (by omega) hs2 hc W, hI.next e sgf (.inr ⟨rfl, rfl, hge⟩), hi⟩)
    (fun b hI => by
      obtain ⟨d, d2, s⟩ := b
      cases d2 with
      | false => exact ctl_n8_x (by omega)
      | true => exact ctl_x8_1 (by omega))
  dsimp only at L hI
  obtain ⟨i, ok, A, hA⟩ := top_holds hp ht (m := 0) (by decide) (by decide)
  have A9 := A 9
  rw [topC_0, ← et] at A9
  have ed : ok = d := by
    rw [Bool.eq_iff_iff, hA, hI.a]
    exact ⟨fun h j hj hn => Rat.not_lt.1 (h j hj hn), fun h j hj hn => Rat.not_lt.2 (h j hj hn)⟩
  have W4 : InI (p : Int) := ⟨by omega, by omega⟩
  cases d2 with
  | false =>
    have hd : d = true := hI.a.2 fun j hj hn => by
      rcases hI.b with ⟨_, h3⟩ | ⟨h3, _⟩
      · exact absurd (h3 j hj) hn
      · cases h3
    exact ctl_con (n := 0) (ctl_f6 O rfl h0 W4 h0 L A9 rfl ed hd)
  | true =>
    cases hd : d with
    | false => exact ctl_con (n := 0) (ctl_f5 O rfl h0 W4 h0 L A9 rfl ed hd)
    | true =>
      rcases hI.b with ⟨h3, _⟩ | ⟨_, ⟨j, hj, hjn, hs⟩, hmin⟩
      · cases h3
      have hH := hD j hj
      rw [← hs] at hH
      have s0 : 0 ≤ s := by rw [hs]; exact hI.a.1 hd j hj hjn
      have h1 : H (ofQ 1) ≤ 1 := by decide +kernel
      have h3 := H_add s (ofQ 1)
      have o1 : ofQ 1 = 1 := of1
      obtain ⟨i2, ok2, B, hB⟩ := top_holds hp ht (m := s) (by omega) s0
      obtain ⟨i3, ok3, C, hC⟩ := top_holds hp ht (m := s + ofQ 1) (by omega) (by rw [o1]; grind)
      have B9 := B 9
      have C9 := C 9
      rw [topC_e, ← et] at B9 C9
      have e2 : ok2 = true := hB.2 fun k hk hn => Rat.not_lt.2 (hmin k hk hn)
      have e3 : ok3 = false := by
        cases h : ok3 with
        | false => rfl
        | true => exact absurd (show dif (xs.map Raw.q) t j < s + ofQ 1 by rw [← hs, o1]; grind) (hC.1 h j hj hjn)
      have R := ctl_f7 (n := 0) O rfl h0 W4 h0 L A9 rfl ed hd rfl B9 (show H s ≤ 17179869184 by omega) (by omega) C9 rfl e2
      rw [e3] at R
      exact ctl_con R
end Go.Proofs.YtjpoanaoaeaneaaGreatDoor
set_option linter.all false
namespace Go.Proofs.YtjpoanaoaeaneaaGreatDoor
open Go.ChangeShapes Go.WideShapes Go.RowKit Go.Deep
theorem ct_use (w : World) {v0 : Value} {xs : List Raw} {z : Int} {M : Nat} (hz : (Lit.int .u8 z).wf = true) (r0 : RepT w okT (.sl 3 (xs.map rawC)) v0) (k0 : okO_LRat M xs) (hM : M ≤ 1048576) (hG : Glob w okT) :
    Calls Tryz.prog 11 #[v0, .int .u8 z] w (RetB true w) :=
  (ct_law (okL_lim k0) (by have := k0.1; omega) (u8_of hz) w okT _ hG (rvs_cons r0 (rvs_cons (.lit _) rvs_nil))).mono fun _ _ h => true_end h
end Go.Proofs.YtjpoanaoaeaneaaGreatDoor
