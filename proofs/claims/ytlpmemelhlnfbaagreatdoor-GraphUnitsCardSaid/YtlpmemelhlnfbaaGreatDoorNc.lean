/- Walks: relucertlaw15.GraphUnits^. -/
import Derived.Test.YtlpmemelhlnfbaaGreatDoorUe
import Derived.Test.YtlpmemelhlnfbaaGreatDoorAX
set_option linter.all false
set_option linter.all false
set_option maxRecDepth 100000
set_option maxHeartbeats 6400000
namespace Go.Proofs.YtlpmemelhlnfbaaGreatDoor
open Go.RowKit

/-! relucertlaw15.GraphUnits, level 10 -/
noncomputable def gunT (n : Nat) : FuncId → Option Orc := ext (tab (n + 10)) 18 (.pure awG)
theorem gunT_ok (n : Nat) : OrcOk Tryz.prog (gunT n) := (tab_ok (n + 10)).extP (by kernel_rfl) con_awake
noncomputable def gun (n : Nat) (args : List AV) : Option AV := fnP Tryz.prog (gunT n) (livesOf 7) big (fnOf 7) args
theorem gun_con {n : Nat} {args : List AV} {r : AV} (h : gun n args = some r) : Con Tryz.prog 7 args r :=
  con_of (gunT_ok n) mixed (plain_fn (by kernel_rfl)) (body_some (by kernel_rfl) (plain_fn (by kernel_rfl))) h
theorem gun_aw (n : Nat) : gunT n 18 = some (.pure awG) := by unfold gunT ext; rw [if_pos rfl]
theorem gun_l20 (n : Nat) : gunT n 20 = some (.pure (run (n + 9) 20)) := by unfold gunT ext; rw [if_neg (by decide)]; exact tb_20 _
theorem gun_l27 (n : Nat) : gunT n 27 = some (.pure (run (n + 9) 27)) := by unfold gunT ext; rw [if_neg (by decide)]; exact tb_27 _
theorem gun_l32 (n : Nat) : gunT n 32 = some (.pure (run (n + 9) 32)) := by unfold gunT ext; rw [if_neg (by decide)]; exact tb_32 _
theorem gun_l33 (n : Nat) : gunT n 33 = some (.pure (run (n + 9) 33)) := by unfold gunT ext; rw [if_neg (by decide)]; exact tb_33 _
theorem gun_l39 (n : Nat) : gunT n 39 = some (.pure fSign) := by unfold gunT ext; rw [if_neg (by decide)]; exact tab_num rfl _
theorem gun_l40 (n : Nat) : gunT n 40 = some (.pure fCmp) := by unfold gunT ext; rw [if_neg (by decide)]; exact tab_num rfl _
noncomputable def gun_C12 : Code := (loopsOf (bodyOf Tryz.f7)).getD 0 .skip
def gun_h12 (r3 : List Rat) (r5 : List Rat) (i_12 : Nat) (r : TGraph) : St :=
  ⟨[(5, .ptr 0 0), (7, .sl 3 (r3.map ratC)), (9, .sl 3 (r5.map ratC)), (11, .lit (.int .i64 (i_12 : Int)))],
   [(0, some (.box 38 [.lit (.int .i64 (r.Inputs)), .sl 4 (r.Units.map formC), .sl 4 (r.Outputs.map formC)] false))], 1⟩
def gun_o12b  : St :=
  ⟨[(4, .any)],
   [], 0⟩
theorem gun_r12_1 {n : Nat} {i_12 : Nat} {r5 : List Rat} {r : TGraph} {r3 : List Rat} {x5 : Rat} {x6 : Rat} (C1 : (i_12 : Int) < (r5.length : Int)) (W2 : InI (r.Inputs + (i_12 : Int))) (E3 : r3[(r.Inputs + (i_12 : Int)).toNat]? = some x5) (Z3 : 0 ≤ r.Inputs + (i_12 : Int)) (B4a : H x5 ≤ 17179869184) (C5 : ¬ sgR x5 < 0) (E6 : r5[i_12]? = some x6) (B7b : H x6 ≤ 17179869184) (C8 : ¬ sgR (x5 - x6) < 0) (C10 : 0 < sgR x5) (C12 : sgR (x5 - x6) = 0) (W13 : InI ((i_12 : Int) + 1)) :
    Cont 0 (exec Tryz.prog (gunT n) 0 105 (livesOf 7) big gun_C12) (livesOf 7 12) (gun_h12 r3 r5 i_12 r) (gun_h12 r3 r5 (i_12 + 1) r) := by
  have C1_ : i_12 < r5.length := by omega
  have W2_ : IntKind.i64.wrap (r.Inputs + (i_12 : Int)) = r.Inputs + (i_12 : Int) := wr64 W2.1 W2.2
  obtain ⟨EL3, EG3⟩ := List.getElem?_eq_some_iff.1 E3
  have K4 := r_sign (p := x5) B4a
  obtain ⟨EL6, EG6⟩ := List.getElem?_eq_some_iff.1 E6
  have K7 := r_cmp (p := x5) (q := x6) B4a B7b
  have C12_ : (sgR (x5 - x6) == 0) = true := by rw [C12]; simp
  have C12_n : (sgR (x5 - x6) != 0) = false := by rw [C12]; simp
  have W13_ : IntKind.i64.wrap ((i_12 : Int) + 1) = (i_12 : Int) + 1 := wr64 W13.1 W13.2
  unfold Cont
  simp +decide [gun_h12, loopsOf, Tryz.f7, gun_C12, C1, C1_, W2_, EL3, EG3, E3, Z3, K4, C5, EL6, EG6, E6, K7, C8, C10, C12_, C12_n, W13_, gun_aw, awG, gun_l20, gun_l27, gun_l32, gun_l33, gun_l39, gun_l40]
theorem gun_r12_2 {n : Nat} {i_12 : Nat} {r5 : List Rat} {r : TGraph} {r3 : List Rat} {x5 : Rat} {x6 : Rat} (C1 : (i_12 : Int) < (r5.length : Int)) (W2 : InI (r.Inputs + (i_12 : Int))) (E3 : r3[(r.Inputs + (i_12 : Int)).toNat]? = some x5) (Z3 : 0 ≤ r.Inputs + (i_12 : Int)) (B4a : H x5 ≤ 17179869184) (C5 : ¬ sgR x5 < 0) (E6 : r5[i_12]? = some x6) (B7b : H x6 ≤ 17179869184) (C8 : ¬ sgR (x5 - x6) < 0) (C10 : ¬ 0 < sgR x5) (W11 : InI ((i_12 : Int) + 1)) :
    Cont 0 (exec Tryz.prog (gunT n) 0 105 (livesOf 7) big gun_C12) (livesOf 7 12) (gun_h12 r3 r5 i_12 r) (gun_h12 r3 r5 (i_12 + 1) r) := by
  have C1_ : i_12 < r5.length := by omega
  have W2_ : IntKind.i64.wrap (r.Inputs + (i_12 : Int)) = r.Inputs + (i_12 : Int) := wr64 W2.1 W2.2
  obtain ⟨EL3, EG3⟩ := List.getElem?_eq_some_iff.1 E3
  have K4 := r_sign (p := x5) B4a
  obtain ⟨EL6, EG6⟩ := List.getElem?_eq_some_iff.1 E6
  have K7 := r_cmp (p := x5) (q := x6) B4a B7b
  have W11_ : IntKind.i64.wrap ((i_12 : Int) + 1) = (i_12 : Int) + 1 := wr64 W11.1 W11.2
  unfold Cont
  simp +decide [gun_h12, loopsOf, Tryz.f7, gun_C12, C1, C1_, W2_, EL3, EG3, E3, Z3, K4, C5, EL6, EG6, E6, K7, C8, C10, W11_, gun_aw, awG, gun_l20, gun_l27, gun_l32, gun_l33, gun_l39, gun_l40]
theorem gun_x12_4 {n : Nat} {i_12 : Nat} {r5 : List Rat} {r3 : List Rat} {r : TGraph} (C1 : ¬ (i_12 : Int) < (r5.length : Int)) :
    Leave 0 (exec Tryz.prog (gunT n) 0 105 (livesOf 7) big gun_C12) (livesOf 7 (outOf 12)) (gun_h12 r3 r5 i_12 r) (.exit 0) (gun_o12b ) := by
  have C1_ : ¬ i_12 < r5.length := by omega
  unfold Leave
  simp +decide [gun_h12, loopsOf, Tryz.f7, gun_o12b, gun_C12, C1, C1_, gun_aw, awG, gun_l20, gun_l27, gun_l32, gun_l33, gun_l39, gun_l40]
theorem gun_f1 {n : Nat} {a0 : List Int} {a1 : List Int} (C1 : 400 < (a0.length : Int)) :
    gun n [.sl 1 (a0.map intU8C), .sl 1 (a1.map intU8C)] = some (.lit (.bool true)) := by
  have C1_ : 400 < a0.length := by omega
  unfold gun fnP
  simp +decide [Tryz.f7, C1, C1_, gun_aw, awG, gun_l20, gun_l27, gun_l32, gun_l33, gun_l39, gun_l40]
theorem gun_f2 {n : Nat} {a0 : List Int} {a1 : List Int} (C1 : ¬ 400 < (a0.length : Int)) (C2 : 40 < (a1.length : Int)) :
    gun n [.sl 1 (a0.map intU8C), .sl 1 (a1.map intU8C)] = some (.lit (.bool true)) := by
  have C1_ : ¬ 400 < a0.length := by omega
  have C2_ : 40 < a1.length := by omega
  unfold gun fnP
  simp +decide [Tryz.f7, C1, C1_, C2, C2_, gun_aw, awG, gun_l20, gun_l27, gun_l32, gun_l33, gun_l39, gun_l40]
theorem gun_f8 {n : Nat} {a0 : List Int} {a1 : List Int} {r : TGraph} {r2 : List Rat} {r3 : List Rat} {r4 : Int} {r5 : List Rat} {r6 : Int} (C1 : ¬ 400 < (a0.length : Int)) (C2 : ¬ 40 < (a1.length : Int)) (K3 : run (n + 9) 20 [.sl 1 (a0.map intU8C)] = some (graphV r)) (K4 : run (n + 9) 27 [.sl 1 (a1.map intU8C), .lit (.int .i64 (r.Inputs))] = some (.sl 3 (r2.map ratC))) (K5 : run (n + 9) 32 [graphV r, .sl 3 (r2.map ratC)] = some (.tup [.sl 3 (r3.map ratC), .lit (.int .i64 r4)])) (K6 : run (n + 9) 33 [graphV r, .sl 3 (r2.map ratC)] = some (.tup [.sl 3 (r5.map ratC), .lit (.int .i64 r6)])) (C7 : r4 = 0) (C8 : r6 = 0) (W9 : InI (r.Inputs + (r.Units.length : Int))) (C10 : (r3.length : Int) = r.Inputs + (r.Units.length : Int)) (C11 : (r5.length : Int) = (r.Units.length : Int)) (L12 : loopG Tryz.prog (gunT n) 0 105 (livesOf 7) 12 gun_C12 (gun_h12 r3 r5 0 r) = some (.exit 0, gun_o12b )) :
    gun n [.sl 1 (a0.map intU8C), .sl 1 (a1.map intU8C)] = some (.lit (.bool true)) := by
  have C1_ : ¬ 400 < a0.length := by omega
  have C2_ : ¬ 40 < a1.length := by omega
  simp only [graphV] at K3
  simp only [graphV] at K5
  simp only [graphV] at K6
  have C7_ : (r4 == 0) = true := by rw [C7]; simp
  have C7_n : (r4 != 0) = false := by rw [C7]; simp
  have C8_ : (r6 == 0) = true := by rw [C8]; simp
  have C8_n : (r6 != 0) = false := by rw [C8]; simp
  have W9_ : IntKind.i64.wrap (r.Inputs + (r.Units.length : Int)) = r.Inputs + (r.Units.length : Int) := wr64 W9.1 W9.2
  have C10_ : ((r3.length : Int) == r.Inputs + (r.Units.length : Int)) = true := by rw [C10]; simp
  have C10_n : ((r3.length : Int) != r.Inputs + (r.Units.length : Int)) = false := by rw [C10]; simp
  have C11_ : ((r5.length : Int) == (r.Units.length : Int)) = true := by rw [C11]; simp
  have C11_n : ((r5.length : Int) != (r.Units.length : Int)) = false := by rw [C11]; simp
  unfold gun fnP
  simp +decide [Tryz.f7, C1, C1_, C2, C2_, K3, K4, K5, K6, C7_, C7_n, C8_, C8_n, W9_, C10_, C10_n, C11_, C11_n, gun_aw, awG, gun_l20, gun_l27, gun_l32, gun_l33, gun_l39, gun_l40]
  rw [loopX_G (C' := gun_C12) (e := (gun_h12 r3 r5 0 r)) ?_ ?_, L12]
  rotate_left
  · kernel_rfl
  · simp +decide [gun_h12, C1, C1_, C2, C2_, K3, K4, K5, K6, C7_, C7_n, C8_, C8_n, W9_, C10_, C10_n, C11_, C11_n, gun_aw, awG, gun_l20, gun_l27, gun_l32, gun_l33, gun_l39, gun_l40]
  simp +decide [gun_o12b, C1, C1_, C2, C2_, K3, K4, K5, K6, C7_, C7_n, C8_, C8_n, W9_, C10_, C10_n, C11_, C11_n, gun_aw, awG, gun_l20, gun_l27, gun_l32, gun_l33, gun_l39, gun_l40]
end Go.Proofs.YtlpmemelhlnfbaaGreatDoor
