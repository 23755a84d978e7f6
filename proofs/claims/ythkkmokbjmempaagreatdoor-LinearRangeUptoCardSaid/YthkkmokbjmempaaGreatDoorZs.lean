/- Walks: relucertlaw07.LinearRange^. -/
import Derived.Test.YthkkmokbjmempaaGreatDoorUe
import Derived.Test.YthkkmokbjmempaaGreatDoorAX
import Derived.Test.YthkkmokbjmempaaGreatDoorUg
set_option linter.all false
set_option linter.all false
set_option maxRecDepth 100000
set_option maxHeartbeats 6400000
namespace Go.Proofs.YthkkmokbjmempaaGreatDoor
open Go.RowKit

/-! relucertlaw07.LinearRange, level 13 -/
noncomputable def lRCT (n : Nat) : FuncId → Option Orc := ext (tab (n + 13)) 16 (.pure awG)
theorem lRCT_ok (n : Nat) : OrcOk Tryz.prog (lRCT n) := (tab_ok (n + 13)).extP (by kernel_rfl) con_awake
noncomputable def lRC (n : Nat) (args : List AV) : Option AV := fnP Tryz.prog (lRCT n) (livesOf 9) big (fnOf 9) args
theorem lRC_con {n : Nat} {args : List AV} {r : AV} (h : lRC n args = some r) : Con Tryz.prog 9 args r :=
  con_of (lRCT_ok n) mixed (plain_fn (by kernel_rfl)) (body_some (by kernel_rfl) (plain_fn (by kernel_rfl))) h
theorem lRC_aw (n : Nat) : lRCT n 16 = some (.pure awG) := by unfold lRCT ext; rw [if_pos rfl]
theorem lRC_l17 (n : Nat) : lRCT n 17 = some (.pure (run (n + 12) 17)) := by unfold lRCT ext; rw [if_neg (by decide)]; exact tb_17 _
theorem lRC_l28 (n : Nat) : lRCT n 28 = some (.pure (run (n + 12) 28)) := by unfold lRCT ext; rw [if_neg (by decide)]; exact tb_28 _
theorem lRC_l30 (n : Nat) : lRCT n 30 = some (.pure fSame) := by unfold lRCT ext; rw [if_neg (by decide)]; exact tab_num rfl _
theorem lRC_l40 (n : Nat) : lRCT n 40 = some (.pure (run (n + 12) 40)) := by unfold lRCT ext; rw [if_neg (by decide)]; exact tb_40 _
theorem lRC_l41 (n : Nat) : lRCT n 41 = some (.pure (run (n + 12) 41)) := by unfold lRCT ext; rw [if_neg (by decide)]; exact tb_41 _
theorem lRC_l42 (n : Nat) : lRCT n 42 = some (.pure (run (n + 12) 42)) := by unfold lRCT ext; rw [if_neg (by decide)]; exact tb_42 _
theorem lRC_l43 (n : Nat) : lRCT n 43 = some (.pure fCmp) := by unfold lRCT ext; rw [if_neg (by decide)]; exact tab_num rfl _
noncomputable def lRC_C13 : Code := (loopsOf (bodyOf Tryz.f9)).getD 0 .skip
noncomputable def lRC_C17 : Code := (loopsOf lRC_C13).getD 0 .skip
def lRC_h17 (a0 : Form) (a1 : List TInterval) (d_13 : Bool) (d2_13 : Bool) (i_13 : Nat) (out_17 : List Rat) (i_17 : Nat) (r3 : TInterval) : St :=
  ⟨[(1, .sl 6 (a1.map intervalC)), (2, .ptr 0 0), (5, .ptr 1 0), (9, .lit (.bool d_13)), (10, .lit (.bool d2_13)), (11, .lit (.int .i64 (i_13 : Int))), (12, .own 2 out_17.length), (13, .lit (.int .i64 (i_17 : Int)))],
   [(0, some (.box 29 [.sl 4 (a0.1.map termC), .lit (.bool (rawQ a0.2).s), natA (rawQ a0.2).l1, natA (rawQ a0.2).l2] false)),
    (1, some (.box 58 [.lit (.bool (rawQ r3.Lo).s), natA (rawQ r3.Lo).l1, natA (rawQ r3.Lo).l2, .lit (.bool (rawQ r3.Hi).s), natA (rawQ r3.Hi).l1, natA (rawQ r3.Hi).l2] false)),
    (2, some (.row 27 3 (out_17.map ratC) 0))], 3⟩
def lRC_h13 (a0 : Form) (a1 : List TInterval) (d_13 : Bool) (d2_13 : Bool) (i_13 : Nat) (r3 : TInterval) : St :=
  ⟨[(1, .sl 6 (a1.map intervalC)), (2, .ptr 0 0), (5, .ptr 1 0), (9, .lit (.bool d_13)), (10, .lit (.bool d2_13)), (11, .lit (.int .i64 (i_13 : Int)))],
   [(0, some (.box 29 [.sl 4 (a0.1.map termC), .lit (.bool (rawQ a0.2).s), natA (rawQ a0.2).l1, natA (rawQ a0.2).l2] false)),
    (1, some (.box 58 [.lit (.bool (rawQ r3.Lo).s), natA (rawQ r3.Lo).l1, natA (rawQ r3.Lo).l2, .lit (.bool (rawQ r3.Hi).s), natA (rawQ r3.Hi).l1, natA (rawQ r3.Hi).l2] false))], 2⟩
def lRC_o17a (a0 : Form) (a1 : List TInterval) (d_13 : Bool) (d2_13 : Bool) (i_13 : Nat) (out_17 : List Rat) (r3 : TInterval) : St :=
  ⟨[(1, .sl 6 (a1.map intervalC)), (2, .ptr 0 0), (5, .ptr 1 0), (9, .lit (.bool d_13)), (10, .lit (.bool d2_13)), (11, .lit (.int .i64 (i_13 : Int))), (12, .own 2 out_17.length)],
   [(0, some (.box 29 [.sl 4 (a0.1.map termC), .lit (.bool (rawQ a0.2).s), natA (rawQ a0.2).l1, natA (rawQ a0.2).l2] false)),
    (1, some (.box 58 [.lit (.bool (rawQ r3.Lo).s), natA (rawQ r3.Lo).l1, natA (rawQ r3.Lo).l2, .lit (.bool (rawQ r3.Hi).s), natA (rawQ r3.Hi).l1, natA (rawQ r3.Hi).l2] false)),
    (2, some (.row 27 3 (out_17.map ratC) 0))], 3⟩
def lRC_o13a (d_13 : Bool) (d2_13 : Bool) : St :=
  ⟨[(4, .lit (.bool false)), (9, .lit (.bool d_13)), (10, .lit (.bool d2_13))],
   [], 0⟩
def lRC_o13b (d_13 : Bool) (d2_13 : Bool) : St :=
  ⟨[(4, .any), (9, .lit (.bool d_13)), (10, .lit (.bool d2_13))],
   [], 0⟩
theorem lRC_r17_1 {n : Nat} {a0 : Form} {a1 : List TInterval} {i_17 : Nat} {i_13 : Nat} {x17 : TInterval} {out_17 : List Rat} {d_13 : Bool} {d2_13 : Bool} {r3 : TInterval} (C1 : (i_17 : Int) < (a1.length : Int)) (C4 : (andI ((shrI (i_13 : Int) (i_17 : Int))) 1) = 0) (E5 : a1[i_17]? = some x17) (M6 : out_17.length + 1 ≤ 100000000) (W7 : InI ((i_17 : Int) + 1)) :
    Cont 0 (exec Tryz.prog (lRCT n) 0 134 (livesOf 9) big lRC_C17) (livesOf 9 17) (lRC_h17 a0 a1 d_13 d2_13 i_13 out_17 i_17 r3) (lRC_h17 a0 a1 d_13 d2_13 i_13 (out_17 ++ [x17.Lo]) (i_17 + 1) r3) := by
  have C1_ : i_17 < a1.length := by omega
  have O2 : ¬ (((i_17 : Int) : Int) < 0) := by omega
  have C4_ : ((andI ((shrI (i_13 : Int) (i_17 : Int))) 1) == 0) = true := by rw [C4]; simp
  have C4_n : ((andI ((shrI (i_13 : Int) (i_17 : Int))) 1) != 0) = false := by rw [C4]; simp
  simp only [andI, shrI, shlI, Int.toNat_natCast, Int.one_mul] at C4_
  simp only [andI, shrI, shlI, Int.toNat_natCast, Int.one_mul] at C4_n
  obtain ⟨EL5, EG5⟩ := List.getElem?_eq_some_iff.1 E5
  have M6_ : ∀ b, b ≤ 10000 → roomy (out_17.length + 1) b = true := fun b hb => roomy_s M6 hb
  have W7_ : IntKind.i64.wrap ((i_17 : Int) + 1) = (i_17 : Int) + 1 := wr64 W7.1 W7.2
  unfold Cont
  simp +decide [lRC_h17, loopsOf, Tryz.f9, lRC_C13, lRC_C17, C1, C1_, O2, C4_, C4_n, EL5, EG5, E5, M6_, W7_, lRC_aw, awG, lRC_l17, lRC_l28, lRC_l30, lRC_l40, lRC_l41, lRC_l42, lRC_l43]
theorem lRC_r17_2 {n : Nat} {a0 : Form} {a1 : List TInterval} {i_17 : Nat} {i_13 : Nat} {x18 : TInterval} {out_17 : List Rat} {d_13 : Bool} {d2_13 : Bool} {r3 : TInterval} (C1 : (i_17 : Int) < (a1.length : Int)) (C4 : ¬ (andI ((shrI (i_13 : Int) (i_17 : Int))) 1) = 0) (E5 : a1[i_17]? = some x18) (M6 : out_17.length + 1 ≤ 100000000) (W7 : InI ((i_17 : Int) + 1)) :
    Cont 0 (exec Tryz.prog (lRCT n) 0 134 (livesOf 9) big lRC_C17) (livesOf 9 17) (lRC_h17 a0 a1 d_13 d2_13 i_13 out_17 i_17 r3) (lRC_h17 a0 a1 d_13 d2_13 i_13 (out_17 ++ [x18.Hi]) (i_17 + 1) r3) := by
  have C1_ : i_17 < a1.length := by omega
  have O2 : ¬ (((i_17 : Int) : Int) < 0) := by omega
  have C4_ : ((andI ((shrI (i_13 : Int) (i_17 : Int))) 1) == 0) = false := by simpa using C4
  have C4_n : ((andI ((shrI (i_13 : Int) (i_17 : Int))) 1) != 0) = true := by simpa using C4
  simp only [andI, shrI, shlI, Int.toNat_natCast, Int.one_mul] at C4_
  simp only [andI, shrI, shlI, Int.toNat_natCast, Int.one_mul] at C4_n
  obtain ⟨EL5, EG5⟩ := List.getElem?_eq_some_iff.1 E5
  have M6_ : ∀ b, b ≤ 10000 → roomy (out_17.length + 1) b = true := fun b hb => roomy_s M6 hb
  have W7_ : IntKind.i64.wrap ((i_17 : Int) + 1) = (i_17 : Int) + 1 := wr64 W7.1 W7.2
  unfold Cont
  simp +decide [lRC_h17, loopsOf, Tryz.f9, lRC_C13, lRC_C17, C1, C1_, O2, C4_, C4_n, EL5, EG5, E5, M6_, W7_, lRC_aw, awG, lRC_l17, lRC_l28, lRC_l30, lRC_l40, lRC_l41, lRC_l42, lRC_l43]
theorem lRC_x17_1 {n : Nat} {a0 : Form} {a1 : List TInterval} {i_17 : Nat} {d_13 : Bool} {d2_13 : Bool} {i_13 : Nat} {out_17 : List Rat} {r3 : TInterval} (C1 : ¬ (i_17 : Int) < (a1.length : Int)) :
    Leave 0 (exec Tryz.prog (lRCT n) 0 134 (livesOf 9) big lRC_C17) (livesOf 9 (outOf 17)) (lRC_h17 a0 a1 d_13 d2_13 i_13 out_17 i_17 r3) (.exit 2) (lRC_o17a a0 a1 d_13 d2_13 i_13 out_17 r3) := by
  have C1_ : ¬ i_17 < a1.length := by omega
  unfold Leave
  simp +decide [lRC_h17, loopsOf, Tryz.f9, lRC_o17a, lRC_C13, lRC_C17, C1, C1_, lRC_aw, awG, lRC_l17, lRC_l28, lRC_l30, lRC_l40, lRC_l41, lRC_l42, lRC_l43]
theorem lRC_r13_1 {n : Nat} {a0 : Form} {a1 : List TInterval} {i_13 : Nat} {d_13 : Bool} {d2_13 : Bool} {r3 : TInterval} {out_17 : List Rat} {r11 : Rat} {r12 : Int} (C2 : (i_13 : Int) < (shlI 1 (a1.length : Int))) (L3 : loopG Tryz.prog (lRCT n) 0 134 (livesOf 9) 17 lRC_C17 (lRC_h17 a0 a1 d_13 d2_13 i_13 [] 0 r3) = some (.exit 2, lRC_o17a a0 a1 d_13 d2_13 i_13 out_17 r3)) (K4 : run (n + 12) 28 [formV a0, .sl 3 (out_17.map ratC)] = some (.tup [ratV r11, .lit (.int .i64 r12)])) (B5a : H r11 ≤ 17179869184) (B5b : H r3.Lo ≤ 17179869184) (C6 : ¬ sgR (r11 - r3.Lo) < 0) (B7b : H r3.Hi ≤ 17179869184) (C8 : ¬ 0 < sgR (r11 - r3.Hi)) (C9 : d_13 = true) (C10 : d2_13 = true) (W11 : InI ((i_13 : Int) + 1)) :
    Cont 0 (exec Tryz.prog (lRCT n) 0 134 (livesOf 9) big lRC_C13) (livesOf 9 13) (lRC_h13 a0 a1 d_13 d2_13 i_13 r3) (lRC_h13 a0 a1 true true (i_13 + 1) r3) := by
  have O1 : ¬ (((a1.length : Int) : Int) < 0) := by omega
  have C2_s := C2
  simp only [andI, shrI, shlI, Int.toNat_natCast, Int.one_mul] at C2_s
  simp only [ratV, formV] at K4
  have K5 := r_cmp (p := r11) (q := r3.Lo) B5a B5b
  have K7 := r_cmp (p := r11) (q := r3.Hi) B5a B7b
  have W11_ : IntKind.i64.wrap ((i_13 : Int) + 1) = (i_13 : Int) + 1 := wr64 W11.1 W11.2
  unfold Cont
  simp +decide [lRC_h13, loopsOf, Tryz.f9, lRC_C13, O1, C2_s, K4, K5, C6, K7, C8, C9, C10, W11_, lRC_aw, awG, lRC_l17, lRC_l28, lRC_l30, lRC_l40, lRC_l41, lRC_l42, lRC_l43]
  rw [loopX_G (C' := lRC_C17) (e := (lRC_h17 a0 a1 d_13 d2_13 i_13 [] 0 r3)) ?_ ?_, L3]
  rotate_left
  · kernel_rfl
  · simp +decide [lRC_h17, loopsOf, Tryz.f9, lRC_C13, O1, C2_s, K4, K5, C6, K7, C8, C9, C10, W11_, lRC_aw, awG, lRC_l17, lRC_l28, lRC_l30, lRC_l40, lRC_l41, lRC_l42, lRC_l43]
  simp +decide [lRC_o17a, loopsOf, Tryz.f9, lRC_C13, O1, C2_s, K4, K5, C6, K7, C8, C9, C10, W11_, lRC_aw, awG, lRC_l17, lRC_l28, lRC_l30, lRC_l40, lRC_l41, lRC_l42, lRC_l43]
theorem lRC_r13_2 {n : Nat} {a0 : Form} {a1 : List TInterval} {i_13 : Nat} {d_13 : Bool} {d2_13 : Bool} {r3 : TInterval} {out_17 : List Rat} {r11 : Rat} {r12 : Int} (C2 : (i_13 : Int) < (shlI 1 (a1.length : Int))) (L3 : loopG Tryz.prog (lRCT n) 0 134 (livesOf 9) 17 lRC_C17 (lRC_h17 a0 a1 d_13 d2_13 i_13 [] 0 r3) = some (.exit 2, lRC_o17a a0 a1 d_13 d2_13 i_13 out_17 r3)) (K4 : run (n + 12) 28 [formV a0, .sl 3 (out_17.map ratC)] = some (.tup [ratV r11, .lit (.int .i64 r12)])) (B5a : H r11 ≤ 17179869184) (B5b : H r3.Lo ≤ 17179869184) (C6 : ¬ sgR (r11 - r3.Lo) < 0) (B7b : H r3.Hi ≤ 17179869184) (C8 : ¬ 0 < sgR (r11 - r3.Hi)) (C9 : d_13 = true) (C10 : d2_13 = false) (W12 : InI ((i_13 : Int) + 1)) :
    Cont 0 (exec Tryz.prog (lRCT n) 0 134 (livesOf 9) big lRC_C13) (livesOf 9 13) (lRC_h13 a0 a1 d_13 d2_13 i_13 r3) (lRC_h13 a0 a1 true (decide (r11 = r3.Hi)) (i_13 + 1) r3) := by
  have O1 : ¬ (((a1.length : Int) : Int) < 0) := by omega
  have C2_s := C2
  simp only [andI, shrI, shlI, Int.toNat_natCast, Int.one_mul] at C2_s
  simp only [ratV, formV] at K4
  have K5 := r_cmp (p := r11) (q := r3.Lo) B5a B5b
  have K7 := r_cmp (p := r11) (q := r3.Hi) B5a B7b
  have K11 := r_same (p := r11) (q := r3.Hi) B5a B7b
  have W12_ : IntKind.i64.wrap ((i_13 : Int) + 1) = (i_13 : Int) + 1 := wr64 W12.1 W12.2
  unfold Cont
  simp +decide [lRC_h13, loopsOf, Tryz.f9, lRC_C13, O1, C2_s, K4, K5, C6, K7, C8, C9, C10, K11, W12_, lRC_aw, awG, lRC_l17, lRC_l28, lRC_l30, lRC_l40, lRC_l41, lRC_l42, lRC_l43]
  rw [loopX_G (C' := lRC_C17) (e := (lRC_h17 a0 a1 d_13 d2_13 i_13 [] 0 r3)) ?_ ?_, L3]
  rotate_left
  · kernel_rfl
  · simp +decide [lRC_h17, loopsOf, Tryz.f9, lRC_C13, O1, C2_s, K4, K5, C6, K7, C8, C9, C10, K11, W12_, lRC_aw, awG, lRC_l17, lRC_l28, lRC_l30, lRC_l40, lRC_l41, lRC_l42, lRC_l43]
  simp +decide [lRC_o17a, loopsOf, Tryz.f9, lRC_C13, O1, C2_s, K4, K5, C6, K7, C8, C9, C10, K11, W12_, lRC_aw, awG, lRC_l17, lRC_l28, lRC_l30, lRC_l40, lRC_l41, lRC_l42, lRC_l43]
theorem lRC_r13_3 {n : Nat} {a0 : Form} {a1 : List TInterval} {i_13 : Nat} {d_13 : Bool} {d2_13 : Bool} {r3 : TInterval} {out_17 : List Rat} {r11 : Rat} {r12 : Int} (C2 : (i_13 : Int) < (shlI 1 (a1.length : Int))) (L3 : loopG Tryz.prog (lRCT n) 0 134 (livesOf 9) 17 lRC_C17 (lRC_h17 a0 a1 d_13 d2_13 i_13 [] 0 r3) = some (.exit 2, lRC_o17a a0 a1 d_13 d2_13 i_13 out_17 r3)) (K4 : run (n + 12) 28 [formV a0, .sl 3 (out_17.map ratC)] = some (.tup [ratV r11, .lit (.int .i64 r12)])) (B5a : H r11 ≤ 17179869184) (B5b : H r3.Lo ≤ 17179869184) (C6 : ¬ sgR (r11 - r3.Lo) < 0) (B7b : H r3.Hi ≤ 17179869184) (C8 : ¬ 0 < sgR (r11 - r3.Hi)) (C9 : d_13 = false) (C11 : d2_13 = true) (W12 : InI ((i_13 : Int) + 1)) :
    Cont 0 (exec Tryz.prog (lRCT n) 0 134 (livesOf 9) big lRC_C13) (livesOf 9 13) (lRC_h13 a0 a1 d_13 d2_13 i_13 r3) (lRC_h13 a0 a1 (decide (r11 = r3.Lo)) true (i_13 + 1) r3) := by
  have O1 : ¬ (((a1.length : Int) : Int) < 0) := by omega
  have C2_s := C2
  simp only [andI, shrI, shlI, Int.toNat_natCast, Int.one_mul] at C2_s
  simp only [ratV, formV] at K4
  have K5 := r_cmp (p := r11) (q := r3.Lo) B5a B5b
  have K7 := r_cmp (p := r11) (q := r3.Hi) B5a B7b
  have K10 := r_same (p := r11) (q := r3.Lo) B5a B5b
  have W12_ : IntKind.i64.wrap ((i_13 : Int) + 1) = (i_13 : Int) + 1 := wr64 W12.1 W12.2
  unfold Cont
  simp +decide [lRC_h13, loopsOf, Tryz.f9, lRC_C13, O1, C2_s, K4, K5, C6, K7, C8, C9, K10, C11, W12_, lRC_aw, awG, lRC_l17, lRC_l28, lRC_l30, lRC_l40, lRC_l41, lRC_l42, lRC_l43]
  rw [loopX_G (C' := lRC_C17) (e := (lRC_h17 a0 a1 d_13 d2_13 i_13 [] 0 r3)) ?_ ?_, L3]
  rotate_left
  · kernel_rfl
  · simp +decide [lRC_h17, loopsOf, Tryz.f9, lRC_C13, O1, C2_s, K4, K5, C6, K7, C8, C9, K10, C11, W12_, lRC_aw, awG, lRC_l17, lRC_l28, lRC_l30, lRC_l40, lRC_l41, lRC_l42, lRC_l43]
  simp +decide [lRC_o17a, loopsOf, Tryz.f9, lRC_C13, O1, C2_s, K4, K5, C6, K7, C8, C9, K10, C11, W12_, lRC_aw, awG, lRC_l17, lRC_l28, lRC_l30, lRC_l40, lRC_l41, lRC_l42, lRC_l43]
theorem lRC_r13_4 {n : Nat} {a0 : Form} {a1 : List TInterval} {i_13 : Nat} {d_13 : Bool} {d2_13 : Bool} {r3 : TInterval} {out_17 : List Rat} {r11 : Rat} {r12 : Int} (C2 : (i_13 : Int) < (shlI 1 (a1.length : Int))) (L3 : loopG Tryz.prog (lRCT n) 0 134 (livesOf 9) 17 lRC_C17 (lRC_h17 a0 a1 d_13 d2_13 i_13 [] 0 r3) = some (.exit 2, lRC_o17a a0 a1 d_13 d2_13 i_13 out_17 r3)) (K4 : run (n + 12) 28 [formV a0, .sl 3 (out_17.map ratC)] = some (.tup [ratV r11, .lit (.int .i64 r12)])) (B5a : H r11 ≤ 17179869184) (B5b : H r3.Lo ≤ 17179869184) (C6 : ¬ sgR (r11 - r3.Lo) < 0) (B7b : H r3.Hi ≤ 17179869184) (C8 : ¬ 0 < sgR (r11 - r3.Hi)) (C9 : d_13 = false) (C11 : d2_13 = false) (W13 : InI ((i_13 : Int) + 1)) :
    Cont 0 (exec Tryz.prog (lRCT n) 0 134 (livesOf 9) big lRC_C13) (livesOf 9 13) (lRC_h13 a0 a1 d_13 d2_13 i_13 r3) (lRC_h13 a0 a1 (decide (r11 = r3.Lo)) (decide (r11 = r3.Hi)) (i_13 + 1) r3) := by
  have O1 : ¬ (((a1.length : Int) : Int) < 0) := by omega
  have C2_s := C2
  simp only [andI, shrI, shlI, Int.toNat_natCast, Int.one_mul] at C2_s
  simp only [ratV, formV] at K4
  have K5 := r_cmp (p := r11) (q := r3.Lo) B5a B5b
  have K7 := r_cmp (p := r11) (q := r3.Hi) B5a B7b
  have K10 := r_same (p := r11) (q := r3.Lo) B5a B5b
  have K12 := r_same (p := r11) (q := r3.Hi) B5a B7b
  have W13_ : IntKind.i64.wrap ((i_13 : Int) + 1) = (i_13 : Int) + 1 := wr64 W13.1 W13.2
  unfold Cont
  simp +decide [lRC_h13, loopsOf, Tryz.f9, lRC_C13, O1, C2_s, K4, K5, C6, K7, C8, C9, K10, C11, K12, W13_, lRC_aw, awG, lRC_l17, lRC_l28, lRC_l30, lRC_l40, lRC_l41, lRC_l42, lRC_l43]
  rw [loopX_G (C' := lRC_C17) (e := (lRC_h17 a0 a1 d_13 d2_13 i_13 [] 0 r3)) ?_ ?_, L3]
  rotate_left
  · kernel_rfl
  · simp +decide [lRC_h17, loopsOf, Tryz.f9, lRC_C13, O1, C2_s, K4, K5, C6, K7, C8, C9, K10, C11, K12, W13_, lRC_aw, awG, lRC_l17, lRC_l28, lRC_l30, lRC_l40, lRC_l41, lRC_l42, lRC_l43]
  simp +decide [lRC_o17a, loopsOf, Tryz.f9, lRC_C13, O1, C2_s, K4, K5, C6, K7, C8, C9, K10, C11, K12, W13_, lRC_aw, awG, lRC_l17, lRC_l28, lRC_l30, lRC_l40, lRC_l41, lRC_l42, lRC_l43]
theorem lRC_x13_1 {n : Nat} {a0 : Form} {a1 : List TInterval} {i_13 : Nat} {d_13 : Bool} {d2_13 : Bool} {r3 : TInterval} {out_17 : List Rat} {r11 : Rat} {r12 : Int} (C2 : (i_13 : Int) < (shlI 1 (a1.length : Int))) (L3 : loopG Tryz.prog (lRCT n) 0 134 (livesOf 9) 17 lRC_C17 (lRC_h17 a0 a1 d_13 d2_13 i_13 [] 0 r3) = some (.exit 2, lRC_o17a a0 a1 d_13 d2_13 i_13 out_17 r3)) (K4 : run (n + 12) 28 [formV a0, .sl 3 (out_17.map ratC)] = some (.tup [ratV r11, .lit (.int .i64 r12)])) (B5a : H r11 ≤ 17179869184) (B5b : H r3.Lo ≤ 17179869184) (C6 : sgR (r11 - r3.Lo) < 0) :
    Leave 0 (exec Tryz.prog (lRCT n) 0 134 (livesOf 9) big lRC_C13) (livesOf 9 (outOf 13)) (lRC_h13 a0 a1 d_13 d2_13 i_13 r3) (.ret) (lRC_o13a d_13 d2_13) := by
  have O1 : ¬ (((a1.length : Int) : Int) < 0) := by omega
  have C2_s := C2
  simp only [andI, shrI, shlI, Int.toNat_natCast, Int.one_mul] at C2_s
  simp only [ratV, formV] at K4
  have K5 := r_cmp (p := r11) (q := r3.Lo) B5a B5b
  unfold Leave
  simp +decide [lRC_h13, loopsOf, Tryz.f9, lRC_o13a, lRC_C13, O1, C2_s, K4, K5, C6, lRC_aw, awG, lRC_l17, lRC_l28, lRC_l30, lRC_l40, lRC_l41, lRC_l42, lRC_l43]
  rw [loopX_G (C' := lRC_C17) (e := (lRC_h17 a0 a1 d_13 d2_13 i_13 [] 0 r3)) ?_ ?_, L3]
  rotate_left
  · kernel_rfl
  · simp +decide [lRC_h17, loopsOf, Tryz.f9, lRC_o13a, lRC_C13, O1, C2_s, K4, K5, C6, lRC_aw, awG, lRC_l17, lRC_l28, lRC_l30, lRC_l40, lRC_l41, lRC_l42, lRC_l43]
  simp +decide [lRC_o17a, loopsOf, Tryz.f9, lRC_o13a, lRC_C13, O1, C2_s, K4, K5, C6, lRC_aw, awG, lRC_l17, lRC_l28, lRC_l30, lRC_l40, lRC_l41, lRC_l42, lRC_l43]
theorem lRC_x13_2 {n : Nat} {a0 : Form} {a1 : List TInterval} {i_13 : Nat} {d_13 : Bool} {d2_13 : Bool} {r3 : TInterval} {out_17 : List Rat} {r11 : Rat} {r12 : Int} (C2 : (i_13 : Int) < (shlI 1 (a1.length : Int))) (L3 : loopG Tryz.prog (lRCT n) 0 134 (livesOf 9) 17 lRC_C17 (lRC_h17 a0 a1 d_13 d2_13 i_13 [] 0 r3) = some (.exit 2, lRC_o17a a0 a1 d_13 d2_13 i_13 out_17 r3)) (K4 : run (n + 12) 28 [formV a0, .sl 3 (out_17.map ratC)] = some (.tup [ratV r11, .lit (.int .i64 r12)])) (B5a : H r11 ≤ 17179869184) (B5b : H r3.Lo ≤ 17179869184) (C6 : ¬ sgR (r11 - r3.Lo) < 0) (B7b : H r3.Hi ≤ 17179869184) (C8 : 0 < sgR (r11 - r3.Hi)) :
    Leave 0 (exec Tryz.prog (lRCT n) 0 134 (livesOf 9) big lRC_C13) (livesOf 9 (outOf 13)) (lRC_h13 a0 a1 d_13 d2_13 i_13 r3) (.ret) (lRC_o13a d_13 d2_13) := by
  have O1 : ¬ (((a1.length : Int) : Int) < 0) := by omega
  have C2_s := C2
  simp only [andI, shrI, shlI, Int.toNat_natCast, Int.one_mul] at C2_s
  simp only [ratV, formV] at K4
  have K5 := r_cmp (p := r11) (q := r3.Lo) B5a B5b
  have K7 := r_cmp (p := r11) (q := r3.Hi) B5a B7b
  unfold Leave
  simp +decide [lRC_h13, loopsOf, Tryz.f9, lRC_o13a, lRC_C13, O1, C2_s, K4, K5, C6, K7, C8, lRC_aw, awG, lRC_l17, lRC_l28, lRC_l30, lRC_l40, lRC_l41, lRC_l42, lRC_l43]
  rw [loopX_G (C' := lRC_C17) (e := (lRC_h17 a0 a1 d_13 d2_13 i_13 [] 0 r3)) ?_ ?_, L3]
  rotate_left
  · kernel_rfl
  · simp +decide [lRC_h17, loopsOf, Tryz.f9, lRC_o13a, lRC_C13, O1, C2_s, K4, K5, C6, K7, C8, lRC_aw, awG, lRC_l17, lRC_l28, lRC_l30, lRC_l40, lRC_l41, lRC_l42, lRC_l43]
  simp +decide [lRC_o17a, loopsOf, Tryz.f9, lRC_o13a, lRC_C13, O1, C2_s, K4, K5, C6, K7, C8, lRC_aw, awG, lRC_l17, lRC_l28, lRC_l30, lRC_l40, lRC_l41, lRC_l42, lRC_l43]
theorem lRC_x13_3 {n : Nat} {a0 : Form} {a1 : List TInterval} {i_13 : Nat} {d_13 : Bool} {d2_13 : Bool} {r3 : TInterval} (C2 : ¬ (i_13 : Int) < (shlI 1 (a1.length : Int))) :
    Leave 0 (exec Tryz.prog (lRCT n) 0 134 (livesOf 9) big lRC_C13) (livesOf 9 (outOf 13)) (lRC_h13 a0 a1 d_13 d2_13 i_13 r3) (.exit 0) (lRC_o13b d_13 d2_13) := by
  have O1 : ¬ (((a1.length : Int) : Int) < 0) := by omega
  have C2_s := C2
  simp only [andI, shrI, shlI, Int.toNat_natCast, Int.one_mul] at C2_s
  unfold Leave
  simp +decide [lRC_h13, loopsOf, Tryz.f9, lRC_o13b, lRC_C13, O1, C2_s, lRC_aw, awG, lRC_l17, lRC_l28, lRC_l30, lRC_l40, lRC_l41, lRC_l42, lRC_l43]
theorem lRC_f1 {n : Nat} {a0 : Form} {a1 : List TInterval} {r : Bool} (K1 : run (n + 12) 17 [formV a0] = some (.lit (.bool r))) (C2 : r = false) :
    lRC n [formV a0, .sl 6 (a1.map intervalC)] = some (.lit (.bool true)) := by
  simp only [formV] at K1
  unfold lRC fnP
  simp +decide [Tryz.f9, K1, C2, lRC_aw, awG, lRC_l17, lRC_l28, lRC_l30, lRC_l40, lRC_l41, lRC_l42, lRC_l43]
theorem lRC_f2 {n : Nat} {a0 : Form} {a1 : List TInterval} {r : Bool} {r2 : Bool} (K1 : run (n + 12) 17 [formV a0] = some (.lit (.bool r))) (C2 : r = true) (K3 : run (n + 12) 40 [.sl 6 (a1.map intervalC)] = some (.lit (.bool r2))) (C4 : r2 = false) :
    lRC n [formV a0, .sl 6 (a1.map intervalC)] = some (.lit (.bool true)) := by
  simp only [formV] at K1
  unfold lRC fnP
  simp +decide [Tryz.f9, K1, C2, K3, C4, lRC_aw, awG, lRC_l17, lRC_l28, lRC_l30, lRC_l40, lRC_l41, lRC_l42, lRC_l43]
theorem lRC_f6 {n : Nat} {a0 : Form} {a1 : List TInterval} {r : Bool} {r2 : Bool} {r3 : TInterval} {r4 : Int} {r5 : TInterval} {r6 : Int} (K1 : run (n + 12) 17 [formV a0] = some (.lit (.bool r))) (C2 : r = true) (K3 : run (n + 12) 40 [.sl 6 (a1.map intervalC)] = some (.lit (.bool r2))) (C4 : r2 = true) (K5 : run (n + 12) 41 [formV a0, .sl 6 (a1.map intervalC)] = some (.tup [.agg [.lit (.bool (rawQ r3.Lo).s), natA (rawQ r3.Lo).l1, natA (rawQ r3.Lo).l2, .lit (.bool (rawQ r3.Hi).s), natA (rawQ r3.Hi).l1, natA (rawQ r3.Hi).l2], .lit (.int .i64 r4)])) (K6 : run (n + 12) 42 [formV a0, .sl 6 (a1.map intervalC)] = some (.tup [.agg [.lit (.bool (rawQ r5.Lo).s), natA (rawQ r5.Lo).l1, natA (rawQ r5.Lo).l2, .lit (.bool (rawQ r5.Hi).s), natA (rawQ r5.Hi).l1, natA (rawQ r5.Hi).l2], .lit (.int .i64 r6)])) (C7 : r4 = r6) (B8a : H r3.Lo ≤ 17179869184) (B8b : H r5.Lo ≤ 17179869184) (C9 : r3.Lo = r5.Lo) (B10a : H r3.Hi ≤ 17179869184) (B10b : H r5.Hi ≤ 17179869184) (C11 : r3.Hi = r5.Hi) (C12 : ¬ r4 = 0) :
    lRC n [formV a0, .sl 6 (a1.map intervalC)] = some (.lit (.bool true)) := by
  simp only [formV] at K1
  simp only [formV] at K5
  simp only [formV] at K6
  have C7_ : (r4 == r6) = true := by rw [C7]; simp
  have C7_n : (r4 != r6) = false := by rw [C7]; simp
  have K8 := r_same (p := r3.Lo) (q := r5.Lo) B8a B8b
  have C9_ : decide (r3.Lo = r5.Lo) = true := decide_eq_true C9
  have K10 := r_same (p := r3.Hi) (q := r5.Hi) B10a B10b
  have C11_ : decide (r3.Hi = r5.Hi) = true := decide_eq_true C11
  have C12_ : (r4 == 0) = false := by simpa using C12
  have C12_n : (r4 != 0) = true := by simpa using C12
  unfold lRC fnP
  simp +decide [Tryz.f9, K1, C2, K3, C4, K5, K6, C7_, C7_n, K8, C9_, K10, C11_, C12_, C12_n, lRC_aw, awG, lRC_l17, lRC_l28, lRC_l30, lRC_l40, lRC_l41, lRC_l42, lRC_l43]
theorem lRC_f7 {n : Nat} {a0 : Form} {a1 : List TInterval} {r : Bool} {r2 : Bool} {r3 : TInterval} {r4 : Int} {r5 : TInterval} {r6 : Int} (K1 : run (n + 12) 17 [formV a0] = some (.lit (.bool r))) (C2 : r = true) (K3 : run (n + 12) 40 [.sl 6 (a1.map intervalC)] = some (.lit (.bool r2))) (C4 : r2 = true) (K5 : run (n + 12) 41 [formV a0, .sl 6 (a1.map intervalC)] = some (.tup [.agg [.lit (.bool (rawQ r3.Lo).s), natA (rawQ r3.Lo).l1, natA (rawQ r3.Lo).l2, .lit (.bool (rawQ r3.Hi).s), natA (rawQ r3.Hi).l1, natA (rawQ r3.Hi).l2], .lit (.int .i64 r4)])) (K6 : run (n + 12) 42 [formV a0, .sl 6 (a1.map intervalC)] = some (.tup [.agg [.lit (.bool (rawQ r5.Lo).s), natA (rawQ r5.Lo).l1, natA (rawQ r5.Lo).l2, .lit (.bool (rawQ r5.Hi).s), natA (rawQ r5.Hi).l1, natA (rawQ r5.Hi).l2], .lit (.int .i64 r6)])) (C7 : r4 = r6) (B8a : H r3.Lo ≤ 17179869184) (B8b : H r5.Lo ≤ 17179869184) (C9 : r3.Lo = r5.Lo) (B10a : H r3.Hi ≤ 17179869184) (B10b : H r5.Hi ≤ 17179869184) (C11 : r3.Hi = r5.Hi) (C12 : r4 = 0) (C13 : 5 < (a1.length : Int)) :
    lRC n [formV a0, .sl 6 (a1.map intervalC)] = some (.lit (.bool true)) := by
  simp only [formV] at K1
  simp only [formV] at K5
  simp only [formV] at K6
  have C7_ : (r4 == r6) = true := by rw [C7]; simp
  have C7_n : (r4 != r6) = false := by rw [C7]; simp
  have K8 := r_same (p := r3.Lo) (q := r5.Lo) B8a B8b
  have C9_ : decide (r3.Lo = r5.Lo) = true := decide_eq_true C9
  have K10 := r_same (p := r3.Hi) (q := r5.Hi) B10a B10b
  have C11_ : decide (r3.Hi = r5.Hi) = true := decide_eq_true C11
  have C12_ : (r4 == 0) = true := by rw [C12]; simp
  have C12_n : (r4 != 0) = false := by rw [C12]; simp
  have C13_ : 5 < a1.length := by omega
  unfold lRC fnP
  simp +decide [Tryz.f9, K1, C2, K3, C4, K5, K6, C7_, C7_n, K8, C9_, K10, C11_, C12_, C12_n, C13, C13_, lRC_aw, awG, lRC_l17, lRC_l28, lRC_l30, lRC_l40, lRC_l41, lRC_l42, lRC_l43]
theorem lRC_f9 {n : Nat} {a0 : Form} {a1 : List TInterval} {r : Bool} {r2 : Bool} {r3 : TInterval} {r4 : Int} {r5 : TInterval} {r6 : Int} {d_13 : Bool} {d2_13 : Bool} (K1 : run (n + 12) 17 [formV a0] = some (.lit (.bool r))) (C2 : r = true) (K3 : run (n + 12) 40 [.sl 6 (a1.map intervalC)] = some (.lit (.bool r2))) (C4 : r2 = true) (K5 : run (n + 12) 41 [formV a0, .sl 6 (a1.map intervalC)] = some (.tup [.agg [.lit (.bool (rawQ r3.Lo).s), natA (rawQ r3.Lo).l1, natA (rawQ r3.Lo).l2, .lit (.bool (rawQ r3.Hi).s), natA (rawQ r3.Hi).l1, natA (rawQ r3.Hi).l2], .lit (.int .i64 r4)])) (K6 : run (n + 12) 42 [formV a0, .sl 6 (a1.map intervalC)] = some (.tup [.agg [.lit (.bool (rawQ r5.Lo).s), natA (rawQ r5.Lo).l1, natA (rawQ r5.Lo).l2, .lit (.bool (rawQ r5.Hi).s), natA (rawQ r5.Hi).l1, natA (rawQ r5.Hi).l2], .lit (.int .i64 r6)])) (C7 : r4 = r6) (B8a : H r3.Lo ≤ 17179869184) (B8b : H r5.Lo ≤ 17179869184) (C9 : r3.Lo = r5.Lo) (B10a : H r3.Hi ≤ 17179869184) (B10b : H r5.Hi ≤ 17179869184) (C11 : r3.Hi = r5.Hi) (C12 : r4 = 0) (C13 : ¬ 5 < (a1.length : Int)) (L14 : loopG Tryz.prog (lRCT n) 0 134 (livesOf 9) 13 lRC_C13 (lRC_h13 a0 a1 false false 0 r3) = some (.exit 0, lRC_o13b d_13 d2_13)) (C15 : d_13 = true) :
    lRC n [formV a0, .sl 6 (a1.map intervalC)] = some (.lit (.bool d2_13)) := by
  simp only [formV] at K1
  simp only [formV] at K5
  simp only [formV] at K6
  have C7_ : (r4 == r6) = true := by rw [C7]; simp
  have C7_n : (r4 != r6) = false := by rw [C7]; simp
  have K8 := r_same (p := r3.Lo) (q := r5.Lo) B8a B8b
  have C9_ : decide (r3.Lo = r5.Lo) = true := decide_eq_true C9
  have K10 := r_same (p := r3.Hi) (q := r5.Hi) B10a B10b
  have C11_ : decide (r3.Hi = r5.Hi) = true := decide_eq_true C11
  have C12_ : (r4 == 0) = true := by rw [C12]; simp
  have C12_n : (r4 != 0) = false := by rw [C12]; simp
  have C13_ : ¬ 5 < a1.length := by omega
  unfold lRC fnP
  simp +decide [Tryz.f9, K1, C2, K3, C4, K5, K6, C7_, C7_n, K8, C9_, K10, C11_, C12_, C12_n, C13, C13_, C15, lRC_aw, awG, lRC_l17, lRC_l28, lRC_l30, lRC_l40, lRC_l41, lRC_l42, lRC_l43]
  rw [loopX_G (C' := lRC_C13) (e := (lRC_h13 a0 a1 false false 0 r3)) ?_ ?_, L14]
  rotate_left
  · kernel_rfl
  · simp +decide [lRC_h13, K1, C2, K3, C4, K5, K6, C7_, C7_n, K8, C9_, K10, C11_, C12_, C12_n, C13, C13_, C15, lRC_aw, awG, lRC_l17, lRC_l28, lRC_l30, lRC_l40, lRC_l41, lRC_l42, lRC_l43]
  simp +decide [lRC_o13b, K1, C2, K3, C4, K5, K6, C7_, C7_n, K8, C9_, K10, C11_, C12_, C12_n, C13, C13_, C15, lRC_aw, awG, lRC_l17, lRC_l28, lRC_l30, lRC_l40, lRC_l41, lRC_l42, lRC_l43]
end Go.Proofs.YthkkmokbjmempaaGreatDoor
