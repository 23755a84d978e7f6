import Derived.Test.YtjpoanaoaeaneaaGreatDoorGD16
import Derived.Test.YtjpoanaoaeaneaaGreatDoorGD22
import Derived.Test.YtjpoanaoaeaneaaGreatDoorGD26
set_option linter.all false
set_option maxRecDepth 100000
set_option maxHeartbeats 6400000
namespace Go.Proofs.YtjpoanaoaeaneaaGreatDoor
open Go.RowKit
noncomputable def crlT (n : Nat) : FuncId → Option Orc := ext (tab (n + 16)) 35 (.pure awG)
theorem crlT_ok (n : Nat) : OrcOk Tryz.prog (crlT n) := (tab_ok (n + 16)).extP (by kernel_rfl) con_awake
noncomputable def crl (n : Nat) (args : List AV) : Option AV := fnP Tryz.prog (crlT n) (livesOf 14) big (fnOf 14) args
theorem crl_con {n : Nat} {args : List AV} {r : AV} (h : crl n args = some r) : Con Tryz.prog 14 args r :=
  con_of (crlT_ok n) mixed (plain_fn (by kernel_rfl)) (body_some (by kernel_rfl) (plain_fn (by kernel_rfl))) h
theorem crl_aw (n : Nat) : crlT n 35 = some (.pure awG) := by unfold crlT ext; rw [if_pos rfl]
theorem crl_l36 (n : Nat) : crlT n 36 = some (.pure (run (n + 15) 36)) := by unfold crlT ext; rw [if_neg (by decide)]; exact tb_36 _
theorem crl_l38 (n : Nat) : crlT n 38 = some (.pure (run (n + 15) 38)) := by unfold crlT ext; rw [if_neg (by decide)]; exact tb_38 _
theorem crl_l41 (n : Nat) : crlT n 41 = some (.pure (run (n + 15) 41)) := by unfold crlT ext; rw [if_neg (by decide)]; exact tb_41 _
theorem crl_l43 (n : Nat) : crlT n 43 = some (.pure (run (n + 15) 43)) := by unfold crlT ext; rw [if_neg (by decide)]; exact tb_43 _
theorem crl_l44 (n : Nat) : crlT n 44 = some (.pure (run (n + 15) 44)) := by unfold crlT ext; rw [if_neg (by decide)]; exact tb_44 _
theorem crl_l50 (n : Nat) : crlT n 50 = some (.pure fCmp) := by unfold crlT ext; rw [if_neg (by decide)]; exact tab_num rfl _
theorem crl_l57 (n : Nat) : crlT n 57 = some (.pure fCanon) := by unfold crlT ext; rw [if_neg (by decide)]; exact tab_num rfl _
theorem crl_l58 (n : Nat) : crlT n 58 = some (.pure (run (n + 15) 58)) := by unfold crlT ext; rw [if_neg (by decide)]; exact tb_58 _
theorem crl_l59 (n : Nat) : crlT n 59 = some (.pure (run (n + 15) 59)) := by unfold crlT ext; rw [if_neg (by decide)]; exact tb_59 _
noncomputable def crl_C8 : Code := (loopsOf (bodyOf Tryz.f14)).getD 0 .skip
def crl_h8 (a0 : List FormR) (a1 : Raw) (a2 : List Raw) (i_8 : Int) (i2_8 : Nat) : St :=
  ⟨[(0, .sl 4 (a0.map formRC)), (2, .sl 3 (a2.map rawC)), (7, .ptr 0 0), (8, .lit (.int .i64 i_8)), (9, .lit (.int .i64 (i2_8 : Int)))],
   [(0, some (.box 52 [.lit (.int .i64 2), .lit (.int .i64 0), .lit (.bool (rawQ ((⟨false, a1.l1, a1.l2⟩ : Raw).q)).s), natA (rawQ ((⟨false, a1.l1, a1.l2⟩ : Raw).q)).l1, natA (rawQ ((⟨false, a1.l1, a1.l2⟩ : Raw).q)).l2, .sl 4 (a0.map formRC)] false))], 1⟩
def crl_o8a (a0 : List FormR) (a1 : Raw) (a2 : List Raw) (i_8 : Int) : St :=
  ⟨[(2, .sl 3 (a2.map rawC)), (7, .ptr 0 0), (8, .lit (.int .i64 i_8))],
   [(0, some (.box 52 [.lit (.int .i64 2), .lit (.int .i64 0), .lit (.bool (rawQ ((⟨false, a1.l1, a1.l2⟩ : Raw).q)).s), natA (rawQ ((⟨false, a1.l1, a1.l2⟩ : Raw).q)).l1, natA (rawQ ((⟨false, a1.l1, a1.l2⟩ : Raw).q)).l2, .sl 4 (a0.map formRC)] false))], 1⟩
section
variable {r13 : Int} {a2 : List Raw} {a1 : Raw} {i_8 : Int} {F3 : List (Int × Raw)} {r11 : Raw} {i2_8 : Nat} {r12 : Rat} {a0 : List FormR} {n : Nat} {r : Bool} {r2 : Bool} {r3 : Bool} {r4 : Bool} {r14 : TClaimR} {r15 : Int} {r17 : Int} {r16 : Bool}
theorem crl_r8_1 (C1 : (i2_8 : Int) < (a0.length : Int)) (E2 : a0[i2_8]? = some (F3, r11)) (K3 : run (n + 15) 59 [.agg [.sl 4 (F3.map termRC), .lit (.bool r11.s), natA r11.l1, natA r11.l2], .sl 3 (a2.map rawC)] = some (.tup [ratV r12, .lit (.int .i64 r13)])) (C4 : i_8 < 0) (B5a : H r12 ≤ 17179869184) (B5b : H ((⟨false, a1.l1, a1.l2⟩ : Raw).q) ≤ 17179869184) (C6 : sgR (r12 - ((⟨false, a1.l1, a1.l2⟩ : Raw).q)) < 0) (W7 : InI ((i2_8 : Int) + 1)) :
    Cont 0 (exec Tryz.prog (crlT n) 0 92 (livesOf 14) big crl_C8) (livesOf 14 8) (crl_h8 a0 a1 a2 i_8 i2_8) (crl_h8 a0 a1 a2 (i2_8 : Int) (i2_8 + 1)) := by
  have C1_ : i2_8 < a0.length := by omega
  obtain ⟨EL2, EG2⟩ := List.getElem?_eq_some_iff.1 E2
  simp only [ratV] at K3
  have K5 := r_cmp (p := r12) (q := (⟨false, a1.l1, a1.l2⟩ : Raw).q) B5a B5b
  have W7_ : IntKind.i64.wrap ((i2_8 : Int) + 1) = (i2_8 : Int) + 1 := wr64 W7.1 W7.2
  unfold Cont
  simp +decide [crl_h8, loopsOf, Tryz.f14, crl_C8, C1, C1_, EL2, EG2, E2, K3, C4, K5, C6, W7_, crl_aw, awG, crl_l36, crl_l38, crl_l41, crl_l43, crl_l44, crl_l50, crl_l57, crl_l58, crl_l59]
theorem crl_r8_2 (C1 : (i2_8 : Int) < (a0.length : Int)) (E2 : a0[i2_8]? = some (F3, r11)) (K3 : run (n + 15) 59 [.agg [.sl 4 (F3.map termRC), .lit (.bool r11.s), natA r11.l1, natA r11.l2], .sl 3 (a2.map rawC)] = some (.tup [ratV r12, .lit (.int .i64 r13)])) (C4 : i_8 < 0) (B5a : H r12 ≤ 17179869184) (B5b : H ((⟨false, a1.l1, a1.l2⟩ : Raw).q) ≤ 17179869184) (C6 : ¬ sgR (r12 - ((⟨false, a1.l1, a1.l2⟩ : Raw).q)) < 0) (W7 : InI ((i2_8 : Int) + 1)) :
    Cont 0 (exec Tryz.prog (crlT n) 0 92 (livesOf 14) big crl_C8) (livesOf 14 8) (crl_h8 a0 a1 a2 i_8 i2_8) (crl_h8 a0 a1 a2 i_8 (i2_8 + 1)) := by
  have C1_ : i2_8 < a0.length := by omega
  obtain ⟨EL2, EG2⟩ := List.getElem?_eq_some_iff.1 E2
  simp only [ratV] at K3
  have K5 := r_cmp (p := r12) (q := (⟨false, a1.l1, a1.l2⟩ : Raw).q) B5a B5b
  have W7_ : IntKind.i64.wrap ((i2_8 : Int) + 1) = (i2_8 : Int) + 1 := wr64 W7.1 W7.2
  unfold Cont
  simp +decide [crl_h8, loopsOf, Tryz.f14, crl_C8, C1, C1_, EL2, EG2, E2, K3, C4, K5, C6, W7_, crl_aw, awG, crl_l36, crl_l38, crl_l41, crl_l43, crl_l44, crl_l50, crl_l57, crl_l58, crl_l59]
theorem crl_r8_3 (C1 : (i2_8 : Int) < (a0.length : Int)) (E2 : a0[i2_8]? = some (F3, r11)) (K3 : run (n + 15) 59 [.agg [.sl 4 (F3.map termRC), .lit (.bool r11.s), natA r11.l1, natA r11.l2], .sl 3 (a2.map rawC)] = some (.tup [ratV r12, .lit (.int .i64 r13)])) (C4 : ¬ i_8 < 0) (W5 : InI ((i2_8 : Int) + 1)) :
    Cont 0 (exec Tryz.prog (crlT n) 0 92 (livesOf 14) big crl_C8) (livesOf 14 8) (crl_h8 a0 a1 a2 i_8 i2_8) (crl_h8 a0 a1 a2 i_8 (i2_8 + 1)) := by
  have C1_ : i2_8 < a0.length := by omega
  obtain ⟨EL2, EG2⟩ := List.getElem?_eq_some_iff.1 E2
  simp only [ratV] at K3
  have W5_ : IntKind.i64.wrap ((i2_8 : Int) + 1) = (i2_8 : Int) + 1 := wr64 W5.1 W5.2
  unfold Cont
  simp +decide [crl_h8, loopsOf, Tryz.f14, crl_C8, C1, C1_, EL2, EG2, E2, K3, C4, W5_, crl_aw, awG, crl_l36, crl_l38, crl_l41, crl_l43, crl_l44, crl_l50, crl_l57, crl_l58, crl_l59]
theorem crl_x8_1 (C1 : ¬ (i2_8 : Int) < (a0.length : Int)) :
    Leave 0 (exec Tryz.prog (crlT n) 0 92 (livesOf 14) big crl_C8) (livesOf 14 (outOf 8)) (crl_h8 a0 a1 a2 i_8 i2_8) (.exit 0) (crl_o8a a0 a1 a2 i_8) := by
  have C1_ : ¬ i2_8 < a0.length := by omega
  unfold Leave
  simp +decide [crl_h8, loopsOf, Tryz.f14, crl_o8a, crl_C8, C1, C1_, crl_aw, awG, crl_l36, crl_l38, crl_l41, crl_l43, crl_l44, crl_l50, crl_l57, crl_l58, crl_l59]
theorem crl_f1 (B1a : RawB (⟨false, a1.l1, a1.l2⟩ : Raw)) (K2 : run (n + 15) 36 [.agg [.lit (.int .i64 2), .lit (.int .i64 0), .lit (.bool (rawQ ((⟨false, a1.l1, a1.l2⟩ : Raw).q)).s), natA (rawQ ((⟨false, a1.l1, a1.l2⟩ : Raw).q)).l1, natA (rawQ ((⟨false, a1.l1, a1.l2⟩ : Raw).q)).l2, .sl 4 (a0.map formRC)]] = some (.lit (.bool r))) (C3 : r = false) :
    crl n [.sl 4 (a0.map formRC), .agg [.lit (.bool a1.s), natA a1.l1, natA a1.l2], .sl 3 (a2.map rawC)] = some (.lit (.bool true)) := by
  have K1 := rr_canon B1a
  dsimp only at K1
  unfold crl fnP
  simp +decide [Tryz.f14, K1, K2, C3, crl_aw, awG, crl_l36, crl_l38, crl_l41, crl_l43, crl_l44, crl_l50, crl_l57, crl_l58, crl_l59]
theorem crl_f2 (B1a : RawB (⟨false, a1.l1, a1.l2⟩ : Raw)) (K2 : run (n + 15) 36 [.agg [.lit (.int .i64 2), .lit (.int .i64 0), .lit (.bool (rawQ ((⟨false, a1.l1, a1.l2⟩ : Raw).q)).s), natA (rawQ ((⟨false, a1.l1, a1.l2⟩ : Raw).q)).l1, natA (rawQ ((⟨false, a1.l1, a1.l2⟩ : Raw).q)).l2, .sl 4 (a0.map formRC)]] = some (.lit (.bool r))) (C3 : r = true) (K4 : run (n + 15) 58 [.agg [.lit (.bool a1.s), natA a1.l1, natA a1.l2]] = some (.lit (.bool r2))) (C5 : r2 = false) :
    crl n [.sl 4 (a0.map formRC), .agg [.lit (.bool a1.s), natA a1.l1, natA a1.l2], .sl 3 (a2.map rawC)] = some (.lit (.bool true)) := by
  have K1 := rr_canon B1a
  dsimp only at K1
  unfold crl fnP
  simp +decide [Tryz.f14, K1, K2, C3, K4, C5, crl_aw, awG, crl_l36, crl_l38, crl_l41, crl_l43, crl_l44, crl_l50, crl_l57, crl_l58, crl_l59]
theorem crl_f3 (B1a : RawB (⟨false, a1.l1, a1.l2⟩ : Raw)) (K2 : run (n + 15) 36 [.agg [.lit (.int .i64 2), .lit (.int .i64 0), .lit (.bool (rawQ ((⟨false, a1.l1, a1.l2⟩ : Raw).q)).s), natA (rawQ ((⟨false, a1.l1, a1.l2⟩ : Raw).q)).l1, natA (rawQ ((⟨false, a1.l1, a1.l2⟩ : Raw).q)).l2, .sl 4 (a0.map formRC)]] = some (.lit (.bool r))) (C3 : r = true) (K4 : run (n + 15) 58 [.agg [.lit (.bool a1.s), natA a1.l1, natA a1.l2]] = some (.lit (.bool r2))) (C5 : r2 = true) (K6 : run (n + 15) 43 [.sl 3 (a2.map rawC)] = some (.lit (.bool r3))) (C7 : r3 = false) :
    crl n [.sl 4 (a0.map formRC), .agg [.lit (.bool a1.s), natA a1.l1, natA a1.l2], .sl 3 (a2.map rawC)] = some (.lit (.bool true)) := by
  have K1 := rr_canon B1a
  dsimp only at K1
  unfold crl fnP
  simp +decide [Tryz.f14, K1, K2, C3, K4, C5, K6, C7, crl_aw, awG, crl_l36, crl_l38, crl_l41, crl_l43, crl_l44, crl_l50, crl_l57, crl_l58, crl_l59]
theorem crl_f4 (B1a : RawB (⟨false, a1.l1, a1.l2⟩ : Raw)) (K2 : run (n + 15) 36 [.agg [.lit (.int .i64 2), .lit (.int .i64 0), .lit (.bool (rawQ ((⟨false, a1.l1, a1.l2⟩ : Raw).q)).s), natA (rawQ ((⟨false, a1.l1, a1.l2⟩ : Raw).q)).l1, natA (rawQ ((⟨false, a1.l1, a1.l2⟩ : Raw).q)).l2, .sl 4 (a0.map formRC)]] = some (.lit (.bool r))) (C3 : r = true) (K4 : run (n + 15) 58 [.agg [.lit (.bool a1.s), natA a1.l1, natA a1.l2]] = some (.lit (.bool r2))) (C5 : r2 = true) (K6 : run (n + 15) 43 [.sl 3 (a2.map rawC)] = some (.lit (.bool r3))) (C7 : r3 = true) (K8 : run (n + 15) 41 [.agg [.lit (.int .i64 2), .lit (.int .i64 0), .lit (.bool (rawQ ((⟨false, a1.l1, a1.l2⟩ : Raw).q)).s), natA (rawQ ((⟨false, a1.l1, a1.l2⟩ : Raw).q)).l1, natA (rawQ ((⟨false, a1.l1, a1.l2⟩ : Raw).q)).l2, .sl 4 (a0.map formRC)], .lit (.int .i64 (a2.length : Int))] = some (.lit (.bool r4))) (C9 : r4 = false) :
    crl n [.sl 4 (a0.map formRC), .agg [.lit (.bool a1.s), natA a1.l1, natA a1.l2], .sl 3 (a2.map rawC)] = some (.lit (.bool true)) := by
  have K1 := rr_canon B1a
  dsimp only at K1
  unfold crl fnP
  simp +decide [Tryz.f14, K1, K2, C3, K4, C5, K6, C7, K8, C9, crl_aw, awG, crl_l36, crl_l38, crl_l41, crl_l43, crl_l44, crl_l50, crl_l57, crl_l58, crl_l59]
theorem crl_f5 (B1a : RawB (⟨false, a1.l1, a1.l2⟩ : Raw)) (K2 : run (n + 15) 36 [.agg [.lit (.int .i64 2), .lit (.int .i64 0), .lit (.bool (rawQ ((⟨false, a1.l1, a1.l2⟩ : Raw).q)).s), natA (rawQ ((⟨false, a1.l1, a1.l2⟩ : Raw).q)).l1, natA (rawQ ((⟨false, a1.l1, a1.l2⟩ : Raw).q)).l2, .sl 4 (a0.map formRC)]] = some (.lit (.bool r))) (C3 : r = true) (K4 : run (n + 15) 58 [.agg [.lit (.bool a1.s), natA a1.l1, natA a1.l2]] = some (.lit (.bool r2))) (C5 : r2 = true) (K6 : run (n + 15) 43 [.sl 3 (a2.map rawC)] = some (.lit (.bool r3))) (C7 : r3 = true) (K8 : run (n + 15) 41 [.agg [.lit (.int .i64 2), .lit (.int .i64 0), .lit (.bool (rawQ ((⟨false, a1.l1, a1.l2⟩ : Raw).q)).s), natA (rawQ ((⟨false, a1.l1, a1.l2⟩ : Raw).q)).l1, natA (rawQ ((⟨false, a1.l1, a1.l2⟩ : Raw).q)).l2, .sl 4 (a0.map formRC)], .lit (.int .i64 (a2.length : Int))] = some (.lit (.bool r4))) (C9 : r4 = true) (L10 : loopG Tryz.prog (crlT n) 0 92 (livesOf 14) 8 crl_C8 (crl_h8 a0 a1 a2 (-1) 0) = some (.exit 0, crl_o8a a0 a1 a2 i_8)) (K11 : run (n + 15) 38 [.agg [.lit (.int .i64 2), .lit (.int .i64 0), .lit (.bool (rawQ ((⟨false, a1.l1, a1.l2⟩ : Raw).q)).s), natA (rawQ ((⟨false, a1.l1, a1.l2⟩ : Raw).q)).l1, natA (rawQ ((⟨false, a1.l1, a1.l2⟩ : Raw).q)).l2, .sl 4 (a0.map formRC)]] = some (claimRV r14)) (K12 : run (n + 15) 44 [claimRV r14, .sl 3 (a2.map rawC)] = some (.tup [.lit (.int .i64 r15), .lit (.bool r16), .lit (.int .i64 r17)])) (C13 : r17 = 0) (C14 : r16 = (decide (i_8 < 0))) :
    crl n [.sl 4 (a0.map formRC), .agg [.lit (.bool a1.s), natA a1.l1, natA a1.l2], .sl 3 (a2.map rawC)] = some (.lit (.bool (r15 == max i_8 0))) := by
  have K1 := rr_canon B1a
  dsimp only at K1
  simp only [claimRV] at K11
  simp only [claimRV] at K12
  have C13_ : (r17 == 0) = true := by rw [C13]; simp
  have C13_n : (r17 != 0) = false := by rw [C13]; simp
  have C14_ : (r16 == (decide (i_8 < 0))) = true := by rw [C14]; simp
  have C14_n : (r16 != (decide (i_8 < 0))) = false := by rw [C14]; simp
  unfold crl fnP
  simp +decide [Tryz.f14, K1, K2, C3, K4, C5, K6, C7, K8, C9, K11, K12, C13_, C13_n, C14_, C14_n, C14, crl_aw, awG, crl_l36, crl_l38, crl_l41, crl_l43, crl_l44, crl_l50, crl_l57, crl_l58, crl_l59]
  rw [loopX_G (C' := crl_C8) (e := (crl_h8 a0 a1 a2 (-1) 0)) ?_ ?_, L10]
  rotate_left
  · kernel_rfl
  · simp +decide [crl_h8, K1, K2, C3, K4, C5, K6, C7, K8, C9, K11, K12, C13_, C13_n, C14_, C14_n, C14, crl_aw, awG, crl_l36, crl_l38, crl_l41, crl_l43, crl_l44, crl_l50, crl_l57, crl_l58, crl_l59]
  simp +decide [crl_o8a, K1, K2, C3, K4, C5, K6, C7, K8, C9, K11, K12, C13_, C13_n, C14_, C14_n, C14, crl_aw, awG, crl_l36, crl_l38, crl_l41, crl_l43, crl_l44, crl_l50, crl_l57, crl_l58, crl_l59]
  by_cases h9 : i_8 < 0
  · have e9 : max i_8 0 = 0 := by omega
    simp [h9, e9]
  · have e9 : max i_8 0 = i_8 := by omega
    simp [h9, e9]
end
end Go.Proofs.YtjpoanaoaeaneaaGreatDoor
set_option linter.all false
set_option maxRecDepth 100000
set_option maxHeartbeats 6400000
namespace Go.Proofs.YtjpoanaoaeaneaaGreatDoor
open Go.RowKit
attribute [local irreducible] run runL loopG exec crl
def RowI (X : List Rat) (q : Rat) (l : List FormR) (i : Nat) (z : Int) : Prop :=
  (z = -1 ∧ ∀ j f, j < i → l[j]? = some f → ¬ LessF X q (unR f)) ∨ ∃ k : Nat, z = (k : Int) ∧ (∃ f, l[k]? = some f ∧ LessF X q (unR f)) ∧ ∀ j f, j < k → l[j]? = some f → ¬ LessF X q (unR f)
theorem cr_law {l : List FormR} {m : Raw} {xs : List Raw} (hl : ∀ f ∈ l, LimF f) (hm : LimR2 m) (hml : m.l1.length ≤ 100000000 ∧ m.l2.length ≤ 100000000) (hx : ∀ r ∈ xs, LimR2 r) (hn : xs.length ≤ 100000000) :
    Con Tryz.prog 14 [.sl 4 (l.map formRC), .agg (rawC m), .sl 3 (xs.map rawC)] (.lit (.bool true)) := by
  have B1 : RawB (⟨false, m.l1, m.l2⟩ : Raw) := ⟨hm.1, hm.2, by have := hml.1; show m.l1.length ≤ _; omega, by have := hml.2; show m.l2.length ≤ _; omega⟩
  obtain ⟨q, hq⟩ : ∃ q, q = (⟨false, m.l1, m.l2⟩ : Raw).q := ⟨_, rfl⟩
  obtain ⟨c, hc⟩ : ∃ c : TClaimR, c = ⟨2, 0, rawQ (⟨false, m.l1, m.l2⟩ : Raw).q, l⟩ := ⟨_, rfl⟩
  have cR : c.Rows = l := by rw [hc]
  have cM : c.Margin = rawQ q := by rw [hc, hq]
  have cK : c.Kind = 2 := by rw [hc]
  have hL : LimC c := ⟨by rw [cM]; exact ⟨lim_lmb _, lim_dlmb _⟩, by rw [cR]; exact hl⟩
  have K := few20_c (n := 14) (c := c)
  by_cases hf : FewC c
  rotate_left
  · rw [tv_f hf, hc] at K
    exact crl_con (n := 0) (crl_f1 B1 K rfl)
  rw [tv_t hf] at K
  have S := short_c (n := 15) (r := m)
  by_cases h2 : Two m
  rotate_left
  · rw [tv_f h2] at S
    rw [hc] at K
    exact crl_con (n := 0) (crl_f2 B1 K rfl S rfl)
  rw [tv_t h2] at S
  rcases outputs_c (n := 14) (xs := xs) with ⟨O, _⟩ | ⟨O, ho⟩ | h
  · rw [hc] at K
    exact crl_con (n := 0) (crl_f3 B1 K rfl S rfl O rfl)
  rotate_left
  · omega
  have hp : PtR xs := ⟨ho.1, fun r hr => ⟨ho.2 r hr, hx r hr⟩⟩
  have hg := good_of hL hf
  have V := fvalidG (n := 13) (z := (xs.length : Int)) hg
  by_cases hO : OkClR c (xs.length : Int)
  rotate_left
  · rw [tv_f hO] at V
    rw [hc] at K V
    exact crl_con (n := 0) (crl_f4 B1 K rfl S rfl O rfl V rfl)
  rw [tv_t hO] at V
  have hr : ∀ f ∈ l, OkFR f (xs.length : Int) := by
    rcases hO.k with h | h
    · omega
    · rw [← cR]; exact h.2.2.2
  have hs : ∀ f ∈ l, frV f = formV (unR f) ∧ SmFC (unR f) (xs.length : Int) := fun f h => by
    have h2 := hf.f f (by rw [cR]; exact h)
    obtain ⟨a, b, d, e, g⟩ := small_formB (m := 2) (by omega) (fun t ht => h2.t t ht) h2.k (hr f h)
    exact ⟨a, by rw [b]; exact h2.l, d, e, g⟩
  have hl6 : l.length ≤ 6 := by have := hf.l; rw [cR] at this; exact this
  have hHq : H q ≤ 2 := by have := hO.m.H hf.m; rw [cM, rawQ_q] at this; exact this
  have hin : ∀ f ∈ l, InR (xs.map Raw.q).length (unR f).1 := fun f h => by
    rw [List.length_map]
    exact fun t ht => (hs f h).2.ok.srt.2 t ht
  obtain ⟨i, ok, e, A, _, h1⟩ := holdsG hg (fun h => by have := h.H hf.m; omega) hp
  rcases h1 with ⟨_, rfl, s1, g1⟩ | ⟨h, _⟩
  rotate_left
  · exact absurd hO h
  have eg : goalsF (unC c) (xs.length : Int) = l.map fun f => subF (unR f) (numF q) := by
    rw [goals_base]
    have e1 : baseF (unC c) (xs.length : Int) = c.Rows.map unR := if_neg (by show ¬ c.Kind = 1; omega)
    have e2 : (unC c).Margin = q := by show c.Margin.q = q; rw [cM, rawQ_q]
    rw [e1, e2, cR, List.map_map]
    rfl
  have hless : ∀ f ∈ l, (sgR (evQ (xs.map Raw.q) (unR f) - q) < 0 ↔ LessF (xs.map Raw.q) q (unR f)) := fun f h => by
    have h3 := hin f h
    unfold evQ LessF
    rw [if_pos h3, sg_neg]
    exact ⟨fun h4 => ⟨h3, by grind⟩, fun h4 => by have := h4.2; grind⟩
  obtain ⟨z, L, hI, _⟩ := loopG_R (β := Int) (O := crlT 0) (P := Tryz.prog) (m := 0) (N := 92) (lives := livesOf 14) (r := 8) (C := crl_C8) (exN := .exit 0) (M := l.length) (enc := fun i z => crl_h8 l m xs z i) (out := fun z => crl_o8a l m xs z)
    (fun i z => RowI (xs.map Raw.q) q l i z ∧ i ≤ l.length) (-1) ⟨.inl ⟨rfl, fun j f hj => by omega⟩, by omega⟩ (by omega) (fun h => by cases h)
    (fun i z hi hI => by
      obtain ⟨hI, _⟩ := hI
      have hx : l[i]? = some l[i] := List.getElem?_eq_getElem hi
      generalize l[i] = f at hx
      have hm := List.mem_of_getElem? hx
      obtain ⟨_, E, hB⟩ := ev_both (n := 15) hp (hs f hm).2.sb (by omega) (by omega)
      rw [← (hs f hm).1] at E
      have W : InI ((i : Int) + 1) := ⟨by omega, by omega⟩
      have C1 : (i : Int) < (l.length : Int) := by omega
      have hl1 := hless f hm
      obtain ⟨F, r⟩ := f
      rcases hI with ⟨rfl, hI⟩ | ⟨k, rfl, hI⟩
      · by_cases hc : LessF (xs.map Raw.q) q (unR (F, r))
        · have hc2 := hl1.2 hc
          rw [hq] at hc2
          exact ⟨_, crl_r8_1 C1 hx E (by omega) (by omega) (by rw [← hq]; omega) hc2 W, .inr ⟨i, rfl, ⟨_, hx, hc⟩, hI⟩, hi⟩
        · have hc2 : ¬ _ := fun h => hc (hl1.1 h)
          rw [hq] at hc2
          refine ⟨_, crl_r8_2 C1 hx E (by omega) (by omega) (by rw [← hq]; omega) hc2 W, .inl ⟨rfl, fun j g hj hg => ?_⟩, hi⟩
          rcases Nat.lt_succ_iff_lt_or_eq.1 hj with h6 | rfl
          · exact hI j g h6 hg
          · rw [hx] at hg; cases hg; exact hc
      · exact ⟨_, crl_r8_3 C1 hx E (by omega) W, .inr ⟨k, rfl, hI⟩, hi⟩)
    (fun z hI => crl_x8_1 (by omega))
  have ho : HoQ (xs.map Raw.q) (goalsF (unC c) (xs.length : Int)) (max z 0) (decide (z < 0)) := by
    rw [eg]
    rcases hI with ⟨rfl, hI⟩ | ⟨k, rfl, ⟨f, hf, hn⟩, hI⟩
    · refine .inl ⟨rfl, rfl, fun g hg => ?_⟩
      obtain ⟨f, hf, rfl⟩ := List.mem_map.1 hg
      obtain ⟨j, hj⟩ := List.mem_iff_getElem?.1 hf
      exact fun h => hI j f (List.getElem?_eq_some_iff.1 hj).1 hj (neg_num.1 h)
    · refine .inr ⟨decide_eq_false (by omega), k, by omega, ⟨subF (unR f) (numF q), by rw [List.getElem?_map, hf]; rfl, neg_num.2 hn⟩, fun j g hj hg => ?_⟩
      rw [List.getElem?_map] at hg
      obtain ⟨f', hf', rfl⟩ := Option.map_eq_some_iff.1 hg
      exact fun h => hI j f' hj hf' (neg_num.1 h)
  obtain ⟨e1, e2⟩ := g1.uniq ho
  have C := cpC_f1 (n := 15) (a0 := c) (by have := hf.l; omega)
  have A9 := A 9
  rw [hc] at K V C
  have R := crl_f5 (n := 0) B1 K rfl S rfl O rfl V rfl L C (by rw [← hc]; exact A9) rfl e2
  rw [e1, beq_self_eq_true] at R
  exact crl_con R
end Go.Proofs.YtjpoanaoaeaneaaGreatDoor
set_option linter.all false
namespace Go.Proofs.YtjpoanaoaeaneaaGreatDoor
open Go.ChangeShapes Go.WideShapes Go.RowKit Go.Deep
theorem cr_use (w : World) {v0 v1 v2 : Value} {l : List FormR} {m : Raw} {xs : List Raw} {N M K : Nat} (r0 : RepT w okT (.sl 4 (l.map formRC)) v0) (r1 : RepT w okT (.agg (rawC m)) v1) (r2 : RepT w okT (.sl 3 (xs.map rawC)) v2) (k0 : okO_LAffine N l) (k1 : okRaw M m) (k2 : okO_LRat K xs) (hN : N ≤ 1048576) (hM : M ≤ 1048576) (hK : K ≤ 1048576) (hG : Glob w okT) :
    Calls Tryz.prog 14 #[v0, v1, v2] w (RetB true w) :=
  (cr_law (fun f hf => okF_lim (k0.2 f hf)) (okR_lim k1) ⟨by have := k1.1.2; omega, by have := k1.2.2; omega⟩ (okL_lim k2) (by have := k2.1; omega) w okT _ hG (rvs_cons r0 (rvs_cons r1 (rvs_cons r2 rvs_nil)))).mono fun _ _ h => true_end h
end Go.Proofs.YtjpoanaoaeaneaaGreatDoor
