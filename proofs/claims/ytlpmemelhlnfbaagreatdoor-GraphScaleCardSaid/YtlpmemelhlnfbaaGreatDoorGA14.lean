/- Walks: relucertlaw15.short@0, relucertlaw15.copied. Walks: relucertref15.Equal, relucertlaw15.same, relucertref03.SameAll. Walks: relucertlaw15.GraphScale@2^. -/
import Derived.Test.YtlpmemelhlnfbaaGreatDoorGA5
import Derived.Test.YtlpmemelhlnfbaaGreatDoorGA10
set_option linter.all false
set_option linter.all false
set_option maxRecDepth 100000
set_option maxHeartbeats 6400000
namespace Go.Proofs.YtlpmemelhlnfbaaGreatDoor
open Go.RowKit

/-! relucertlaw15.short, level 0 -/
theorem shR_f1 {n : Nat} {a0 : Raw} (C1 : (a0.l1.length : Int) ≤ 2) :
    run n 19 [.agg [.lit (.bool a0.s), natA a0.l1, natA a0.l2]] = some (.lit (.bool (decide ((a0.l2.length : Int) ≤ 2)))) := by
  have C1_ : a0.l1.length ≤ 2 := by omega
  unfold run fnP
  simp +decide [Tryz.f19, C1, C1_]
theorem shR_f2 {n : Nat} {a0 : Raw} (C1 : ¬ (a0.l1.length : Int) ≤ 2) :
    run n 19 [.agg [.lit (.bool a0.s), natA a0.l1, natA a0.l2]] = some (.lit (.bool false)) := by
  have C1_ : ¬ a0.l1.length ≤ 2 := by omega
  unfold run fnP
  simp +decide [Tryz.f19, C1, C1_]
/-! relucertlaw15.copied, level 0 -/
theorem cpy_f1 {n : Nat} {a0 : TGraph} (M1 : a0.Units.length ≤ 100000000) (M2 : a0.Outputs.length ≤ 100000000) :
    run n 22 [graphV a0] = some (graphV a0) := by
  have M1_ : ∀ b, b ≤ 10000 → roomy (a0.Units.length) b = true := fun b hb => roomy_s M1 hb
  have M2_ : ∀ b, b ≤ 10000 → roomy (a0.Outputs.length) b = true := fun b hb => roomy_s M2 hb
  unfold run fnP
  simp +decide [Tryz.f22, M1_, M2_]
end Go.Proofs.YtlpmemelhlnfbaaGreatDoor
set_option linter.all false
set_option maxRecDepth 100000
set_option maxHeartbeats 6400000
namespace Go.Proofs.YtlpmemelhlnfbaaGreatDoor
open Go.RowKit

/-! relucertref15.Equal, level 2 -/
theorem rEq_f1 {n : Nat} {a0 : TGraph} {a1 : TGraph} {r : Bool} {r2 : Bool} (C1 : a0.Inputs = a1.Inputs) (K2 : run (n + 1) 90 [.sl 4 (a0.Units.map formC), .sl 4 (a1.Units.map formC)] = some (.lit (.bool r))) (C3 : r = true) (K4 : run (n + 1) 90 [.sl 4 (a0.Outputs.map formC), .sl 4 (a1.Outputs.map formC)] = some (.lit (.bool r2))) :
    run (n + 2) 24 [graphV a0, graphV a1] = some (.lit (.bool r2)) := by
  have C1_ : (a0.Inputs == a1.Inputs) = true := by rw [C1]; simp
  have C1_n : (a0.Inputs != a1.Inputs) = false := by rw [C1]; simp
  unfold run fnP
  simp +decide [Tryz.f24, C1_, C1_n, K2, C3, K4]
/-! relucertlaw15.same, level 6 -/
theorem sme_f1 {n : Nat} {a0 : TGraph} {a1 : TGraph} {a2 : List Rat} {r : List Rat} {r2 : Int} {r3 : List Rat} {r4 : Int} {r5 : Bool} (K1 : run (n + 5) 37 [graphV a0, .sl 3 (a2.map ratC)] = some (.tup [.sl 3 (r.map ratC), .lit (.int .i64 r2)])) (K2 : run (n + 5) 37 [graphV a1, .sl 3 (a2.map ratC)] = some (.tup [.sl 3 (r3.map ratC), .lit (.int .i64 r4)])) (C3 : r2 = 0) (C4 : r4 = 0) (K5 : run (n + 5) 38 [.sl 3 (r.map ratC), .sl 3 (r3.map ratC)] = some (.lit (.bool r5))) :
    run (n + 6) 26 [graphV a0, graphV a1, .sl 3 (a2.map ratC)] = some (.lit (.bool r5)) := by
  simp only [graphV] at K1
  simp only [graphV] at K2
  have C3_ : (r2 == 0) = true := by rw [C3]; simp
  have C3_n : (r2 != 0) = false := by rw [C3]; simp
  have C4_ : (r4 == 0) = true := by rw [C4]; simp
  have C4_n : (r4 != 0) = false := by rw [C4]; simp
  unfold run fnP
  simp +decide [Tryz.f26, K1, K2, C3_, C3_n, C4_, C4_n, K5]
/-! relucertref03.SameAll, level 0 -/
noncomputable def sal_C4 : Code := (loopsOf (bodyOf Tryz.f38)).getD 0 .skip
def sal_h4 (a0 : List Rat) (a1 : List Rat) (i_4 : Nat) : St :=
  ⟨[(0, .sl 3 (a0.map ratC)), (1, .sl 3 (a1.map ratC)), (5, .lit (.int .i64 (i_4 : Int)))],
   [], 0⟩
def sal_o4b  : St :=
  ⟨[(4, .any)],
   [], 0⟩
theorem sal_r4_1 {n : Nat} {a0 : List Rat} {a1 : List Rat} {i_4 : Nat} {x5 : Rat} {x6 : Rat} (C1 : (i_4 : Int) < (a0.length : Int)) (E2 : a0[i_4]? = some x5) (E3 : a1[i_4]? = some x6) (B4a : H x5 ≤ 17179869184) (B4b : H x6 ≤ 17179869184) (C5 : x5 = x6) (W6 : InI ((i_4 : Int) + 1)) :
    Cont 0 (exec Tryz.prog (tab n) 0 27 (livesOf 38) big sal_C4) (livesOf 38 4) (sal_h4 a0 a1 i_4) (sal_h4 a0 a1 (i_4 + 1)) := by
  have C1_ : i_4 < a0.length := by omega
  obtain ⟨EL2, EG2⟩ := List.getElem?_eq_some_iff.1 E2
  obtain ⟨EL3, EG3⟩ := List.getElem?_eq_some_iff.1 E3
  have K4 := r_same (p := x5) (q := x6) B4a B4b
  have C5_ : decide (x5 = x6) = true := decide_eq_true C5
  have W6_ : IntKind.i64.wrap ((i_4 : Int) + 1) = (i_4 : Int) + 1 := wr64 W6.1 W6.2
  unfold Cont
  simp +decide [sal_h4, loopsOf, Tryz.f38, sal_C4, C1, C1_, EL2, EG2, E2, EL3, EG3, E3, K4, C5_, W6_]
theorem sal_x4_2 {n : Nat} {a0 : List Rat} {a1 : List Rat} {i_4 : Nat} (C1 : ¬ (i_4 : Int) < (a0.length : Int)) :
    Leave 0 (exec Tryz.prog (tab n) 0 27 (livesOf 38) big sal_C4) (livesOf 38 (outOf 4)) (sal_h4 a0 a1 i_4) (.exit 0) (sal_o4b ) := by
  have C1_ : ¬ i_4 < a0.length := by omega
  unfold Leave
  simp +decide [sal_h4, loopsOf, Tryz.f38, sal_o4b, sal_C4, C1, C1_]
theorem sal_f3 {n : Nat} {a0 : List Rat} {a1 : List Rat} (C1 : (a0.length : Int) = (a1.length : Int)) (L2 : loopG Tryz.prog (tab n) 0 27 (livesOf 38) 4 sal_C4 (sal_h4 a0 a1 0) = some (.exit 0, sal_o4b )) :
    run n 38 [.sl 3 (a0.map ratC), .sl 3 (a1.map ratC)] = some (.lit (.bool true)) := by
  have C1_ : ((a0.length : Int) == (a1.length : Int)) = true := by rw [C1]; simp
  have C1_n : ((a0.length : Int) != (a1.length : Int)) = false := by rw [C1]; simp
  unfold run fnP
  simp +decide [Tryz.f38, C1_, C1_n]
  rw [loopX_G (C' := sal_C4) (e := (sal_h4 a0 a1 0)) ?_ ?_, L2]
  rotate_left
  · kernel_rfl
  · simp +decide [sal_h4, C1_, C1_n]
  simp +decide [sal_o4b, C1_, C1_n]
end Go.Proofs.YtlpmemelhlnfbaaGreatDoor
set_option linter.all false
set_option maxRecDepth 100000
set_option maxHeartbeats 6400000
namespace Go.Proofs.YtlpmemelhlnfbaaGreatDoor
open Go.RowKit

/-! relucertlaw15.GraphScale, level 10 -/
noncomputable def glsT (n : Nat) : FuncId → Option Orc := ext (tab (n + 10)) 18 (.pure awG)
theorem glsT_ok (n : Nat) : OrcOk Tryz.prog (glsT n) := (tab_ok (n + 10)).extP (by kernel_rfl) con_awake
noncomputable def gls (n : Nat) (args : List AV) : Option AV := fnP Tryz.prog (glsT n) (livesOf 4) big (fnOf 4) args
theorem gls_con {n : Nat} {args : List AV} {r : AV} (h : gls n args = some r) : Con Tryz.prog 4 args r :=
  con_of (glsT_ok n) mixed (plain_fn (by kernel_rfl)) (body_some (by kernel_rfl) (plain_fn (by kernel_rfl))) h
theorem gls_aw (n : Nat) : glsT n 18 = some (.pure awG) := by unfold glsT ext; rw [if_pos rfl]
theorem gls_l19 (n : Nat) : glsT n 19 = some (.pure (run (n + 9) 19)) := by unfold glsT ext; rw [if_neg (by decide)]; exact tb_19 _
theorem gls_l20 (n : Nat) : glsT n 20 = some (.pure (run (n + 9) 20)) := by unfold glsT ext; rw [if_neg (by decide)]; exact tb_20 _
theorem gls_l21 (n : Nat) : glsT n 21 = some (.pure (run (n + 9) 21)) := by unfold glsT ext; rw [if_neg (by decide)]; exact tb_21 _
theorem gls_l22 (n : Nat) : glsT n 22 = some (.pure (run (n + 9) 22)) := by unfold glsT ext; rw [if_neg (by decide)]; exact tb_22 _
theorem gls_l23 (n : Nat) : glsT n 23 = some (.pure (run (n + 9) 23)) := by unfold glsT ext; rw [if_neg (by decide)]; exact tb_23 _
theorem gls_l24 (n : Nat) : glsT n 24 = some (.pure (run (n + 9) 24)) := by unfold glsT ext; rw [if_neg (by decide)]; exact tb_24 _
theorem gls_l25 (n : Nat) : glsT n 25 = some (.pure (run (n + 9) 25)) := by unfold glsT ext; rw [if_neg (by decide)]; exact tb_25 _
theorem gls_l26 (n : Nat) : glsT n 26 = some (.pure (run (n + 9) 26)) := by unfold glsT ext; rw [if_neg (by decide)]; exact tb_26 _
theorem gls_l27 (n : Nat) : glsT n 27 = some (.pure (run (n + 9) 27)) := by unfold glsT ext; rw [if_neg (by decide)]; exact tb_27 _
theorem gls_f1 {n : Nat} {a0 : List Int} {a1 : Int} {a2 : Raw} (C1 : 400 < (a0.length : Int)) :
    gls n [.sl 1 (a0.map intU8C), .lit (.int .i64 a1), .agg [.lit (.bool a2.s), natA a2.l1, natA a2.l2]] = some (.lit (.bool true)) := by
  have C1_ : 400 < a0.length := by omega
  unfold gls fnP
  simp +decide [Tryz.f4, C1, C1_, gls_aw, awG, gls_l19, gls_l20, gls_l21, gls_l22, gls_l23, gls_l24, gls_l25, gls_l26, gls_l27]
theorem gls_f2 {n : Nat} {a0 : List Int} {a1 : Int} {a2 : Raw} {r : Bool} (C1 : ¬ 400 < (a0.length : Int)) (K2 : run (n + 9) 19 [.agg [.lit (.bool a2.s), natA a2.l1, natA a2.l2]] = some (.lit (.bool r))) (C3 : r = false) :
    gls n [.sl 1 (a0.map intU8C), .lit (.int .i64 a1), .agg [.lit (.bool a2.s), natA a2.l1, natA a2.l2]] = some (.lit (.bool true)) := by
  have C1_ : ¬ 400 < a0.length := by omega
  unfold gls fnP
  simp +decide [Tryz.f4, C1, C1_, K2, C3, gls_aw, awG, gls_l19, gls_l20, gls_l21, gls_l22, gls_l23, gls_l24, gls_l25, gls_l26, gls_l27]
theorem gls_f5 {n : Nat} {a0 : List Int} {a1 : Int} {a2 : Raw} {r : Bool} {r2 : TGraph} {r3 : TGraph} {r4 : TGraph} {r5 : Int} {r6 : TGraph} {r7 : Int} {r8 : Bool} {r9 : TGraph} {r10 : Int} (C1 : ¬ 400 < (a0.length : Int)) (K2 : run (n + 9) 19 [.agg [.lit (.bool a2.s), natA a2.l1, natA a2.l2]] = some (.lit (.bool r))) (C3 : r = true) (K4 : run (n + 9) 20 [.sl 1 (a0.map intU8C)] = some (graphV r2)) (K5 : run (n + 9) 22 [graphV r2] = some (graphV r3)) (K6 : run (n + 9) 21 [graphV r3, .lit (.int .i64 a1), .agg [.lit (.bool a2.s), natA a2.l1, natA a2.l2]] = some (.tup [graphV r4, .lit (.int .i64 r5)])) (K7 : run (n + 9) 23 [graphV r2, .lit (.int .i64 a1), .agg [.lit (.bool a2.s), natA a2.l1, natA a2.l2]] = some (.tup [graphV r6, .lit (.int .i64 r7)])) (C8 : r5 = r7) (K9 : run (n + 9) 24 [graphV r4, graphV r6] = some (.lit (.bool r8))) (C10 : r8 = true) (K11 : run (n + 9) 21 [.agg [.lit (.int .i64 0), .sl 4 [], .sl 4 []], .lit (.int .i64 a1), .agg [.lit (.bool a2.s), natA a2.l1, natA a2.l2]] = some (.tup [graphV r9, .lit (.int .i64 r10)])) (C12 : r10 = 1) (C13 : ¬ r5 = 0) :
    gls n [.sl 1 (a0.map intU8C), .lit (.int .i64 a1), .agg [.lit (.bool a2.s), natA a2.l1, natA a2.l2]] = some (.lit (.bool true)) := by
  have C1_ : ¬ 400 < a0.length := by omega
  simp only [graphV] at K4
  simp only [graphV] at K5
  simp only [graphV] at K6
  simp only [graphV] at K7
  have C8_ : (r5 == r7) = true := by rw [C8]; simp
  have C8_n : (r5 != r7) = false := by rw [C8]; simp
  simp only [graphV] at K9
  simp only [graphV] at K11
  have C12_ : (r10 == 1) = true := by rw [C12]; simp
  have C12_n : (r10 != 1) = false := by rw [C12]; simp
  have C13_ : (r5 == 0) = false := by simpa using C13
  have C13_n : (r5 != 0) = true := by simpa using C13
  unfold gls fnP
  simp +decide [Tryz.f4, C1, C1_, K2, C3, K4, K5, K6, K7, C8_, C8_n, K9, C10, K11, C12_, C12_n, C13_, C13_n, gls_aw, awG, gls_l19, gls_l20, gls_l21, gls_l22, gls_l23, gls_l24, gls_l25, gls_l26, gls_l27]
theorem gls_f6 {n : Nat} {a0 : List Int} {a1 : Int} {a2 : Raw} {r : Bool} {r2 : TGraph} {r3 : TGraph} {r4 : TGraph} {r5 : Int} {r6 : TGraph} {r7 : Int} {r8 : Bool} {r9 : TGraph} {r10 : Int} {r11 : Bool} {r12 : List Rat} {r13 : Bool} (C1 : ¬ 400 < (a0.length : Int)) (K2 : run (n + 9) 19 [.agg [.lit (.bool a2.s), natA a2.l1, natA a2.l2]] = some (.lit (.bool r))) (C3 : r = true) (K4 : run (n + 9) 20 [.sl 1 (a0.map intU8C)] = some (graphV r2)) (K5 : run (n + 9) 22 [graphV r2] = some (graphV r3)) (K6 : run (n + 9) 21 [graphV r3, .lit (.int .i64 a1), .agg [.lit (.bool a2.s), natA a2.l1, natA a2.l2]] = some (.tup [graphV r4, .lit (.int .i64 r5)])) (K7 : run (n + 9) 23 [graphV r2, .lit (.int .i64 a1), .agg [.lit (.bool a2.s), natA a2.l1, natA a2.l2]] = some (.tup [graphV r6, .lit (.int .i64 r7)])) (C8 : r5 = r7) (K9 : run (n + 9) 24 [graphV r4, graphV r6] = some (.lit (.bool r8))) (C10 : r8 = true) (K11 : run (n + 9) 21 [.agg [.lit (.int .i64 0), .sl 4 [], .sl 4 []], .lit (.int .i64 a1), .agg [.lit (.bool a2.s), natA a2.l1, natA a2.l2]] = some (.tup [graphV r9, .lit (.int .i64 r10)])) (C12 : r10 = 1) (C13 : r5 = 0) (K14 : run (n + 9) 25 [graphV r4] = some (.lit (.bool r11))) (C15 : r11 = true) (K16 : run (n + 9) 27 [.sl 1 (a0.map intU8C), .lit (.int .i64 (r2.Inputs))] = some (.sl 3 (r12.map ratC))) (K17 : run (n + 9) 26 [graphV r4, graphV r2, .sl 3 (r12.map ratC)] = some (.lit (.bool r13))) :
    gls n [.sl 1 (a0.map intU8C), .lit (.int .i64 a1), .agg [.lit (.bool a2.s), natA a2.l1, natA a2.l2]] = some (.lit (.bool r13)) := by
  have C1_ : ¬ 400 < a0.length := by omega
  simp only [graphV] at K4
  simp only [graphV] at K5
  simp only [graphV] at K6
  simp only [graphV] at K7
  have C8_ : (r5 == r7) = true := by rw [C8]; simp
  have C8_n : (r5 != r7) = false := by rw [C8]; simp
  simp only [graphV] at K9
  simp only [graphV] at K11
  have C12_ : (r10 == 1) = true := by rw [C12]; simp
  have C12_n : (r10 != 1) = false := by rw [C12]; simp
  have C13_ : (r5 == 0) = true := by rw [C13]; simp
  have C13_n : (r5 != 0) = false := by rw [C13]; simp
  simp only [graphV] at K14
  simp only [graphV] at K17
  unfold gls fnP
  simp +decide [Tryz.f4, C1, C1_, K2, C3, K4, K5, K6, K7, C8_, C8_n, K9, C10, K11, C12_, C12_n, C13_, C13_n, K14, C15, K16, K17, gls_aw, awG, gls_l19, gls_l20, gls_l21, gls_l22, gls_l23, gls_l24, gls_l25, gls_l26, gls_l27]
end Go.Proofs.YtlpmemelhlnfbaaGreatDoor
