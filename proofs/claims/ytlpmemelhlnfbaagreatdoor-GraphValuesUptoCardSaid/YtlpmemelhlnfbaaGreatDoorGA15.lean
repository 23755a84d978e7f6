/- Walks: relucertlaw15.short@0, relucertlaw15.copied. Walks: relucertref15.Equal, relucertlaw15.same, relucertref03.SameAll. -/
import Derived.Test.YtlpmemelhlnfbaaGreatDoorGA5
set_option linter.all false
set_option linter.all false
set_option maxRecDepth 100000
set_option maxHeartbeats 6400000
namespace Go.Proofs.YtlpmemelhlnfbaaGreatDoor
open Go.RowKit

/-! relucertlaw15.short, level 0 -/
theorem shR_f1 {n : Nat} {a0 : Raw} (C1 : (a0.l1.length : Int) ≤ 2) :
    run n 19 [.agg [.lit (.bool a0.s), natA a0.l1, natA a0.l2]] = some (.lit (.bool (decide ((a0.l2.length : Int) ≤ 2)))) := by
  have C1_ : a0.l1.length ≤ 2 := by omega
  unfold run fnP
  simp +decide [Tryz.f19, C1, C1_]
theorem shR_f2 {n : Nat} {a0 : Raw} (C1 : ¬ (a0.l1.length : Int) ≤ 2) :
    run n 19 [.agg [.lit (.bool a0.s), natA a0.l1, natA a0.l2]] = some (.lit (.bool false)) := by
  have C1_ : ¬ a0.l1.length ≤ 2 := by omega
  unfold run fnP
  simp +decide [Tryz.f19, C1, C1_]
/-! relucertlaw15.copied, level 0 -/
end Go.Proofs.YtlpmemelhlnfbaaGreatDoor
set_option linter.all false
set_option maxRecDepth 100000
set_option maxHeartbeats 6400000
namespace Go.Proofs.YtlpmemelhlnfbaaGreatDoor
open Go.RowKit

/-! relucertref15.Equal, level 2 -/
/-! relucertlaw15.same, level 6 -/
/-! relucertref03.SameAll, level 0 -/
noncomputable def sal_C4 : Code := (loopsOf (bodyOf Tryz.f38)).getD 0 .skip
def sal_h4 (a0 : List Rat) (a1 : List Rat) (i_4 : Nat) : St :=
  ⟨[(0, .sl 3 (a0.map ratC)), (1, .sl 3 (a1.map ratC)), (5, .lit (.int .i64 (i_4 : Int)))],
   [], 0⟩
def sal_o4b  : St :=
  ⟨[(4, .any)],
   [], 0⟩
theorem sal_r4_1 {n : Nat} {a0 : List Rat} {a1 : List Rat} {i_4 : Nat} {x5 : Rat} {x6 : Rat} (C1 : (i_4 : Int) < (a0.length : Int)) (E2 : a0[i_4]? = some x5) (E3 : a1[i_4]? = some x6) (B4a : H x5 ≤ 17179869184) (B4b : H x6 ≤ 17179869184) (C5 : x5 = x6) (W6 : InI ((i_4 : Int) + 1)) :
    Cont 0 (exec Tryz.prog (tab n) 0 27 (livesOf 38) big sal_C4) (livesOf 38 4) (sal_h4 a0 a1 i_4) (sal_h4 a0 a1 (i_4 + 1)) := by
  have C1_ : i_4 < a0.length := by omega
  obtain ⟨EL2, EG2⟩ := List.getElem?_eq_some_iff.1 E2
  obtain ⟨EL3, EG3⟩ := List.getElem?_eq_some_iff.1 E3
  have K4 := r_same (p := x5) (q := x6) B4a B4b
  have C5_ : decide (x5 = x6) = true := decide_eq_true C5
  have W6_ : IntKind.i64.wrap ((i_4 : Int) + 1) = (i_4 : Int) + 1 := wr64 W6.1 W6.2
  unfold Cont
  simp +decide [sal_h4, loopsOf, Tryz.f38, sal_C4, C1, C1_, EL2, EG2, E2, EL3, EG3, E3, K4, C5_, W6_]
theorem sal_x4_2 {n : Nat} {a0 : List Rat} {a1 : List Rat} {i_4 : Nat} (C1 : ¬ (i_4 : Int) < (a0.length : Int)) :
    Leave 0 (exec Tryz.prog (tab n) 0 27 (livesOf 38) big sal_C4) (livesOf 38 (outOf 4)) (sal_h4 a0 a1 i_4) (.exit 0) (sal_o4b ) := by
  have C1_ : ¬ i_4 < a0.length := by omega
  unfold Leave
  simp +decide [sal_h4, loopsOf, Tryz.f38, sal_o4b, sal_C4, C1, C1_]
theorem sal_f3 {n : Nat} {a0 : List Rat} {a1 : List Rat} (C1 : (a0.length : Int) = (a1.length : Int)) (L2 : loopG Tryz.prog (tab n) 0 27 (livesOf 38) 4 sal_C4 (sal_h4 a0 a1 0) = some (.exit 0, sal_o4b )) :
    run n 38 [.sl 3 (a0.map ratC), .sl 3 (a1.map ratC)] = some (.lit (.bool true)) := by
  have C1_ : ((a0.length : Int) == (a1.length : Int)) = true := by rw [C1]; simp
  have C1_n : ((a0.length : Int) != (a1.length : Int)) = false := by rw [C1]; simp
  unfold run fnP
  simp +decide [Tryz.f38, C1_, C1_n]
  rw [loopX_G (C' := sal_C4) (e := (sal_h4 a0 a1 0)) ?_ ?_, L2]
  rotate_left
  · kernel_rfl
  · simp +decide [sal_h4, C1_, C1_n]
  simp +decide [sal_o4b, C1_, C1_n]
end Go.Proofs.YtlpmemelhlnfbaaGreatDoor
