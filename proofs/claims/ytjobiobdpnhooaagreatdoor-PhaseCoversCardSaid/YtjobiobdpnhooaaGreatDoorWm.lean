/- Walks: relucertref21.fits@1, relucertref21.Fits@1. -/
import Derived.Test.YtjobiobdpnhooaaGreatDoorUe
set_option linter.all false
set_option linter.all false
set_option maxRecDepth 100000
set_option maxHeartbeats 6400000
namespace Go.Proofs.YtjobiobdpnhooaaGreatDoor
open Go.RowKit

/-! relucertref21.fits, level 0 -/
theorem fir_f1 {n : Nat} {a0 : TQuery} {a1 : TDecisionR} (C1 : a1.Kind = 1) (C2 : 0 ≤ a1.Index) (C3 : a1.Index < (a0.Graph.Units.length : Int)) (B4 : RawB a1.At) :
    run n 26 [queryV a0, .agg [.lit (.int .i64 (a1.Kind)), .lit (.int .i64 (a1.Index)), .lit (.bool a1.At.s), natA a1.At.l1, natA a1.At.l2]] = some (.lit (.bool (decide (a1.At = rawQ 0)))) := by
  have C1_ : (a1.Kind == 1) = true := by rw [C1]; simp
  have C1_n : (a1.Kind != 1) = false := by rw [C1]; simp
  have K4 := rr_same0 B4
  unfold run fnP
  simp +decide [Tryz.f26, C1_, C1_n, C2, C3, K4]
theorem fir_f2 {n : Nat} {a0 : TQuery} {a1 : TDecisionR} (C1 : a1.Kind = 1) (C2 : 0 ≤ a1.Index) (C3 : ¬ a1.Index < (a0.Graph.Units.length : Int)) :
    run n 26 [queryV a0, .agg [.lit (.int .i64 (a1.Kind)), .lit (.int .i64 (a1.Index)), .lit (.bool a1.At.s), natA a1.At.l1, natA a1.At.l2]] = some (.lit (.bool false)) := by
  have C1_ : (a1.Kind == 1) = true := by rw [C1]; simp
  have C1_n : (a1.Kind != 1) = false := by rw [C1]; simp
  unfold run fnP
  simp +decide [Tryz.f26, C1_, C1_n, C2, C3]
theorem fir_f3 {n : Nat} {a0 : TQuery} {a1 : TDecisionR} (C1 : a1.Kind = 1) (C2 : ¬ 0 ≤ a1.Index) :
    run n 26 [queryV a0, .agg [.lit (.int .i64 (a1.Kind)), .lit (.int .i64 (a1.Index)), .lit (.bool a1.At.s), natA a1.At.l1, natA a1.At.l2]] = some (.lit (.bool false)) := by
  have C1_ : (a1.Kind == 1) = true := by rw [C1]; simp
  have C1_n : (a1.Kind != 1) = false := by rw [C1]; simp
  unfold run fnP
  simp +decide [Tryz.f26, C1_, C1_n, C2]
theorem fir_f4 {n : Nat} {a0 : TQuery} {a1 : TDecisionR} (C1 : ¬ a1.Kind = 1) (C2 : a1.Kind = 2) (C3 : 0 ≤ a1.Index) (C4 : a1.Index < (a0.Graph.Units.length : Int)) (B5 : RawB a1.At) :
    run n 26 [queryV a0, .agg [.lit (.int .i64 (a1.Kind)), .lit (.int .i64 (a1.Index)), .lit (.bool a1.At.s), natA a1.At.l1, natA a1.At.l2]] = some (.lit (.bool (decide (a1.At = rawQ 0)))) := by
  have C1_ : (a1.Kind == 1) = false := by simpa using C1
  have C1_n : (a1.Kind != 1) = true := by simpa using C1
  have C2_ : (a1.Kind == 2) = true := by rw [C2]; simp
  have C2_n : (a1.Kind != 2) = false := by rw [C2]; simp
  have K5 := rr_same0 B5
  unfold run fnP
  simp +decide [Tryz.f26, C1_, C1_n, C2_, C2_n, C3, C4, K5]
theorem fir_f5 {n : Nat} {a0 : TQuery} {a1 : TDecisionR} (C1 : ¬ a1.Kind = 1) (C2 : a1.Kind = 2) (C3 : 0 ≤ a1.Index) (C4 : ¬ a1.Index < (a0.Graph.Units.length : Int)) :
    run n 26 [queryV a0, .agg [.lit (.int .i64 (a1.Kind)), .lit (.int .i64 (a1.Index)), .lit (.bool a1.At.s), natA a1.At.l1, natA a1.At.l2]] = some (.lit (.bool false)) := by
  have C1_ : (a1.Kind == 1) = false := by simpa using C1
  have C1_n : (a1.Kind != 1) = true := by simpa using C1
  have C2_ : (a1.Kind == 2) = true := by rw [C2]; simp
  have C2_n : (a1.Kind != 2) = false := by rw [C2]; simp
  unfold run fnP
  simp +decide [Tryz.f26, C1_, C1_n, C2_, C2_n, C3, C4]
theorem fir_f6 {n : Nat} {a0 : TQuery} {a1 : TDecisionR} (C1 : ¬ a1.Kind = 1) (C2 : a1.Kind = 2) (C3 : ¬ 0 ≤ a1.Index) :
    run n 26 [queryV a0, .agg [.lit (.int .i64 (a1.Kind)), .lit (.int .i64 (a1.Index)), .lit (.bool a1.At.s), natA a1.At.l1, natA a1.At.l2]] = some (.lit (.bool false)) := by
  have C1_ : (a1.Kind == 1) = false := by simpa using C1
  have C1_n : (a1.Kind != 1) = true := by simpa using C1
  have C2_ : (a1.Kind == 2) = true := by rw [C2]; simp
  have C2_n : (a1.Kind != 2) = false := by rw [C2]; simp
  unfold run fnP
  simp +decide [Tryz.f26, C1_, C1_n, C2_, C2_n, C3]
theorem fir_f7 {n : Nat} {a0 : TQuery} {a1 : TDecisionR} (C1 : ¬ a1.Kind = 1) (C2 : ¬ a1.Kind = 2) (C3 : a1.Kind = 3) (C4 : 0 ≤ a1.Index) (C5 : a1.Index < a0.Graph.Inputs) (B6 : RawB a1.At) :
    run n 26 [queryV a0, .agg [.lit (.int .i64 (a1.Kind)), .lit (.int .i64 (a1.Index)), .lit (.bool a1.At.s), natA a1.At.l1, natA a1.At.l2]] = some (.lit (.bool (decide (RatV a1.At.s a1.At.l1 a1.At.l2)))) := by
  have C1_ : (a1.Kind == 1) = false := by simpa using C1
  have C1_n : (a1.Kind != 1) = true := by simpa using C1
  have C2_ : (a1.Kind == 2) = false := by simpa using C2
  have C2_n : (a1.Kind != 2) = true := by simpa using C2
  have C3_ : (a1.Kind == 3) = true := by rw [C3]; simp
  have C3_n : (a1.Kind != 3) = false := by rw [C3]; simp
  have K6 := rr_valid B6
  unfold run fnP
  simp +decide [Tryz.f26, C1_, C1_n, C2_, C2_n, C3_, C3_n, C4, C5, K6]
theorem fir_f8 {n : Nat} {a0 : TQuery} {a1 : TDecisionR} (C1 : ¬ a1.Kind = 1) (C2 : ¬ a1.Kind = 2) (C3 : a1.Kind = 3) (C4 : 0 ≤ a1.Index) (C5 : ¬ a1.Index < a0.Graph.Inputs) :
    run n 26 [queryV a0, .agg [.lit (.int .i64 (a1.Kind)), .lit (.int .i64 (a1.Index)), .lit (.bool a1.At.s), natA a1.At.l1, natA a1.At.l2]] = some (.lit (.bool false)) := by
  have C1_ : (a1.Kind == 1) = false := by simpa using C1
  have C1_n : (a1.Kind != 1) = true := by simpa using C1
  have C2_ : (a1.Kind == 2) = false := by simpa using C2
  have C2_n : (a1.Kind != 2) = true := by simpa using C2
  have C3_ : (a1.Kind == 3) = true := by rw [C3]; simp
  have C3_n : (a1.Kind != 3) = false := by rw [C3]; simp
  unfold run fnP
  simp +decide [Tryz.f26, C1_, C1_n, C2_, C2_n, C3_, C3_n, C4, C5]
theorem fir_f9 {n : Nat} {a0 : TQuery} {a1 : TDecisionR} (C1 : ¬ a1.Kind = 1) (C2 : ¬ a1.Kind = 2) (C3 : a1.Kind = 3) (C4 : ¬ 0 ≤ a1.Index) :
    run n 26 [queryV a0, .agg [.lit (.int .i64 (a1.Kind)), .lit (.int .i64 (a1.Index)), .lit (.bool a1.At.s), natA a1.At.l1, natA a1.At.l2]] = some (.lit (.bool false)) := by
  have C1_ : (a1.Kind == 1) = false := by simpa using C1
  have C1_n : (a1.Kind != 1) = true := by simpa using C1
  have C2_ : (a1.Kind == 2) = false := by simpa using C2
  have C2_n : (a1.Kind != 2) = true := by simpa using C2
  have C3_ : (a1.Kind == 3) = true := by rw [C3]; simp
  have C3_n : (a1.Kind != 3) = false := by rw [C3]; simp
  unfold run fnP
  simp +decide [Tryz.f26, C1_, C1_n, C2_, C2_n, C3_, C3_n, C4]
theorem fir_f10 {n : Nat} {a0 : TQuery} {a1 : TDecisionR} (C1 : ¬ a1.Kind = 1) (C2 : ¬ a1.Kind = 2) (C3 : ¬ a1.Kind = 3) (C4 : a1.Kind = 4) (C5 : 0 ≤ a1.Index) (C6 : a1.Index < a0.Graph.Inputs) (B7 : RawB a1.At) :
    run n 26 [queryV a0, .agg [.lit (.int .i64 (a1.Kind)), .lit (.int .i64 (a1.Index)), .lit (.bool a1.At.s), natA a1.At.l1, natA a1.At.l2]] = some (.lit (.bool (decide (RatV a1.At.s a1.At.l1 a1.At.l2)))) := by
  have C1_ : (a1.Kind == 1) = false := by simpa using C1
  have C1_n : (a1.Kind != 1) = true := by simpa using C1
  have C2_ : (a1.Kind == 2) = false := by simpa using C2
  have C2_n : (a1.Kind != 2) = true := by simpa using C2
  have C3_ : (a1.Kind == 3) = false := by simpa using C3
  have C3_n : (a1.Kind != 3) = true := by simpa using C3
  have C4_ : (a1.Kind == 4) = true := by rw [C4]; simp
  have C4_n : (a1.Kind != 4) = false := by rw [C4]; simp
  have K7 := rr_valid B7
  unfold run fnP
  simp +decide [Tryz.f26, C1_, C1_n, C2_, C2_n, C3_, C3_n, C4_, C4_n, C5, C6, K7]
theorem fir_f11 {n : Nat} {a0 : TQuery} {a1 : TDecisionR} (C1 : ¬ a1.Kind = 1) (C2 : ¬ a1.Kind = 2) (C3 : ¬ a1.Kind = 3) (C4 : a1.Kind = 4) (C5 : 0 ≤ a1.Index) (C6 : ¬ a1.Index < a0.Graph.Inputs) :
    run n 26 [queryV a0, .agg [.lit (.int .i64 (a1.Kind)), .lit (.int .i64 (a1.Index)), .lit (.bool a1.At.s), natA a1.At.l1, natA a1.At.l2]] = some (.lit (.bool false)) := by
  have C1_ : (a1.Kind == 1) = false := by simpa using C1
  have C1_n : (a1.Kind != 1) = true := by simpa using C1
  have C2_ : (a1.Kind == 2) = false := by simpa using C2
  have C2_n : (a1.Kind != 2) = true := by simpa using C2
  have C3_ : (a1.Kind == 3) = false := by simpa using C3
  have C3_n : (a1.Kind != 3) = true := by simpa using C3
  have C4_ : (a1.Kind == 4) = true := by rw [C4]; simp
  have C4_n : (a1.Kind != 4) = false := by rw [C4]; simp
  unfold run fnP
  simp +decide [Tryz.f26, C1_, C1_n, C2_, C2_n, C3_, C3_n, C4_, C4_n, C5, C6]
theorem fir_f12 {n : Nat} {a0 : TQuery} {a1 : TDecisionR} (C1 : ¬ a1.Kind = 1) (C2 : ¬ a1.Kind = 2) (C3 : ¬ a1.Kind = 3) (C4 : a1.Kind = 4) (C5 : ¬ 0 ≤ a1.Index) :
    run n 26 [queryV a0, .agg [.lit (.int .i64 (a1.Kind)), .lit (.int .i64 (a1.Index)), .lit (.bool a1.At.s), natA a1.At.l1, natA a1.At.l2]] = some (.lit (.bool false)) := by
  have C1_ : (a1.Kind == 1) = false := by simpa using C1
  have C1_n : (a1.Kind != 1) = true := by simpa using C1
  have C2_ : (a1.Kind == 2) = false := by simpa using C2
  have C2_n : (a1.Kind != 2) = true := by simpa using C2
  have C3_ : (a1.Kind == 3) = false := by simpa using C3
  have C3_n : (a1.Kind != 3) = true := by simpa using C3
  have C4_ : (a1.Kind == 4) = true := by rw [C4]; simp
  have C4_n : (a1.Kind != 4) = false := by rw [C4]; simp
  unfold run fnP
  simp +decide [Tryz.f26, C1_, C1_n, C2_, C2_n, C3_, C3_n, C4_, C4_n, C5]
theorem fir_f13 {n : Nat} {a0 : TQuery} {a1 : TDecisionR} (C1 : ¬ a1.Kind = 1) (C2 : ¬ a1.Kind = 2) (C3 : ¬ a1.Kind = 3) (C4 : ¬ a1.Kind = 4) :
    run n 26 [queryV a0, .agg [.lit (.int .i64 (a1.Kind)), .lit (.int .i64 (a1.Index)), .lit (.bool a1.At.s), natA a1.At.l1, natA a1.At.l2]] = some (.lit (.bool false)) := by
  have C1_ : (a1.Kind == 1) = false := by simpa using C1
  have C1_n : (a1.Kind != 1) = true := by simpa using C1
  have C2_ : (a1.Kind == 2) = false := by simpa using C2
  have C2_n : (a1.Kind != 2) = true := by simpa using C2
  have C3_ : (a1.Kind == 3) = false := by simpa using C3
  have C3_n : (a1.Kind != 3) = true := by simpa using C3
  have C4_ : (a1.Kind == 4) = false := by simpa using C4
  have C4_n : (a1.Kind != 4) = true := by simpa using C4
  unfold run fnP
  simp +decide [Tryz.f26, C1_, C1_n, C2_, C2_n, C3_, C3_n, C4_, C4_n]
/-! relucertref21.Fits, level 5 -/
theorem ftr_f1 {n : Nat} {a0 : TQuery} {a1 : TDecisionR} {r : Bool} {r2 : Bool} (K1 : run (n + 4) 25 [queryV a0] = some (.lit (.bool r))) (C2 : r = true) (K3 : run (n + 4) 26 [queryV a0, .agg [.lit (.int .i64 (a1.Kind)), .lit (.int .i64 (a1.Index)), .lit (.bool a1.At.s), natA a1.At.l1, natA a1.At.l2]] = some (.lit (.bool r2))) :
    run (n + 5) 9 [queryV a0, .agg [.lit (.int .i64 (a1.Kind)), .lit (.int .i64 (a1.Index)), .lit (.bool a1.At.s), natA a1.At.l1, natA a1.At.l2]] = some (.lit (.bool r2)) := by
  simp only [queryV] at K1
  simp only [queryV] at K3
  unfold run fnP
  simp +decide [Tryz.f9, K1, C2, K3]
theorem ftr_f2 {n : Nat} {a0 : TQuery} {a1 : TDecisionR} {r : Bool} (K1 : run (n + 4) 25 [queryV a0] = some (.lit (.bool r))) (C2 : r = false) :
    run (n + 5) 9 [queryV a0, .agg [.lit (.int .i64 (a1.Kind)), .lit (.int .i64 (a1.Index)), .lit (.bool a1.At.s), natA a1.At.l1, natA a1.At.l2]] = some (.lit (.bool false)) := by
  simp only [queryV] at K1
  unfold run fnP
  simp +decide [Tryz.f9, K1, C2]
end Go.Proofs.YtjobiobdpnhooaaGreatDoor
