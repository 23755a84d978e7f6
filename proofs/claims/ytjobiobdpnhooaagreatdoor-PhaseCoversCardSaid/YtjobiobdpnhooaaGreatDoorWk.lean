/- Walks: relucertref21.fits. -/
import Derived.Test.YtjobiobdpnhooaaGreatDoorUe
set_option linter.all false
set_option linter.all false
set_option maxRecDepth 100000
set_option maxHeartbeats 6400000
namespace Go.Proofs.YtjobiobdpnhooaaGreatDoor
open Go.RowKit

/-! relucertref21.fits, level 0 -/
theorem fi_f1 {n : Nat} {a0 : TQuery} {a1 : TDecision} (C1 : a1.Kind = 1) (C2 : 0 ≤ a1.Index) (C3 : a1.Index < (a0.Graph.Units.length : Int)) (B4a : H a1.At ≤ 17179869184) :
    run n 26 [queryV a0, decisionV a1] = some (.lit (.bool (decide (a1.At = 0)))) := by
  have C1_ : (a1.Kind == 1) = true := by rw [C1]; simp
  have C1_n : (a1.Kind != 1) = false := by rw [C1]; simp
  have B4b : H 0 ≤ 17179869184 := by decide
  have K4 := r_same (p := a1.At) (q := 0) B4a B4b
  simp only [z0s, z0n, z0d] at K4
  unfold run fnP
  simp +decide [Tryz.f26, C1_, C1_n, C2, C3, K4]
theorem fi_f2 {n : Nat} {a0 : TQuery} {a1 : TDecision} (C1 : a1.Kind = 1) (C2 : 0 ≤ a1.Index) (C3 : ¬ a1.Index < (a0.Graph.Units.length : Int)) :
    run n 26 [queryV a0, decisionV a1] = some (.lit (.bool false)) := by
  have C1_ : (a1.Kind == 1) = true := by rw [C1]; simp
  have C1_n : (a1.Kind != 1) = false := by rw [C1]; simp
  unfold run fnP
  simp +decide [Tryz.f26, C1_, C1_n, C2, C3]
theorem fi_f3 {n : Nat} {a0 : TQuery} {a1 : TDecision} (C1 : a1.Kind = 1) (C2 : ¬ 0 ≤ a1.Index) :
    run n 26 [queryV a0, decisionV a1] = some (.lit (.bool false)) := by
  have C1_ : (a1.Kind == 1) = true := by rw [C1]; simp
  have C1_n : (a1.Kind != 1) = false := by rw [C1]; simp
  unfold run fnP
  simp +decide [Tryz.f26, C1_, C1_n, C2]
theorem fi_f4 {n : Nat} {a0 : TQuery} {a1 : TDecision} (C1 : ¬ a1.Kind = 1) (C2 : a1.Kind = 2) (C3 : 0 ≤ a1.Index) (C4 : a1.Index < (a0.Graph.Units.length : Int)) (B5a : H a1.At ≤ 17179869184) :
    run n 26 [queryV a0, decisionV a1] = some (.lit (.bool (decide (a1.At = 0)))) := by
  have C1_ : (a1.Kind == 1) = false := by simpa using C1
  have C1_n : (a1.Kind != 1) = true := by simpa using C1
  have C2_ : (a1.Kind == 2) = true := by rw [C2]; simp
  have C2_n : (a1.Kind != 2) = false := by rw [C2]; simp
  have B5b : H 0 ≤ 17179869184 := by decide
  have K5 := r_same (p := a1.At) (q := 0) B5a B5b
  simp only [z0s, z0n, z0d] at K5
  unfold run fnP
  simp +decide [Tryz.f26, C1_, C1_n, C2_, C2_n, C3, C4, K5]
theorem fi_f5 {n : Nat} {a0 : TQuery} {a1 : TDecision} (C1 : ¬ a1.Kind = 1) (C2 : a1.Kind = 2) (C3 : 0 ≤ a1.Index) (C4 : ¬ a1.Index < (a0.Graph.Units.length : Int)) :
    run n 26 [queryV a0, decisionV a1] = some (.lit (.bool false)) := by
  have C1_ : (a1.Kind == 1) = false := by simpa using C1
  have C1_n : (a1.Kind != 1) = true := by simpa using C1
  have C2_ : (a1.Kind == 2) = true := by rw [C2]; simp
  have C2_n : (a1.Kind != 2) = false := by rw [C2]; simp
  unfold run fnP
  simp +decide [Tryz.f26, C1_, C1_n, C2_, C2_n, C3, C4]
theorem fi_f6 {n : Nat} {a0 : TQuery} {a1 : TDecision} (C1 : ¬ a1.Kind = 1) (C2 : a1.Kind = 2) (C3 : ¬ 0 ≤ a1.Index) :
    run n 26 [queryV a0, decisionV a1] = some (.lit (.bool false)) := by
  have C1_ : (a1.Kind == 1) = false := by simpa using C1
  have C1_n : (a1.Kind != 1) = true := by simpa using C1
  have C2_ : (a1.Kind == 2) = true := by rw [C2]; simp
  have C2_n : (a1.Kind != 2) = false := by rw [C2]; simp
  unfold run fnP
  simp +decide [Tryz.f26, C1_, C1_n, C2_, C2_n, C3]
theorem fi_f7 {n : Nat} {a0 : TQuery} {a1 : TDecision} (C1 : ¬ a1.Kind = 1) (C2 : ¬ a1.Kind = 2) (C3 : a1.Kind = 3) (C4 : 0 ≤ a1.Index) (C5 : a1.Index < a0.Graph.Inputs) (B6a : H a1.At ≤ 17179869184) :
    run n 26 [queryV a0, decisionV a1] = some (.lit (.bool true)) := by
  have C1_ : (a1.Kind == 1) = false := by simpa using C1
  have C1_n : (a1.Kind != 1) = true := by simpa using C1
  have C2_ : (a1.Kind == 2) = false := by simpa using C2
  have C2_n : (a1.Kind != 2) = true := by simpa using C2
  have C3_ : (a1.Kind == 3) = true := by rw [C3]; simp
  have C3_n : (a1.Kind != 3) = false := by rw [C3]; simp
  have K6 := r_valid (p := a1.At) B6a
  unfold run fnP
  simp +decide [Tryz.f26, C1_, C1_n, C2_, C2_n, C3_, C3_n, C4, C5, K6]
theorem fi_f8 {n : Nat} {a0 : TQuery} {a1 : TDecision} (C1 : ¬ a1.Kind = 1) (C2 : ¬ a1.Kind = 2) (C3 : a1.Kind = 3) (C4 : 0 ≤ a1.Index) (C5 : ¬ a1.Index < a0.Graph.Inputs) :
    run n 26 [queryV a0, decisionV a1] = some (.lit (.bool false)) := by
  have C1_ : (a1.Kind == 1) = false := by simpa using C1
  have C1_n : (a1.Kind != 1) = true := by simpa using C1
  have C2_ : (a1.Kind == 2) = false := by simpa using C2
  have C2_n : (a1.Kind != 2) = true := by simpa using C2
  have C3_ : (a1.Kind == 3) = true := by rw [C3]; simp
  have C3_n : (a1.Kind != 3) = false := by rw [C3]; simp
  unfold run fnP
  simp +decide [Tryz.f26, C1_, C1_n, C2_, C2_n, C3_, C3_n, C4, C5]
theorem fi_f9 {n : Nat} {a0 : TQuery} {a1 : TDecision} (C1 : ¬ a1.Kind = 1) (C2 : ¬ a1.Kind = 2) (C3 : a1.Kind = 3) (C4 : ¬ 0 ≤ a1.Index) :
    run n 26 [queryV a0, decisionV a1] = some (.lit (.bool false)) := by
  have C1_ : (a1.Kind == 1) = false := by simpa using C1
  have C1_n : (a1.Kind != 1) = true := by simpa using C1
  have C2_ : (a1.Kind == 2) = false := by simpa using C2
  have C2_n : (a1.Kind != 2) = true := by simpa using C2
  have C3_ : (a1.Kind == 3) = true := by rw [C3]; simp
  have C3_n : (a1.Kind != 3) = false := by rw [C3]; simp
  unfold run fnP
  simp +decide [Tryz.f26, C1_, C1_n, C2_, C2_n, C3_, C3_n, C4]
theorem fi_f10 {n : Nat} {a0 : TQuery} {a1 : TDecision} (C1 : ¬ a1.Kind = 1) (C2 : ¬ a1.Kind = 2) (C3 : ¬ a1.Kind = 3) (C4 : a1.Kind = 4) (C5 : 0 ≤ a1.Index) (C6 : a1.Index < a0.Graph.Inputs) (B7a : H a1.At ≤ 17179869184) :
    run n 26 [queryV a0, decisionV a1] = some (.lit (.bool true)) := by
  have C1_ : (a1.Kind == 1) = false := by simpa using C1
  have C1_n : (a1.Kind != 1) = true := by simpa using C1
  have C2_ : (a1.Kind == 2) = false := by simpa using C2
  have C2_n : (a1.Kind != 2) = true := by simpa using C2
  have C3_ : (a1.Kind == 3) = false := by simpa using C3
  have C3_n : (a1.Kind != 3) = true := by simpa using C3
  have C4_ : (a1.Kind == 4) = true := by rw [C4]; simp
  have C4_n : (a1.Kind != 4) = false := by rw [C4]; simp
  have K7 := r_valid (p := a1.At) B7a
  unfold run fnP
  simp +decide [Tryz.f26, C1_, C1_n, C2_, C2_n, C3_, C3_n, C4_, C4_n, C5, C6, K7]
theorem fi_f11 {n : Nat} {a0 : TQuery} {a1 : TDecision} (C1 : ¬ a1.Kind = 1) (C2 : ¬ a1.Kind = 2) (C3 : ¬ a1.Kind = 3) (C4 : a1.Kind = 4) (C5 : 0 ≤ a1.Index) (C6 : ¬ a1.Index < a0.Graph.Inputs) :
    run n 26 [queryV a0, decisionV a1] = some (.lit (.bool false)) := by
  have C1_ : (a1.Kind == 1) = false := by simpa using C1
  have C1_n : (a1.Kind != 1) = true := by simpa using C1
  have C2_ : (a1.Kind == 2) = false := by simpa using C2
  have C2_n : (a1.Kind != 2) = true := by simpa using C2
  have C3_ : (a1.Kind == 3) = false := by simpa using C3
  have C3_n : (a1.Kind != 3) = true := by simpa using C3
  have C4_ : (a1.Kind == 4) = true := by rw [C4]; simp
  have C4_n : (a1.Kind != 4) = false := by rw [C4]; simp
  unfold run fnP
  simp +decide [Tryz.f26, C1_, C1_n, C2_, C2_n, C3_, C3_n, C4_, C4_n, C5, C6]
theorem fi_f12 {n : Nat} {a0 : TQuery} {a1 : TDecision} (C1 : ¬ a1.Kind = 1) (C2 : ¬ a1.Kind = 2) (C3 : ¬ a1.Kind = 3) (C4 : a1.Kind = 4) (C5 : ¬ 0 ≤ a1.Index) :
    run n 26 [queryV a0, decisionV a1] = some (.lit (.bool false)) := by
  have C1_ : (a1.Kind == 1) = false := by simpa using C1
  have C1_n : (a1.Kind != 1) = true := by simpa using C1
  have C2_ : (a1.Kind == 2) = false := by simpa using C2
  have C2_n : (a1.Kind != 2) = true := by simpa using C2
  have C3_ : (a1.Kind == 3) = false := by simpa using C3
  have C3_n : (a1.Kind != 3) = true := by simpa using C3
  have C4_ : (a1.Kind == 4) = true := by rw [C4]; simp
  have C4_n : (a1.Kind != 4) = false := by rw [C4]; simp
  unfold run fnP
  simp +decide [Tryz.f26, C1_, C1_n, C2_, C2_n, C3_, C3_n, C4_, C4_n, C5]
theorem fi_f13 {n : Nat} {a0 : TQuery} {a1 : TDecision} (C1 : ¬ a1.Kind = 1) (C2 : ¬ a1.Kind = 2) (C3 : ¬ a1.Kind = 3) (C4 : ¬ a1.Kind = 4) :
    run n 26 [queryV a0, decisionV a1] = some (.lit (.bool false)) := by
  have C1_ : (a1.Kind == 1) = false := by simpa using C1
  have C1_n : (a1.Kind != 1) = true := by simpa using C1
  have C2_ : (a1.Kind == 2) = false := by simpa using C2
  have C2_n : (a1.Kind != 2) = true := by simpa using C2
  have C3_ : (a1.Kind == 3) = false := by simpa using C3
  have C3_n : (a1.Kind != 3) = true := by simpa using C3
  have C4_ : (a1.Kind == 4) = false := by simpa using C4
  have C4_n : (a1.Kind != 4) = true := by simpa using C4
  unfold run fnP
  simp +decide [Tryz.f26, C1_, C1_n, C2_, C2_n, C3_, C3_n, C4_, C4_n]
end Go.Proofs.YtjobiobdpnhooaaGreatDoor
