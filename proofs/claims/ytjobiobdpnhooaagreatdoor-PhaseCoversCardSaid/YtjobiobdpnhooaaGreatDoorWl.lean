/- Walks: relucertref21.Holds. -/
import Derived.Test.YtjobiobdpnhooaaGreatDoorUe
set_option linter.all false
set_option linter.all false
set_option maxRecDepth 100000
set_option maxHeartbeats 6400000
namespace Go.Proofs.YtjobiobdpnhooaaGreatDoor
open Go.RowKit

/-! relucertref21.Holds, level 6 -/
theorem ho_f1 {n : Nat} {a0 : TQuery} {a1 : TDecision} {a2 : List Rat} {r : Bool} (K1 : run (n + 5) 9 [queryV a0, decisionV a1] = some (.lit (.bool r))) (C2 : r = false) :
    run (n + 6) 10 [queryV a0, decisionV a1, .sl 3 (a2.map ratC)] = some (.lit (.bool false)) := by
  simp only [queryV, decisionV] at K1
  unfold run fnP
  simp +decide [Tryz.f10, K1, C2]
theorem ho_f2 {n : Nat} {a0 : TQuery} {a1 : TDecision} {a2 : List Rat} {r : Bool} (K1 : run (n + 5) 9 [queryV a0, decisionV a1] = some (.lit (.bool r))) (C2 : r = true) (C3 : ¬ (a2.length : Int) = a0.Graph.Inputs) :
    run (n + 6) 10 [queryV a0, decisionV a1, .sl 3 (a2.map ratC)] = some (.lit (.bool false)) := by
  simp only [queryV, decisionV] at K1
  have C3_ : ((a2.length : Int) == a0.Graph.Inputs) = false := by simpa using C3
  have C3_n : ((a2.length : Int) != a0.Graph.Inputs) = true := by simpa using C3
  unfold run fnP
  simp +decide [Tryz.f10, K1, C2, C3_, C3_n]
theorem ho_f3 {n : Nat} {a0 : TQuery} {a1 : TDecision} {a2 : List Rat} {r : Bool} {x : Rat} (K1 : run (n + 5) 9 [queryV a0, decisionV a1] = some (.lit (.bool r))) (C2 : r = true) (C3 : (a2.length : Int) = a0.Graph.Inputs) (C4 : a1.Kind = 3) (E5 : a2[a1.Index.toNat]? = some x) (Z5 : 0 ≤ a1.Index) (B6a : H x ≤ 17179869184) (B6b : H a1.At ≤ 17179869184) :
    run (n + 6) 10 [queryV a0, decisionV a1, .sl 3 (a2.map ratC)] = some (.lit (.bool (decide (0 ≤ sgR (x - a1.At))))) := by
  simp only [queryV, decisionV] at K1
  have C3_ : ((a2.length : Int) == a0.Graph.Inputs) = true := by rw [C3]; simp
  have C3_n : ((a2.length : Int) != a0.Graph.Inputs) = false := by rw [C3]; simp
  have C4_ : (a1.Kind == 3) = true := by rw [C4]; simp
  have C4_n : (a1.Kind != 3) = false := by rw [C4]; simp
  obtain ⟨EL5, EG5⟩ := List.getElem?_eq_some_iff.1 E5
  have K6 := r_cmp (p := x) (q := a1.At) B6a B6b
  unfold run fnP
  simp +decide [Tryz.f10, K1, C2, C3_, C3_n, C4_, C4_n, EL5, EG5, E5, Z5, K6]
theorem ho_f4 {n : Nat} {a0 : TQuery} {a1 : TDecision} {a2 : List Rat} {r : Bool} {x2 : Rat} (K1 : run (n + 5) 9 [queryV a0, decisionV a1] = some (.lit (.bool r))) (C2 : r = true) (C3 : (a2.length : Int) = a0.Graph.Inputs) (C4 : ¬ a1.Kind = 3) (C5 : a1.Kind = 4) (E6 : a2[a1.Index.toNat]? = some x2) (Z6 : 0 ≤ a1.Index) (B7a : H x2 ≤ 17179869184) (B7b : H a1.At ≤ 17179869184) :
    run (n + 6) 10 [queryV a0, decisionV a1, .sl 3 (a2.map ratC)] = some (.lit (.bool (decide (sgR (x2 - a1.At) ≤ 0)))) := by
  simp only [queryV, decisionV] at K1
  have C3_ : ((a2.length : Int) == a0.Graph.Inputs) = true := by rw [C3]; simp
  have C3_n : ((a2.length : Int) != a0.Graph.Inputs) = false := by rw [C3]; simp
  have C4_ : (a1.Kind == 3) = false := by simpa using C4
  have C4_n : (a1.Kind != 3) = true := by simpa using C4
  have C5_ : (a1.Kind == 4) = true := by rw [C5]; simp
  have C5_n : (a1.Kind != 4) = false := by rw [C5]; simp
  obtain ⟨EL6, EG6⟩ := List.getElem?_eq_some_iff.1 E6
  have K7 := r_cmp (p := x2) (q := a1.At) B7a B7b
  unfold run fnP
  simp +decide [Tryz.f10, K1, C2, C3_, C3_n, C4_, C4_n, C5_, C5_n, EL6, EG6, E6, Z6, K7]
theorem ho_f5 {n : Nat} {a0 : TQuery} {a1 : TDecision} {a2 : List Rat} {r : Bool} {r2 : List Rat} {r3 : Int} {x3 : Rat} (K1 : run (n + 5) 9 [queryV a0, decisionV a1] = some (.lit (.bool r))) (C2 : r = true) (C3 : (a2.length : Int) = a0.Graph.Inputs) (C4 : ¬ a1.Kind = 3) (C5 : ¬ a1.Kind = 4) (K6 : run (n + 5) 28 [.agg [.lit (.int .i64 (a0.Graph.Inputs)), .sl 4 (a0.Graph.Units.map formC), .sl 4 (a0.Graph.Outputs.map formC)], .sl 3 (a2.map ratC)] = some (.tup [.sl 3 (r2.map ratC), .lit (.int .i64 r3)])) (C7 : a1.Kind = 1) (E8 : r2[a1.Index.toNat]? = some x3) (Z8 : 0 ≤ a1.Index) (B9a : H x3 ≤ 17179869184) :
    run (n + 6) 10 [queryV a0, decisionV a1, .sl 3 (a2.map ratC)] = some (.lit (.bool (decide (0 ≤ sgR x3)))) := by
  simp only [queryV, decisionV] at K1
  have C3_ : ((a2.length : Int) == a0.Graph.Inputs) = true := by rw [C3]; simp
  have C3_n : ((a2.length : Int) != a0.Graph.Inputs) = false := by rw [C3]; simp
  have C4_ : (a1.Kind == 3) = false := by simpa using C4
  have C4_n : (a1.Kind != 3) = true := by simpa using C4
  have C5_ : (a1.Kind == 4) = false := by simpa using C5
  have C5_n : (a1.Kind != 4) = true := by simpa using C5
  have C7_ : (a1.Kind == 1) = true := by rw [C7]; simp
  have C7_n : (a1.Kind != 1) = false := by rw [C7]; simp
  obtain ⟨EL8, EG8⟩ := List.getElem?_eq_some_iff.1 E8
  have K9 := r_sign (p := x3) B9a
  unfold run fnP
  simp +decide [Tryz.f10, K1, C2, C3_, C3_n, C4_, C4_n, C5_, C5_n, K6, C7_, C7_n, EL8, EG8, E8, Z8, K9]
theorem ho_f6 {n : Nat} {a0 : TQuery} {a1 : TDecision} {a2 : List Rat} {r : Bool} {r2 : List Rat} {r3 : Int} {x4 : Rat} (K1 : run (n + 5) 9 [queryV a0, decisionV a1] = some (.lit (.bool r))) (C2 : r = true) (C3 : (a2.length : Int) = a0.Graph.Inputs) (C4 : ¬ a1.Kind = 3) (C5 : ¬ a1.Kind = 4) (K6 : run (n + 5) 28 [.agg [.lit (.int .i64 (a0.Graph.Inputs)), .sl 4 (a0.Graph.Units.map formC), .sl 4 (a0.Graph.Outputs.map formC)], .sl 3 (a2.map ratC)] = some (.tup [.sl 3 (r2.map ratC), .lit (.int .i64 r3)])) (C7 : ¬ a1.Kind = 1) (E8 : r2[a1.Index.toNat]? = some x4) (Z8 : 0 ≤ a1.Index) (B9a : H x4 ≤ 17179869184) :
    run (n + 6) 10 [queryV a0, decisionV a1, .sl 3 (a2.map ratC)] = some (.lit (.bool (decide (sgR x4 ≤ 0)))) := by
  simp only [queryV, decisionV] at K1
  have C3_ : ((a2.length : Int) == a0.Graph.Inputs) = true := by rw [C3]; simp
  have C3_n : ((a2.length : Int) != a0.Graph.Inputs) = false := by rw [C3]; simp
  have C4_ : (a1.Kind == 3) = false := by simpa using C4
  have C4_n : (a1.Kind != 3) = true := by simpa using C4
  have C5_ : (a1.Kind == 4) = false := by simpa using C5
  have C5_n : (a1.Kind != 4) = true := by simpa using C5
  have C7_ : (a1.Kind == 1) = false := by simpa using C7
  have C7_n : (a1.Kind != 1) = true := by simpa using C7
  obtain ⟨EL8, EG8⟩ := List.getElem?_eq_some_iff.1 E8
  have K9 := r_sign (p := x4) B9a
  unfold run fnP
  simp +decide [Tryz.f10, K1, C2, C3_, C3_n, C4_, C4_n, C5_, C5_n, K6, C7_, C7_n, EL8, EG8, E8, Z8, K9]
end Go.Proofs.YtjobiobdpnhooaaGreatDoor
