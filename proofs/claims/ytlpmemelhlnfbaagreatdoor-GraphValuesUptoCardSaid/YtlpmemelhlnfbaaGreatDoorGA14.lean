/- Walks: graph.run@01, graph.Values@01, graph.Pre@01, graph.Outputs@01. Walks: relucertref15.Values@01, relucertref15.forms@012, relucertref15.Pre@01, relucertref15.Outputs@01. Walks: relucertlaw15.GraphValues@01^. -/
import Derived.Test.YtlpmemelhlnfbaaGreatDoorGA6
import Derived.Test.YtlpmemelhlnfbaaGreatDoorGA9
set_option linter.all false
set_option linter.all false
set_option maxRecDepth 100000
set_option maxHeartbeats 6400000
namespace Go.Proofs.YtlpmemelhlnfbaaGreatDoor
open Go.RowKit

/-! graph.run, level 6 -/
theorem grnR_f1 {n : Nat} {a0 : TGraphR} {a1 : List Raw} {r : Bool} (K1 : run (n + 5) 41 [graphRV a0] = some (.lit (.bool r))) (C2 : r = false) :
    run (n + 6) 96 [graphRV a0, .sl 3 (a1.map rawC)] = some (.tup [.sl 3 [], .sl 3 [], .lit (.int .i64 1)]) := by
  simp only [graphRV] at K1
  unfold run fnP
  simp +decide [Tryz.f96, K1, C2]
theorem grnR_f2 {n : Nat} {a0 : TGraphR} {a1 : List Raw} {r : Bool} (K1 : run (n + 5) 41 [graphRV a0] = some (.lit (.bool r))) (C2 : r = true) (C3 : ¬ (a1.length : Int) = a0.Inputs) :
    run (n + 6) 96 [graphRV a0, .sl 3 (a1.map rawC)] = some (.tup [.sl 3 [], .sl 3 [], .lit (.int .i64 1)]) := by
  simp only [graphRV] at K1
  have C3_ : ((a1.length : Int) == a0.Inputs) = false := by simpa using C3
  have C3_n : ((a1.length : Int) != a0.Inputs) = true := by simpa using C3
  unfold run fnP
  simp +decide [Tryz.f96, K1, C2, C3_, C3_n]
/-! graph.Values, level 7 -/
theorem gVaR_f1 {n : Nat} {a0 : TGraphR} {a1 : List Raw} {r : List Rat} {r2 : List Rat} {r3 : Int} (K1 : run (n + 6) 96 [graphRV a0, .sl 3 (a1.map rawC)] = some (.tup [.sl 3 (r.map ratC), .sl 3 (r2.map ratC), .lit (.int .i64 r3)])) :
    run (n + 7) 32 [graphRV a0, .sl 3 (a1.map rawC)] = some (.tup [.sl 3 (r.map ratC), .lit (.int .i64 r3)]) := by
  simp only [graphRV] at K1
  unfold run fnP
  simp +decide [Tryz.f32, K1]
/-! graph.Pre, level 7 -/
theorem gPrR_f1 {n : Nat} {a0 : TGraphR} {a1 : List Raw} {r : List Rat} {r2 : List Rat} {r3 : Int} (K1 : run (n + 6) 96 [graphRV a0, .sl 3 (a1.map rawC)] = some (.tup [.sl 3 (r.map ratC), .sl 3 (r2.map ratC), .lit (.int .i64 r3)])) :
    run (n + 7) 33 [graphRV a0, .sl 3 (a1.map rawC)] = some (.tup [.sl 3 (r2.map ratC), .lit (.int .i64 r3)]) := by
  simp only [graphRV] at K1
  unfold run fnP
  simp +decide [Tryz.f33, K1]
/-! graph.Outputs, level 7 -/
theorem gOuR_f1 {n : Nat} {a0 : TGraphR} {a1 : List Raw} {r : List Rat} {r2 : List Rat} {r3 : Int} (K1 : run (n + 6) 96 [graphRV a0, .sl 3 (a1.map rawC)] = some (.tup [.sl 3 (r.map ratC), .sl 3 (r2.map ratC), .lit (.int .i64 r3)])) (C2 : ¬ r3 = 0) :
    run (n + 7) 34 [graphRV a0, .sl 3 (a1.map rawC)] = some (.tup [.sl 3 [], .lit (.int .i64 r3)]) := by
  simp only [graphRV] at K1
  have C2_ : (r3 == 0) = false := by simpa using C2
  have C2_n : (r3 != 0) = true := by simpa using C2
  unfold run fnP
  simp +decide [Tryz.f34, K1, C2_, C2_n]
end Go.Proofs.YtlpmemelhlnfbaaGreatDoor
set_option linter.all false
set_option maxRecDepth 100000
set_option maxHeartbeats 6400000
namespace Go.Proofs.YtlpmemelhlnfbaaGreatDoor
open Go.RowKit

/-! relucertref15.Values, level 3 -/
theorem vsR_f1 {n : Nat} {a0 : TGraphR} {a1 : List Raw} {r : Bool} (K1 : run (n + 2) 25 [graphRV a0] = some (.lit (.bool r))) (C2 : r = false) :
    run (n + 3) 35 [graphRV a0, .sl 3 (a1.map rawC)] = some (.tup [.sl 3 [], .lit (.int .i64 1)]) := by
  simp only [graphRV] at K1
  unfold run fnP
  simp +decide [Tryz.f35, K1, C2]
theorem vsR_f2 {n : Nat} {a0 : TGraphR} {a1 : List Raw} {r : Bool} (K1 : run (n + 2) 25 [graphRV a0] = some (.lit (.bool r))) (C2 : r = true) (C3 : ¬ (a1.length : Int) = a0.Inputs) :
    run (n + 3) 35 [graphRV a0, .sl 3 (a1.map rawC)] = some (.tup [.sl 3 [], .lit (.int .i64 1)]) := by
  simp only [graphRV] at K1
  have C3_ : ((a1.length : Int) == a0.Inputs) = false := by simpa using C3
  have C3_n : ((a1.length : Int) != a0.Inputs) = true := by simpa using C3
  unfold run fnP
  simp +decide [Tryz.f35, K1, C2, C3_, C3_n]
/-! relucertref15.forms, level 4 -/
theorem fmR_f1 {n : Nat} {a0 : TGraphR} {a1 : List FormR} {a2 : List Raw} {r : List Rat} {r2 : Int} (K1 : run (n + 3) 35 [graphRV a0, .sl 3 (a2.map rawC)] = some (.tup [.sl 3 (r.map ratC), .lit (.int .i64 r2)])) (C2 : ¬ r2 = 0) :
    run (n + 4) 101 [graphRV a0, .sl 4 (a1.map formRC), .sl 3 (a2.map rawC)] = some (.tup [.sl 3 [], .lit (.int .i64 r2)]) := by
  simp only [graphRV] at K1
  have C2_ : (r2 == 0) = false := by simpa using C2
  have C2_n : (r2 != 0) = true := by simpa using C2
  unfold run fnP
  simp +decide [Tryz.f101, K1, C2_, C2_n]
/-! relucertref15.Pre, level 5 -/
theorem prR_f1 {n : Nat} {a0 : TGraphR} {a1 : List Raw} {r : List Rat} {r2 : Int} (K1 : run (n + 4) 101 [graphRV a0, .sl 4 (a0.Units.map formRC), .sl 3 (a1.map rawC)] = some (.tup [.sl 3 (r.map ratC), .lit (.int .i64 r2)])) :
    run (n + 5) 36 [graphRV a0, .sl 3 (a1.map rawC)] = some (.tup [.sl 3 (r.map ratC), .lit (.int .i64 r2)]) := by
  simp only [graphRV] at K1
  unfold run fnP
  simp +decide [Tryz.f36, K1]
/-! relucertref15.Outputs, level 5 -/
theorem ouR_f1 {n : Nat} {a0 : TGraphR} {a1 : List Raw} {r : List Rat} {r2 : Int} (K1 : run (n + 4) 101 [graphRV a0, .sl 4 (a0.Outputs.map formRC), .sl 3 (a1.map rawC)] = some (.tup [.sl 3 (r.map ratC), .lit (.int .i64 r2)])) :
    run (n + 5) 37 [graphRV a0, .sl 3 (a1.map rawC)] = some (.tup [.sl 3 (r.map ratC), .lit (.int .i64 r2)]) := by
  simp only [graphRV] at K1
  unfold run fnP
  simp +decide [Tryz.f37, K1]
end Go.Proofs.YtlpmemelhlnfbaaGreatDoor
set_option linter.all false
set_option maxRecDepth 100000
set_option maxHeartbeats 6400000
namespace Go.Proofs.YtlpmemelhlnfbaaGreatDoor
open Go.RowKit

/-! relucertlaw15.GraphValues, level 10 -/
noncomputable def gvlT (n : Nat) : FuncId → Option Orc := ext (tab (n + 10)) 18 (.pure awG)
theorem gvlT_ok (n : Nat) : OrcOk Tryz.prog (gvlT n) := (tab_ok (n + 10)).extP (by kernel_rfl) con_awake
noncomputable def gvl (n : Nat) (args : List AV) : Option AV := fnP Tryz.prog (gvlT n) (livesOf 6) big (fnOf 6) args
theorem gvl_con {n : Nat} {args : List AV} {r : AV} (h : gvl n args = some r) : Con Tryz.prog 6 args r :=
  con_of (gvlT_ok n) mixed (plain_fn (by kernel_rfl)) (body_some (by kernel_rfl) (plain_fn (by kernel_rfl))) h
theorem gvl_aw (n : Nat) : gvlT n 18 = some (.pure awG) := by unfold gvlT ext; rw [if_pos rfl]
theorem gvl_l22 (n : Nat) : gvlT n 22 = some (.pure (run (n + 9) 22)) := by unfold gvlT ext; rw [if_neg (by decide)]; exact tb_22 _
theorem gvl_l30 (n : Nat) : gvlT n 30 = some (.pure (run (n + 9) 30)) := by unfold gvlT ext; rw [if_neg (by decide)]; exact tb_30 _
theorem gvl_l31 (n : Nat) : gvlT n 31 = some (.pure (run (n + 9) 31)) := by unfold gvlT ext; rw [if_neg (by decide)]; exact tb_31 _
theorem gvl_l32 (n : Nat) : gvlT n 32 = some (.pure (run (n + 9) 32)) := by unfold gvlT ext; rw [if_neg (by decide)]; exact tb_32 _
theorem gvl_l33 (n : Nat) : gvlT n 33 = some (.pure (run (n + 9) 33)) := by unfold gvlT ext; rw [if_neg (by decide)]; exact tb_33 _
theorem gvl_l34 (n : Nat) : gvlT n 34 = some (.pure (run (n + 9) 34)) := by unfold gvlT ext; rw [if_neg (by decide)]; exact tb_34 _
theorem gvl_l35 (n : Nat) : gvlT n 35 = some (.pure (run (n + 9) 35)) := by unfold gvlT ext; rw [if_neg (by decide)]; exact tb_35 _
theorem gvl_l36 (n : Nat) : gvlT n 36 = some (.pure (run (n + 9) 36)) := by unfold gvlT ext; rw [if_neg (by decide)]; exact tb_36 _
theorem gvl_l37 (n : Nat) : gvlT n 37 = some (.pure (run (n + 9) 37)) := by unfold gvlT ext; rw [if_neg (by decide)]; exact tb_37 _
theorem gvl_l38 (n : Nat) : gvlT n 38 = some (.pure (run (n + 9) 38)) := by unfold gvlT ext; rw [if_neg (by decide)]; exact tb_38 _
theorem gvl_f1 {n : Nat} {a0 : TGraphR} {a1 : List Raw} {r : Bool} (K1 : run (n + 9) 30 [graphRV a0] = some (.lit (.bool r))) (C2 : r = false) :
    gvl n [graphRV a0, .sl 3 (a1.map rawC)] = some (.lit (.bool true)) := by
  simp only [graphRV] at K1
  unfold gvl fnP
  simp +decide [Tryz.f6, K1, C2, gvl_aw, awG, gvl_l22, gvl_l30, gvl_l31, gvl_l32, gvl_l33, gvl_l34, gvl_l35, gvl_l36, gvl_l37, gvl_l38]
theorem gvl_f2 {n : Nat} {a0 : TGraphR} {a1 : List Raw} {r : Bool} {r2 : Bool} (K1 : run (n + 9) 30 [graphRV a0] = some (.lit (.bool r))) (C2 : r = true) (K3 : run (n + 9) 31 [.sl 3 (a1.map rawC)] = some (.lit (.bool r2))) (C4 : r2 = false) :
    gvl n [graphRV a0, .sl 3 (a1.map rawC)] = some (.lit (.bool true)) := by
  simp only [graphRV] at K1
  unfold gvl fnP
  simp +decide [Tryz.f6, K1, C2, K3, C4, gvl_aw, awG, gvl_l22, gvl_l30, gvl_l31, gvl_l32, gvl_l33, gvl_l34, gvl_l35, gvl_l36, gvl_l37, gvl_l38]
theorem gvl_f3 {n : Nat} {a0 : TGraphR} {a1 : List Raw} {r : Bool} {r2 : Bool} {r3 : TGraphR} {r4 : List Rat} {r5 : Int} {r6 : List Rat} {r7 : Int} {r8 : List Rat} {r9 : Int} {r10 : List Rat} {r11 : Int} {r12 : List Rat} {r13 : Int} {r14 : List Rat} {r15 : Int} {r16 : Bool} {r17 : Bool} {r18 : Bool} (K1 : run (n + 9) 30 [graphRV a0] = some (.lit (.bool r))) (C2 : r = true) (K3 : run (n + 9) 31 [.sl 3 (a1.map rawC)] = some (.lit (.bool r2))) (C4 : r2 = true) (K5 : run (n + 9) 22 [graphRV a0] = some (graphRV r3)) (M6 : a1.length ≤ 100000000) (K7 : run (n + 9) 32 [graphRV r3, .sl 3 (a1.map rawC)] = some (.tup [.sl 3 (r4.map ratC), .lit (.int .i64 r5)])) (K8 : run (n + 9) 33 [graphRV a0, .sl 3 (a1.map rawC)] = some (.tup [.sl 3 (r6.map ratC), .lit (.int .i64 r7)])) (K9 : run (n + 9) 34 [graphRV a0, .sl 3 (a1.map rawC)] = some (.tup [.sl 3 (r8.map ratC), .lit (.int .i64 r9)])) (K10 : run (n + 9) 35 [graphRV a0, .sl 3 (a1.map rawC)] = some (.tup [.sl 3 (r10.map ratC), .lit (.int .i64 r11)])) (K11 : run (n + 9) 36 [graphRV a0, .sl 3 (a1.map rawC)] = some (.tup [.sl 3 (r12.map ratC), .lit (.int .i64 r13)])) (K12 : run (n + 9) 37 [graphRV a0, .sl 3 (a1.map rawC)] = some (.tup [.sl 3 (r14.map ratC), .lit (.int .i64 r15)])) (C13 : r5 = r11) (C14 : r7 = r13) (C15 : r9 = r15) (K16 : run (n + 9) 38 [.sl 3 (r4.map ratC), .sl 3 (r10.map ratC)] = some (.lit (.bool r16))) (C17 : r16 = true) (K18 : run (n + 9) 38 [.sl 3 (r6.map ratC), .sl 3 (r12.map ratC)] = some (.lit (.bool r17))) (C19 : r17 = true) (K20 : run (n + 9) 38 [.sl 3 (r8.map ratC), .sl 3 (r14.map ratC)] = some (.lit (.bool r18))) :
    gvl n [graphRV a0, .sl 3 (a1.map rawC)] = some (.lit (.bool r18)) := by
  simp only [graphRV] at K1
  simp only [graphRV] at K5
  have M6_ : ∀ b, b ≤ 10000 → roomy (a1.length) b = true := fun b hb => roomy_s M6 hb
  simp only [graphRV] at K7
  simp only [graphRV] at K8
  simp only [graphRV] at K9
  simp only [graphRV] at K10
  simp only [graphRV] at K11
  simp only [graphRV] at K12
  have C13_ : (r5 == r11) = true := by rw [C13]; simp
  have C13_n : (r5 != r11) = false := by rw [C13]; simp
  have C14_ : (r7 == r13) = true := by rw [C14]; simp
  have C14_n : (r7 != r13) = false := by rw [C14]; simp
  have C15_ : (r9 == r15) = true := by rw [C15]; simp
  have C15_n : (r9 != r15) = false := by rw [C15]; simp
  unfold gvl fnP
  simp +decide [Tryz.f6, K1, C2, K3, C4, K5, M6_, K7, K8, K9, K10, K11, K12, C13_, C13_n, C14_, C14_n, C15_, C15_n, K16, C17, K18, C19, K20, gvl_aw, awG, gvl_l22, gvl_l30, gvl_l31, gvl_l32, gvl_l33, gvl_l34, gvl_l35, gvl_l36, gvl_l37, gvl_l38]
end Go.Proofs.YtlpmemelhlnfbaaGreatDoor
