/- Walks: relucertref15.Valid, relucertref15.Vars. -/
import Derived.Test.YtjobiobdpnhooaaGreatDoorUe
set_option linter.all false
set_option linter.all false
set_option maxRecDepth 100000
set_option maxHeartbeats 6400000
namespace Go.Proofs.YtjobiobdpnhooaaGreatDoor
open Go.RowKit

/-! relucertref15.Valid, level 2 -/
noncomputable def vg_C4 : Code := (loopsOf (bodyOf Tryz.f55)).getD 0 .skip
def vg_h4 (a0 : TGraph) (i_4 : Nat) : St :=
  ⟨[(1, .ptr 0 0), (3, .lit (.int .i64 (i_4 : Int)))],
   [(0, some (.box 33 [.lit (.int .i64 (a0.Inputs)), .sl 4 (a0.Units.map formC), .sl 4 (a0.Outputs.map formC)] false))], 1⟩
def vg_o4a (a0 : TGraph) : St :=
  ⟨[(1, .ptr 0 0), (2, .lit (.bool false))],
   [(0, some (.box 33 [.lit (.int .i64 (a0.Inputs)), .sl 4 (a0.Units.map formC), .sl 4 (a0.Outputs.map formC)] false))], 1⟩
def vg_o4b (a0 : TGraph) : St :=
  ⟨[(1, .ptr 0 0), (2, .any)],
   [(0, some (.box 33 [.lit (.int .i64 (a0.Inputs)), .sl 4 (a0.Units.map formC), .sl 4 (a0.Outputs.map formC)] false))], 1⟩
theorem vg_r4_1 {n : Nat} {a0 : TGraph} {i_4 : Nat} {F3 : List (Int × Rat)} {q3 : Rat} {r3 : Bool} (C1 : (i_4 : Int) < (a0.Units.length : Int)) (E2 : a0.Units[i_4]? = some (F3, q3)) (W3 : InI (a0.Inputs + (i_4 : Int))) (K4 : run (n + 1) 57 [formV (F3, q3), .lit (.int .i64 (a0.Inputs + (i_4 : Int)))] = some (.lit (.bool r3))) (C5 : r3 = true) (W6 : InI ((i_4 : Int) + 1)) :
    Cont 0 (exec Tryz.prog (tab (n + 2)) 0 57 (livesOf 55) big vg_C4) (livesOf 55 4) (vg_h4 a0 i_4) (vg_h4 a0 (i_4 + 1)) := by
  have C1_ : i_4 < a0.Units.length := by omega
  obtain ⟨EL2, EG2⟩ := List.getElem?_eq_some_iff.1 E2
  have W3_ : IntKind.i64.wrap (a0.Inputs + (i_4 : Int)) = a0.Inputs + (i_4 : Int) := wr64 W3.1 W3.2
  simp only [formV] at K4
  have W6_ : IntKind.i64.wrap ((i_4 : Int) + 1) = (i_4 : Int) + 1 := wr64 W6.1 W6.2
  unfold Cont
  simp +decide [vg_h4, loopsOf, Tryz.f55, vg_C4, C1, C1_, EL2, EG2, E2, W3_, K4, C5, W6_]
theorem vg_x4_1 {n : Nat} {a0 : TGraph} {i_4 : Nat} {F3 : List (Int × Rat)} {q3 : Rat} {r3 : Bool} (C1 : (i_4 : Int) < (a0.Units.length : Int)) (E2 : a0.Units[i_4]? = some (F3, q3)) (W3 : InI (a0.Inputs + (i_4 : Int))) (K4 : run (n + 1) 57 [formV (F3, q3), .lit (.int .i64 (a0.Inputs + (i_4 : Int)))] = some (.lit (.bool r3))) (C5 : r3 = false) :
    Leave 0 (exec Tryz.prog (tab (n + 2)) 0 57 (livesOf 55) big vg_C4) (livesOf 55 (outOf 4)) (vg_h4 a0 i_4) (.ret) (vg_o4a a0) := by
  have C1_ : i_4 < a0.Units.length := by omega
  obtain ⟨EL2, EG2⟩ := List.getElem?_eq_some_iff.1 E2
  have W3_ : IntKind.i64.wrap (a0.Inputs + (i_4 : Int)) = a0.Inputs + (i_4 : Int) := wr64 W3.1 W3.2
  simp only [formV] at K4
  unfold Leave
  simp +decide [vg_h4, loopsOf, Tryz.f55, vg_o4a, vg_C4, C1, C1_, EL2, EG2, E2, W3_, K4, C5]
theorem vg_x4_2 {n : Nat} {a0 : TGraph} {i_4 : Nat} (C1 : ¬ (i_4 : Int) < (a0.Units.length : Int)) :
    Leave 0 (exec Tryz.prog (tab (n + 2)) 0 57 (livesOf 55) big vg_C4) (livesOf 55 (outOf 4)) (vg_h4 a0 i_4) (.exit 0) (vg_o4b a0) := by
  have C1_ : ¬ i_4 < a0.Units.length := by omega
  unfold Leave
  simp +decide [vg_h4, loopsOf, Tryz.f55, vg_o4b, vg_C4, C1, C1_]
theorem vg_f1 {n : Nat} {a0 : TGraph} (C1 : a0.Inputs < 1) :
    run (n + 2) 55 [graphV a0] = some (.lit (.bool false)) := by
  unfold run fnP
  simp +decide [Tryz.f55, C1]
theorem vg_f2 {n : Nat} {a0 : TGraph} (C1 : ¬ a0.Inputs < 1) (C2 : 256 < a0.Inputs) :
    run (n + 2) 55 [graphV a0] = some (.lit (.bool false)) := by
  unfold run fnP
  simp +decide [Tryz.f55, C1, C2]
theorem vg_f3 {n : Nat} {a0 : TGraph} (C1 : ¬ a0.Inputs < 1) (C2 : ¬ 256 < a0.Inputs) (C3 : 1024 < (a0.Units.length : Int)) :
    run (n + 2) 55 [graphV a0] = some (.lit (.bool false)) := by
  have C3_ : 1024 < a0.Units.length := by omega
  unfold run fnP
  simp +decide [Tryz.f55, C1, C2, C3, C3_]
theorem vg_f4 {n : Nat} {a0 : TGraph} (C1 : ¬ a0.Inputs < 1) (C2 : ¬ 256 < a0.Inputs) (C3 : ¬ 1024 < (a0.Units.length : Int)) (C4 : (a0.Outputs.length : Int) < 1) :
    run (n + 2) 55 [graphV a0] = some (.lit (.bool false)) := by
  have C3_ : ¬ 1024 < a0.Units.length := by omega
  have C4_ : a0.Outputs.length < 1 := by omega
  unfold run fnP
  simp +decide [Tryz.f55, C1, C2, C3, C3_, C4, C4_]
theorem vg_f5 {n : Nat} {a0 : TGraph} (C1 : ¬ a0.Inputs < 1) (C2 : ¬ 256 < a0.Inputs) (C3 : ¬ 1024 < (a0.Units.length : Int)) (C4 : ¬ (a0.Outputs.length : Int) < 1) (C5 : 256 < (a0.Outputs.length : Int)) :
    run (n + 2) 55 [graphV a0] = some (.lit (.bool false)) := by
  have C3_ : ¬ 1024 < a0.Units.length := by omega
  have C4_ : ¬ a0.Outputs.length < 1 := by omega
  have C5_ : 256 < a0.Outputs.length := by omega
  unfold run fnP
  simp +decide [Tryz.f55, C1, C2, C3, C3_, C4, C4_, C5, C5_]
theorem vg_f6 {n : Nat} {a0 : TGraph} (C1 : ¬ a0.Inputs < 1) (C2 : ¬ 256 < a0.Inputs) (C3 : ¬ 1024 < (a0.Units.length : Int)) (C4 : ¬ (a0.Outputs.length : Int) < 1) (C5 : ¬ 256 < (a0.Outputs.length : Int)) (L6 : loopG Tryz.prog (tab (n + 2)) 0 57 (livesOf 55) 4 vg_C4 (vg_h4 a0 0) = some (.ret, vg_o4a a0)) :
    run (n + 2) 55 [graphV a0] = some (.lit (.bool false)) := by
  have C3_ : ¬ 1024 < a0.Units.length := by omega
  have C4_ : ¬ a0.Outputs.length < 1 := by omega
  have C5_ : ¬ 256 < a0.Outputs.length := by omega
  unfold run fnP
  simp +decide [Tryz.f55, C1, C2, C3, C3_, C4, C4_, C5, C5_]
  rw [loopX_G (C' := vg_C4) (e := (vg_h4 a0 0)) ?_ ?_, L6]
  rotate_left
  · kernel_rfl
  · simp +decide [vg_h4, C1, C2, C3, C3_, C4, C4_, C5, C5_]
  simp +decide [vg_o4a, C1, C2, C3, C3_, C4, C4_, C5, C5_]
theorem vg_f7 {n : Nat} {a0 : TGraph} {r4 : Bool} (C1 : ¬ a0.Inputs < 1) (C2 : ¬ 256 < a0.Inputs) (C3 : ¬ 1024 < (a0.Units.length : Int)) (C4 : ¬ (a0.Outputs.length : Int) < 1) (C5 : ¬ 256 < (a0.Outputs.length : Int)) (L6 : loopG Tryz.prog (tab (n + 2)) 0 57 (livesOf 55) 4 vg_C4 (vg_h4 a0 0) = some (.exit 0, vg_o4b a0)) (W7 : InI (a0.Inputs + (a0.Units.length : Int))) (K8 : run (n + 1) 86 [.sl 4 (a0.Outputs.map formC), .lit (.int .i64 (a0.Inputs + (a0.Units.length : Int)))] = some (.lit (.bool r4))) :
    run (n + 2) 55 [graphV a0] = some (.lit (.bool r4)) := by
  have C3_ : ¬ 1024 < a0.Units.length := by omega
  have C4_ : ¬ a0.Outputs.length < 1 := by omega
  have C5_ : ¬ 256 < a0.Outputs.length := by omega
  have W7_ : IntKind.i64.wrap (a0.Inputs + (a0.Units.length : Int)) = a0.Inputs + (a0.Units.length : Int) := wr64 W7.1 W7.2
  unfold run fnP
  simp +decide [Tryz.f55, C1, C2, C3, C3_, C4, C4_, C5, C5_, W7_, K8]
  rw [loopX_G (C' := vg_C4) (e := (vg_h4 a0 0)) ?_ ?_, L6]
  rotate_left
  · kernel_rfl
  · simp +decide [vg_h4, C1, C2, C3, C3_, C4, C4_, C5, C5_, W7_, K8]
  simp +decide [vg_o4b, C1, C2, C3, C3_, C4, C4_, C5, C5_, W7_, K8]
/-! relucertref15.Vars, level 3 -/
theorem vars_f1 {n : Nat} {a0 : TGraph} {r : Bool} (K1 : run (n + 2) 55 [graphV a0] = some (.lit (.bool r))) (C2 : r = false) :
    run (n + 3) 58 [graphV a0] = some (.lit (.int .i64 0)) := by
  simp only [graphV] at K1
  unfold run fnP
  simp +decide [Tryz.f58, K1, C2]
theorem vars_f2 {n : Nat} {a0 : TGraph} {r : Bool} (K1 : run (n + 2) 55 [graphV a0] = some (.lit (.bool r))) (C2 : r = true) (W3 : InI (a0.Inputs + (a0.Units.length : Int))) :
    run (n + 3) 58 [graphV a0] = some (.lit (.int .i64 (a0.Inputs + (a0.Units.length : Int)))) := by
  simp only [graphV] at K1
  have W3_ : IntKind.i64.wrap (a0.Inputs + (a0.Units.length : Int)) = a0.Inputs + (a0.Units.length : Int) := wr64 W3.1 W3.2
  unfold run fnP
  simp +decide [Tryz.f58, K1, C2, W3_]
end Go.Proofs.YtjobiobdpnhooaaGreatDoor
