/- Walks: relucertref07.ValidAll@0, relucertref15.Valid@0. Walks: linear.Valid@0, graph.valid$1@0, slices.IndexFunc[[]relucert/api.Affine,relucert/api.Affine]@0~1:graph.valid$1, slices.ContainsFunc[[]relucert/api.Affine,relucert/api.Affine]@0~1:graph.valid$1, graph.valid@0, graph.Valid@0. -/
import Derived.Test.YtlpmemelhlnfbaaGreatDoorGA6
set_option linter.all false
set_option linter.all false
set_option maxRecDepth 100000
set_option maxHeartbeats 6400000
namespace Go.Proofs.YtlpmemelhlnfbaaGreatDoor
open Go.RowKit

/-! relucertref07.ValidAll, level 1 -/
noncomputable def vlR_C2 : Code := (loopsOf (bodyOf Tryz.f91)).getD 0 .skip
def vlR_h2 (a0 : List FormR) (a1 : Int) (i_2 : Nat) : St :=
  ⟨[(0, .sl 4 (a0.map formRC)), (1, .lit (.int .i64 a1)), (5, .lit (.int .i64 (i_2 : Int)))],
   [], 0⟩
def vlR_o2a  : St :=
  ⟨[(4, .lit (.bool false))],
   [], 0⟩
def vlR_o2b  : St :=
  ⟨[(4, .any)],
   [], 0⟩
theorem vlR_r2_1 {n : Nat} {a0 : List FormR} {a1 : Int} {i_2 : Nat} {F3 : List (Int × Raw)} {r5 : Raw} {r6 : Bool} (C1 : (i_2 : Int) < (a0.length : Int)) (E2 : a0[i_2]? = some (F3, r5)) (K3 : run n 51 [.agg [.sl 4 (F3.map termRC), .lit (.bool r5.s), natA r5.l1, natA r5.l2], .lit (.int .i64 a1)] = some (.lit (.bool r6))) (C4 : r6 = true) (W5 : InI ((i_2 : Int) + 1)) :
    Cont 0 (exec Tryz.prog (tab (n + 1)) 0 19 (livesOf 91) big vlR_C2) (livesOf 91 2) (vlR_h2 a0 a1 i_2) (vlR_h2 a0 a1 (i_2 + 1)) := by
  have C1_ : i_2 < a0.length := by omega
  obtain ⟨EL2, EG2⟩ := List.getElem?_eq_some_iff.1 E2
  have W5_ : IntKind.i64.wrap ((i_2 : Int) + 1) = (i_2 : Int) + 1 := wr64 W5.1 W5.2
  unfold Cont
  simp +decide [vlR_h2, loopsOf, Tryz.f91, vlR_C2, C1, C1_, EL2, EG2, E2, K3, C4, W5_]
theorem vlR_x2_1 {n : Nat} {a0 : List FormR} {a1 : Int} {i_2 : Nat} {F3 : List (Int × Raw)} {r5 : Raw} {r6 : Bool} (C1 : (i_2 : Int) < (a0.length : Int)) (E2 : a0[i_2]? = some (F3, r5)) (K3 : run n 51 [.agg [.sl 4 (F3.map termRC), .lit (.bool r5.s), natA r5.l1, natA r5.l2], .lit (.int .i64 a1)] = some (.lit (.bool r6))) (C4 : r6 = false) :
    Leave 0 (exec Tryz.prog (tab (n + 1)) 0 19 (livesOf 91) big vlR_C2) (livesOf 91 (outOf 2)) (vlR_h2 a0 a1 i_2) (.ret) (vlR_o2a ) := by
  have C1_ : i_2 < a0.length := by omega
  obtain ⟨EL2, EG2⟩ := List.getElem?_eq_some_iff.1 E2
  unfold Leave
  simp +decide [vlR_h2, loopsOf, Tryz.f91, vlR_o2a, vlR_C2, C1, C1_, EL2, EG2, E2, K3, C4]
theorem vlR_x2_2 {n : Nat} {a0 : List FormR} {a1 : Int} {i_2 : Nat} (C1 : ¬ (i_2 : Int) < (a0.length : Int)) :
    Leave 0 (exec Tryz.prog (tab (n + 1)) 0 19 (livesOf 91) big vlR_C2) (livesOf 91 (outOf 2)) (vlR_h2 a0 a1 i_2) (.exit 0) (vlR_o2b ) := by
  have C1_ : ¬ i_2 < a0.length := by omega
  unfold Leave
  simp +decide [vlR_h2, loopsOf, Tryz.f91, vlR_o2b, vlR_C2, C1, C1_]
theorem vlR_f1 {n : Nat} {a0 : List FormR} {a1 : Int} (L1 : loopG Tryz.prog (tab (n + 1)) 0 19 (livesOf 91) 2 vlR_C2 (vlR_h2 a0 a1 0) = some (.ret, vlR_o2a )) :
    run (n + 1) 91 [.sl 4 (a0.map formRC), .lit (.int .i64 a1)] = some (.lit (.bool false)) := by
  unfold run fnP
  simp +decide [Tryz.f91]
  rw [loopX_G (C' := vlR_C2) (e := (vlR_h2 a0 a1 0)) ?_ ?_, L1]
  rotate_left
  · kernel_rfl
  · simp +decide [vlR_h2]
  simp +decide [vlR_o2a]
theorem vlR_f2 {n : Nat} {a0 : List FormR} {a1 : Int} (L1 : loopG Tryz.prog (tab (n + 1)) 0 19 (livesOf 91) 2 vlR_C2 (vlR_h2 a0 a1 0) = some (.exit 0, vlR_o2b )) :
    run (n + 1) 91 [.sl 4 (a0.map formRC), .lit (.int .i64 a1)] = some (.lit (.bool true)) := by
  unfold run fnP
  simp +decide [Tryz.f91]
  rw [loopX_G (C' := vlR_C2) (e := (vlR_h2 a0 a1 0)) ?_ ?_, L1]
  rotate_left
  · kernel_rfl
  · simp +decide [vlR_h2]
  simp +decide [vlR_o2b]
/-! relucertref15.Valid, level 2 -/
noncomputable def vgR_C4 : Code := (loopsOf (bodyOf Tryz.f25)).getD 0 .skip
def vgR_h4 (a0 : TGraphR) (i_4 : Nat) : St :=
  ⟨[(1, .ptr 0 0), (3, .lit (.int .i64 (i_4 : Int)))],
   [(0, some (.box 38 [.lit (.int .i64 (a0.Inputs)), .sl 4 (a0.Units.map formRC), .sl 4 (a0.Outputs.map formRC)] false))], 1⟩
def vgR_o4a (a0 : TGraphR) : St :=
  ⟨[(1, .ptr 0 0), (2, .lit (.bool false))],
   [(0, some (.box 38 [.lit (.int .i64 (a0.Inputs)), .sl 4 (a0.Units.map formRC), .sl 4 (a0.Outputs.map formRC)] false))], 1⟩
def vgR_o4b (a0 : TGraphR) : St :=
  ⟨[(1, .ptr 0 0), (2, .any)],
   [(0, some (.box 38 [.lit (.int .i64 (a0.Inputs)), .sl 4 (a0.Units.map formRC), .sl 4 (a0.Outputs.map formRC)] false))], 1⟩
theorem vgR_r4_1 {n : Nat} {a0 : TGraphR} {i_4 : Nat} {F3 : List (Int × Raw)} {r5 : Raw} {r6 : Bool} (C1 : (i_4 : Int) < (a0.Units.length : Int)) (E2 : a0.Units[i_4]? = some (F3, r5)) (W3 : InI (a0.Inputs + (i_4 : Int))) (K4 : run (n + 1) 51 [.agg [.sl 4 (F3.map termRC), .lit (.bool r5.s), natA r5.l1, natA r5.l2], .lit (.int .i64 (a0.Inputs + (i_4 : Int)))] = some (.lit (.bool r6))) (C5 : r6 = true) (W6 : InI ((i_4 : Int) + 1)) :
    Cont 0 (exec Tryz.prog (tab (n + 2)) 0 57 (livesOf 25) big vgR_C4) (livesOf 25 4) (vgR_h4 a0 i_4) (vgR_h4 a0 (i_4 + 1)) := by
  have C1_ : i_4 < a0.Units.length := by omega
  obtain ⟨EL2, EG2⟩ := List.getElem?_eq_some_iff.1 E2
  have W3_ : IntKind.i64.wrap (a0.Inputs + (i_4 : Int)) = a0.Inputs + (i_4 : Int) := wr64 W3.1 W3.2
  have W6_ : IntKind.i64.wrap ((i_4 : Int) + 1) = (i_4 : Int) + 1 := wr64 W6.1 W6.2
  unfold Cont
  simp +decide [vgR_h4, loopsOf, Tryz.f25, vgR_C4, C1, C1_, EL2, EG2, E2, W3_, K4, C5, W6_]
theorem vgR_x4_1 {n : Nat} {a0 : TGraphR} {i_4 : Nat} {F3 : List (Int × Raw)} {r5 : Raw} {r6 : Bool} (C1 : (i_4 : Int) < (a0.Units.length : Int)) (E2 : a0.Units[i_4]? = some (F3, r5)) (W3 : InI (a0.Inputs + (i_4 : Int))) (K4 : run (n + 1) 51 [.agg [.sl 4 (F3.map termRC), .lit (.bool r5.s), natA r5.l1, natA r5.l2], .lit (.int .i64 (a0.Inputs + (i_4 : Int)))] = some (.lit (.bool r6))) (C5 : r6 = false) :
    Leave 0 (exec Tryz.prog (tab (n + 2)) 0 57 (livesOf 25) big vgR_C4) (livesOf 25 (outOf 4)) (vgR_h4 a0 i_4) (.ret) (vgR_o4a a0) := by
  have C1_ : i_4 < a0.Units.length := by omega
  obtain ⟨EL2, EG2⟩ := List.getElem?_eq_some_iff.1 E2
  have W3_ : IntKind.i64.wrap (a0.Inputs + (i_4 : Int)) = a0.Inputs + (i_4 : Int) := wr64 W3.1 W3.2
  unfold Leave
  simp +decide [vgR_h4, loopsOf, Tryz.f25, vgR_o4a, vgR_C4, C1, C1_, EL2, EG2, E2, W3_, K4, C5]
theorem vgR_x4_2 {n : Nat} {a0 : TGraphR} {i_4 : Nat} (C1 : ¬ (i_4 : Int) < (a0.Units.length : Int)) :
    Leave 0 (exec Tryz.prog (tab (n + 2)) 0 57 (livesOf 25) big vgR_C4) (livesOf 25 (outOf 4)) (vgR_h4 a0 i_4) (.exit 0) (vgR_o4b a0) := by
  have C1_ : ¬ i_4 < a0.Units.length := by omega
  unfold Leave
  simp +decide [vgR_h4, loopsOf, Tryz.f25, vgR_o4b, vgR_C4, C1, C1_]
theorem vgR_f1 {n : Nat} {a0 : TGraphR} (C1 : a0.Inputs < 1) :
    run (n + 2) 25 [graphRV a0] = some (.lit (.bool false)) := by
  unfold run fnP
  simp +decide [Tryz.f25, C1]
theorem vgR_f2 {n : Nat} {a0 : TGraphR} (C1 : ¬ a0.Inputs < 1) (C2 : 256 < a0.Inputs) :
    run (n + 2) 25 [graphRV a0] = some (.lit (.bool false)) := by
  unfold run fnP
  simp +decide [Tryz.f25, C1, C2]
theorem vgR_f3 {n : Nat} {a0 : TGraphR} (C1 : ¬ a0.Inputs < 1) (C2 : ¬ 256 < a0.Inputs) (C3 : 1024 < (a0.Units.length : Int)) :
    run (n + 2) 25 [graphRV a0] = some (.lit (.bool false)) := by
  have C3_ : 1024 < a0.Units.length := by omega
  unfold run fnP
  simp +decide [Tryz.f25, C1, C2, C3, C3_]
theorem vgR_f4 {n : Nat} {a0 : TGraphR} (C1 : ¬ a0.Inputs < 1) (C2 : ¬ 256 < a0.Inputs) (C3 : ¬ 1024 < (a0.Units.length : Int)) (C4 : (a0.Outputs.length : Int) < 1) :
    run (n + 2) 25 [graphRV a0] = some (.lit (.bool false)) := by
  have C3_ : ¬ 1024 < a0.Units.length := by omega
  have C4_ : a0.Outputs.length < 1 := by omega
  unfold run fnP
  simp +decide [Tryz.f25, C1, C2, C3, C3_, C4, C4_]
theorem vgR_f5 {n : Nat} {a0 : TGraphR} (C1 : ¬ a0.Inputs < 1) (C2 : ¬ 256 < a0.Inputs) (C3 : ¬ 1024 < (a0.Units.length : Int)) (C4 : ¬ (a0.Outputs.length : Int) < 1) (C5 : 256 < (a0.Outputs.length : Int)) :
    run (n + 2) 25 [graphRV a0] = some (.lit (.bool false)) := by
  have C3_ : ¬ 1024 < a0.Units.length := by omega
  have C4_ : ¬ a0.Outputs.length < 1 := by omega
  have C5_ : 256 < a0.Outputs.length := by omega
  unfold run fnP
  simp +decide [Tryz.f25, C1, C2, C3, C3_, C4, C4_, C5, C5_]
theorem vgR_f6 {n : Nat} {a0 : TGraphR} (C1 : ¬ a0.Inputs < 1) (C2 : ¬ 256 < a0.Inputs) (C3 : ¬ 1024 < (a0.Units.length : Int)) (C4 : ¬ (a0.Outputs.length : Int) < 1) (C5 : ¬ 256 < (a0.Outputs.length : Int)) (L6 : loopG Tryz.prog (tab (n + 2)) 0 57 (livesOf 25) 4 vgR_C4 (vgR_h4 a0 0) = some (.ret, vgR_o4a a0)) :
    run (n + 2) 25 [graphRV a0] = some (.lit (.bool false)) := by
  have C3_ : ¬ 1024 < a0.Units.length := by omega
  have C4_ : ¬ a0.Outputs.length < 1 := by omega
  have C5_ : ¬ 256 < a0.Outputs.length := by omega
  unfold run fnP
  simp +decide [Tryz.f25, C1, C2, C3, C3_, C4, C4_, C5, C5_]
  rw [loopX_G (C' := vgR_C4) (e := (vgR_h4 a0 0)) ?_ ?_, L6]
  rotate_left
  · kernel_rfl
  · simp +decide [vgR_h4, C1, C2, C3, C3_, C4, C4_, C5, C5_]
  simp +decide [vgR_o4a, C1, C2, C3, C3_, C4, C4_, C5, C5_]
theorem vgR_f7 {n : Nat} {a0 : TGraphR} {r7 : Bool} (C1 : ¬ a0.Inputs < 1) (C2 : ¬ 256 < a0.Inputs) (C3 : ¬ 1024 < (a0.Units.length : Int)) (C4 : ¬ (a0.Outputs.length : Int) < 1) (C5 : ¬ 256 < (a0.Outputs.length : Int)) (L6 : loopG Tryz.prog (tab (n + 2)) 0 57 (livesOf 25) 4 vgR_C4 (vgR_h4 a0 0) = some (.exit 0, vgR_o4b a0)) (W7 : InI (a0.Inputs + (a0.Units.length : Int))) (K8 : run (n + 1) 91 [.sl 4 (a0.Outputs.map formRC), .lit (.int .i64 (a0.Inputs + (a0.Units.length : Int)))] = some (.lit (.bool r7))) :
    run (n + 2) 25 [graphRV a0] = some (.lit (.bool r7)) := by
  have C3_ : ¬ 1024 < a0.Units.length := by omega
  have C4_ : ¬ a0.Outputs.length < 1 := by omega
  have C5_ : ¬ 256 < a0.Outputs.length := by omega
  have W7_ : IntKind.i64.wrap (a0.Inputs + (a0.Units.length : Int)) = a0.Inputs + (a0.Units.length : Int) := wr64 W7.1 W7.2
  unfold run fnP
  simp +decide [Tryz.f25, C1, C2, C3, C3_, C4, C4_, C5, C5_, W7_, K8]
  rw [loopX_G (C' := vgR_C4) (e := (vgR_h4 a0 0)) ?_ ?_, L6]
  rotate_left
  · kernel_rfl
  · simp +decide [vgR_h4, C1, C2, C3, C3_, C4, C4_, C5, C5_, W7_, K8]
  simp +decide [vgR_o4b, C1, C2, C3, C3_, C4, C4_, C5, C5_, W7_, K8]
end Go.Proofs.YtlpmemelhlnfbaaGreatDoor
set_option linter.all false
set_option maxRecDepth 100000
set_option maxHeartbeats 6400000
namespace Go.Proofs.YtlpmemelhlnfbaaGreatDoor
open Go.RowKit

/-! linear.Valid, level 0 -/
noncomputable def lvaR_C2 : Code := (loopsOf (bodyOf Tryz.f60)).getD 0 .skip
def lvaR_h2 (a0 : FormR) (a1 : Int) (i_2 : Nat) : St :=
  ⟨[(1, .lit (.int .i64 a1)), (2, .ptr 0 0), (8, .sl 4 (a0.1.map termRC)), (9, .lit (.int .i64 (a0.1.length : Int))), (10, .lit (.int .i64 (i_2 : Int)))],
   [(0, some (.box 29 [.sl 4 (a0.1.map termRC), .lit (.bool a0.2.s), natA a0.2.l1, natA a0.2.l2] false))], 1⟩
def lvaR_o2a (a0 : FormR) : St :=
  ⟨[(2, .ptr 0 0), (4, .lit (.bool false))],
   [(0, some (.box 29 [.sl 4 (a0.1.map termRC), .lit (.bool a0.2.s), natA a0.2.l1, natA a0.2.l2] false))], 1⟩
def lvaR_o2b (a0 : FormR) : St :=
  ⟨[(2, .ptr 0 0), (4, .any)],
   [(0, some (.box 29 [.sl 4 (a0.1.map termRC), .lit (.bool a0.2.s), natA a0.2.l1, natA a0.2.l2] false))], 1⟩
theorem lvaR_r2_1 {n : Nat} {a0 : FormR} {a1 : Int} {i_2 : Nat} {v4 : Int} {r4 : Raw} {v5 : Int} {r5 : Raw} (C1 : (i_2 : Int) < (a0.1.length : Int)) (E2 : a0.1[i_2]? = some (v4, r4)) (C3 : ¬ v4 < 0) (C4 : ¬ a1 ≤ v4) (C5 : 0 < (i_2 : Int)) (W6 : InI ((i_2 : Int) - 1)) (E7 : a0.1[i_2 - 1]? = some (v5, r5)) (Z7 : 1 ≤ i_2) (C8 : ¬ v4 ≤ v5) (B9a : RawB r4) (C10 : ¬ sgR r4.q = 0) (C12 : RatV r4.s r4.l1 r4.l2) (W13 : InI ((i_2 : Int) + 1)) :
    Cont 0 (exec Tryz.prog (tab n) 0 56 (livesOf 60) big lvaR_C2) (livesOf 60 2) (lvaR_h2 a0 a1 i_2) (lvaR_h2 a0 a1 (i_2 + 1)) := by
  have C1_ : i_2 < a0.1.length := by omega
  obtain ⟨EL2, EG2⟩ := List.getElem?_eq_some_iff.1 E2
  have C5_ : 0 < i_2 := by omega
  have C5_z : (i_2 : Int) ≠ 0 := by omega
  have C5_e : ((i_2 : Int) == 0) = false := by simpa using C5_z
  have C5_g : ((i_2 : Int) != 0) = true := by simpa using C5_z
  have W6_ : IntKind.i64.wrap ((i_2 : Int) - 1) = (i_2 : Int) - 1 := wr64 W6.1 W6.2
  obtain ⟨EL7, EG7⟩ := List.getElem?_eq_some_iff.1 E7
  have Z7_0 : (1 : Int) ≤ (i_2 : Int) := by omega
  have Z7_1 : 0 ≤ (i_2 : Int) - 1 := by omega
  have K9 := rr_sign B9a
  have C10_ : (sgR r4.q == 0) = false := by simpa using C10
  have C10_n : (sgR r4.q != 0) = true := by simpa using C10
  have K11 := rr_valid B9a
  have W13_ : IntKind.i64.wrap ((i_2 : Int) + 1) = (i_2 : Int) + 1 := wr64 W13.1 W13.2
  unfold Cont
  simp +decide [lvaR_h2, loopsOf, Tryz.f60, lvaR_C2, C1, C1_, EL2, EG2, E2, C3, C4, C5, C5_, C5_e, C5_g, W6_, EL7, EG7, E7, Z7, Z7_0, Z7_1, C8, K9, C10_, C10_n, K11, C12, W13_]
theorem lvaR_r2_2 {n : Nat} {a0 : FormR} {a1 : Int} {i_2 : Nat} {v4 : Int} {r4 : Raw} (C1 : (i_2 : Int) < (a0.1.length : Int)) (E2 : a0.1[i_2]? = some (v4, r4)) (C3 : ¬ v4 < 0) (C4 : ¬ a1 ≤ v4) (C5 : ¬ 0 < (i_2 : Int)) (B6a : RawB r4) (C7 : ¬ sgR r4.q = 0) (C9 : RatV r4.s r4.l1 r4.l2) (W10 : InI ((i_2 : Int) + 1)) :
    Cont 0 (exec Tryz.prog (tab n) 0 56 (livesOf 60) big lvaR_C2) (livesOf 60 2) (lvaR_h2 a0 a1 i_2) (lvaR_h2 a0 a1 (i_2 + 1)) := by
  have C1_ : i_2 < a0.1.length := by omega
  obtain ⟨EL2, EG2⟩ := List.getElem?_eq_some_iff.1 E2
  have C5_ : ¬ 0 < i_2 := by omega
  have C5_z : (i_2 : Int) = 0 := by omega
  have C5_e : ((i_2 : Int) == 0) = true := by rw [C5_z]; simp
  have C5_g : ((i_2 : Int) != 0) = false := by rw [C5_z]; simp
  have K6 := rr_sign B6a
  have C7_ : (sgR r4.q == 0) = false := by simpa using C7
  have C7_n : (sgR r4.q != 0) = true := by simpa using C7
  have K8 := rr_valid B6a
  have W10_ : IntKind.i64.wrap ((i_2 : Int) + 1) = (i_2 : Int) + 1 := wr64 W10.1 W10.2
  unfold Cont
  simp +decide [lvaR_h2, loopsOf, Tryz.f60, lvaR_C2, C1, C1_, EL2, EG2, E2, C3, C4, C5, C5_, C5_e, C5_g, K6, C7_, C7_n, K8, C9, W10_]
theorem lvaR_x2_1 {n : Nat} {a0 : FormR} {a1 : Int} {i_2 : Nat} {v4 : Int} {r4 : Raw} (C1 : (i_2 : Int) < (a0.1.length : Int)) (E2 : a0.1[i_2]? = some (v4, r4)) (C3 : v4 < 0) :
    Leave 0 (exec Tryz.prog (tab n) 0 56 (livesOf 60) big lvaR_C2) (livesOf 60 (outOf 2)) (lvaR_h2 a0 a1 i_2) (.ret) (lvaR_o2a a0) := by
  have C1_ : i_2 < a0.1.length := by omega
  obtain ⟨EL2, EG2⟩ := List.getElem?_eq_some_iff.1 E2
  unfold Leave
  simp +decide [lvaR_h2, loopsOf, Tryz.f60, lvaR_o2a, lvaR_C2, C1, C1_, EL2, EG2, E2, C3]
theorem lvaR_x2_2 {n : Nat} {a0 : FormR} {a1 : Int} {i_2 : Nat} {v4 : Int} {r4 : Raw} (C1 : (i_2 : Int) < (a0.1.length : Int)) (E2 : a0.1[i_2]? = some (v4, r4)) (C3 : ¬ v4 < 0) (C4 : a1 ≤ v4) :
    Leave 0 (exec Tryz.prog (tab n) 0 56 (livesOf 60) big lvaR_C2) (livesOf 60 (outOf 2)) (lvaR_h2 a0 a1 i_2) (.ret) (lvaR_o2a a0) := by
  have C1_ : i_2 < a0.1.length := by omega
  obtain ⟨EL2, EG2⟩ := List.getElem?_eq_some_iff.1 E2
  unfold Leave
  simp +decide [lvaR_h2, loopsOf, Tryz.f60, lvaR_o2a, lvaR_C2, C1, C1_, EL2, EG2, E2, C3, C4]
theorem lvaR_x2_3 {n : Nat} {a0 : FormR} {a1 : Int} {i_2 : Nat} {v4 : Int} {r4 : Raw} {v5 : Int} {r5 : Raw} (C1 : (i_2 : Int) < (a0.1.length : Int)) (E2 : a0.1[i_2]? = some (v4, r4)) (C3 : ¬ v4 < 0) (C4 : ¬ a1 ≤ v4) (C5 : 0 < (i_2 : Int)) (W6 : InI ((i_2 : Int) - 1)) (E7 : a0.1[i_2 - 1]? = some (v5, r5)) (Z7 : 1 ≤ i_2) (C8 : v4 ≤ v5) :
    Leave 0 (exec Tryz.prog (tab n) 0 56 (livesOf 60) big lvaR_C2) (livesOf 60 (outOf 2)) (lvaR_h2 a0 a1 i_2) (.ret) (lvaR_o2a a0) := by
  have C1_ : i_2 < a0.1.length := by omega
  obtain ⟨EL2, EG2⟩ := List.getElem?_eq_some_iff.1 E2
  have C5_ : 0 < i_2 := by omega
  have C5_z : (i_2 : Int) ≠ 0 := by omega
  have C5_e : ((i_2 : Int) == 0) = false := by simpa using C5_z
  have C5_g : ((i_2 : Int) != 0) = true := by simpa using C5_z
  have W6_ : IntKind.i64.wrap ((i_2 : Int) - 1) = (i_2 : Int) - 1 := wr64 W6.1 W6.2
  obtain ⟨EL7, EG7⟩ := List.getElem?_eq_some_iff.1 E7
  have Z7_0 : (1 : Int) ≤ (i_2 : Int) := by omega
  have Z7_1 : 0 ≤ (i_2 : Int) - 1 := by omega
  unfold Leave
  simp +decide [lvaR_h2, loopsOf, Tryz.f60, lvaR_o2a, lvaR_C2, C1, C1_, EL2, EG2, E2, C3, C4, C5, C5_, C5_e, C5_g, W6_, EL7, EG7, E7, Z7, Z7_0, Z7_1, C8]
theorem lvaR_x2_4 {n : Nat} {a0 : FormR} {a1 : Int} {i_2 : Nat} {v4 : Int} {r4 : Raw} {v5 : Int} {r5 : Raw} (C1 : (i_2 : Int) < (a0.1.length : Int)) (E2 : a0.1[i_2]? = some (v4, r4)) (C3 : ¬ v4 < 0) (C4 : ¬ a1 ≤ v4) (C5 : 0 < (i_2 : Int)) (W6 : InI ((i_2 : Int) - 1)) (E7 : a0.1[i_2 - 1]? = some (v5, r5)) (Z7 : 1 ≤ i_2) (C8 : ¬ v4 ≤ v5) (B9a : RawB r4) (C10 : sgR r4.q = 0) :
    Leave 0 (exec Tryz.prog (tab n) 0 56 (livesOf 60) big lvaR_C2) (livesOf 60 (outOf 2)) (lvaR_h2 a0 a1 i_2) (.ret) (lvaR_o2a a0) := by
  have C1_ : i_2 < a0.1.length := by omega
  obtain ⟨EL2, EG2⟩ := List.getElem?_eq_some_iff.1 E2
  have C5_ : 0 < i_2 := by omega
  have C5_z : (i_2 : Int) ≠ 0 := by omega
  have C5_e : ((i_2 : Int) == 0) = false := by simpa using C5_z
  have C5_g : ((i_2 : Int) != 0) = true := by simpa using C5_z
  have W6_ : IntKind.i64.wrap ((i_2 : Int) - 1) = (i_2 : Int) - 1 := wr64 W6.1 W6.2
  obtain ⟨EL7, EG7⟩ := List.getElem?_eq_some_iff.1 E7
  have Z7_0 : (1 : Int) ≤ (i_2 : Int) := by omega
  have Z7_1 : 0 ≤ (i_2 : Int) - 1 := by omega
  have K9 := rr_sign B9a
  have C10_ : (sgR r4.q == 0) = true := by rw [C10]; simp
  have C10_n : (sgR r4.q != 0) = false := by rw [C10]; simp
  unfold Leave
  simp +decide [lvaR_h2, loopsOf, Tryz.f60, lvaR_o2a, lvaR_C2, C1, C1_, EL2, EG2, E2, C3, C4, C5, C5_, C5_e, C5_g, W6_, EL7, EG7, E7, Z7, Z7_0, Z7_1, C8, K9, C10_, C10_n]
theorem lvaR_x2_5 {n : Nat} {a0 : FormR} {a1 : Int} {i_2 : Nat} {v4 : Int} {r4 : Raw} {v5 : Int} {r5 : Raw} (C1 : (i_2 : Int) < (a0.1.length : Int)) (E2 : a0.1[i_2]? = some (v4, r4)) (C3 : ¬ v4 < 0) (C4 : ¬ a1 ≤ v4) (C5 : 0 < (i_2 : Int)) (W6 : InI ((i_2 : Int) - 1)) (E7 : a0.1[i_2 - 1]? = some (v5, r5)) (Z7 : 1 ≤ i_2) (C8 : ¬ v4 ≤ v5) (B9a : RawB r4) (C10 : ¬ sgR r4.q = 0) (C12 : ¬ (RatV r4.s r4.l1 r4.l2)) :
    Leave 0 (exec Tryz.prog (tab n) 0 56 (livesOf 60) big lvaR_C2) (livesOf 60 (outOf 2)) (lvaR_h2 a0 a1 i_2) (.ret) (lvaR_o2a a0) := by
  have C1_ : i_2 < a0.1.length := by omega
  obtain ⟨EL2, EG2⟩ := List.getElem?_eq_some_iff.1 E2
  have C5_ : 0 < i_2 := by omega
  have C5_z : (i_2 : Int) ≠ 0 := by omega
  have C5_e : ((i_2 : Int) == 0) = false := by simpa using C5_z
  have C5_g : ((i_2 : Int) != 0) = true := by simpa using C5_z
  have W6_ : IntKind.i64.wrap ((i_2 : Int) - 1) = (i_2 : Int) - 1 := wr64 W6.1 W6.2
  obtain ⟨EL7, EG7⟩ := List.getElem?_eq_some_iff.1 E7
  have Z7_0 : (1 : Int) ≤ (i_2 : Int) := by omega
  have Z7_1 : 0 ≤ (i_2 : Int) - 1 := by omega
  have K9 := rr_sign B9a
  have C10_ : (sgR r4.q == 0) = false := by simpa using C10
  have C10_n : (sgR r4.q != 0) = true := by simpa using C10
  have K11 := rr_valid B9a
  unfold Leave
  simp +decide [lvaR_h2, loopsOf, Tryz.f60, lvaR_o2a, lvaR_C2, C1, C1_, EL2, EG2, E2, C3, C4, C5, C5_, C5_e, C5_g, W6_, EL7, EG7, E7, Z7, Z7_0, Z7_1, C8, K9, C10_, C10_n, K11, C12]
theorem lvaR_x2_6 {n : Nat} {a0 : FormR} {a1 : Int} {i_2 : Nat} {v4 : Int} {r4 : Raw} (C1 : (i_2 : Int) < (a0.1.length : Int)) (E2 : a0.1[i_2]? = some (v4, r4)) (C3 : ¬ v4 < 0) (C4 : ¬ a1 ≤ v4) (C5 : ¬ 0 < (i_2 : Int)) (B6a : RawB r4) (C7 : sgR r4.q = 0) :
    Leave 0 (exec Tryz.prog (tab n) 0 56 (livesOf 60) big lvaR_C2) (livesOf 60 (outOf 2)) (lvaR_h2 a0 a1 i_2) (.ret) (lvaR_o2a a0) := by
  have C1_ : i_2 < a0.1.length := by omega
  obtain ⟨EL2, EG2⟩ := List.getElem?_eq_some_iff.1 E2
  have C5_ : ¬ 0 < i_2 := by omega
  have C5_z : (i_2 : Int) = 0 := by omega
  have C5_e : ((i_2 : Int) == 0) = true := by rw [C5_z]; simp
  have C5_g : ((i_2 : Int) != 0) = false := by rw [C5_z]; simp
  have K6 := rr_sign B6a
  have C7_ : (sgR r4.q == 0) = true := by rw [C7]; simp
  have C7_n : (sgR r4.q != 0) = false := by rw [C7]; simp
  unfold Leave
  simp +decide [lvaR_h2, loopsOf, Tryz.f60, lvaR_o2a, lvaR_C2, C1, C1_, EL2, EG2, E2, C3, C4, C5, C5_, C5_e, C5_g, K6, C7_, C7_n]
theorem lvaR_x2_7 {n : Nat} {a0 : FormR} {a1 : Int} {i_2 : Nat} {v4 : Int} {r4 : Raw} (C1 : (i_2 : Int) < (a0.1.length : Int)) (E2 : a0.1[i_2]? = some (v4, r4)) (C3 : ¬ v4 < 0) (C4 : ¬ a1 ≤ v4) (C5 : ¬ 0 < (i_2 : Int)) (B6a : RawB r4) (C7 : ¬ sgR r4.q = 0) (C9 : ¬ (RatV r4.s r4.l1 r4.l2)) :
    Leave 0 (exec Tryz.prog (tab n) 0 56 (livesOf 60) big lvaR_C2) (livesOf 60 (outOf 2)) (lvaR_h2 a0 a1 i_2) (.ret) (lvaR_o2a a0) := by
  have C1_ : i_2 < a0.1.length := by omega
  obtain ⟨EL2, EG2⟩ := List.getElem?_eq_some_iff.1 E2
  have C5_ : ¬ 0 < i_2 := by omega
  have C5_z : (i_2 : Int) = 0 := by omega
  have C5_e : ((i_2 : Int) == 0) = true := by rw [C5_z]; simp
  have C5_g : ((i_2 : Int) != 0) = false := by rw [C5_z]; simp
  have K6 := rr_sign B6a
  have C7_ : (sgR r4.q == 0) = false := by simpa using C7
  have C7_n : (sgR r4.q != 0) = true := by simpa using C7
  have K8 := rr_valid B6a
  unfold Leave
  simp +decide [lvaR_h2, loopsOf, Tryz.f60, lvaR_o2a, lvaR_C2, C1, C1_, EL2, EG2, E2, C3, C4, C5, C5_, C5_e, C5_g, K6, C7_, C7_n, K8, C9]
theorem lvaR_x2_8 {n : Nat} {a0 : FormR} {a1 : Int} {i_2 : Nat} (C1 : ¬ (i_2 : Int) < (a0.1.length : Int)) :
    Leave 0 (exec Tryz.prog (tab n) 0 56 (livesOf 60) big lvaR_C2) (livesOf 60 (outOf 2)) (lvaR_h2 a0 a1 i_2) (.exit 0) (lvaR_o2b a0) := by
  have C1_ : ¬ i_2 < a0.1.length := by omega
  unfold Leave
  simp +decide [lvaR_h2, loopsOf, Tryz.f60, lvaR_o2b, lvaR_C2, C1, C1_]
theorem lvaR_f1 {n : Nat} {a0 : FormR} {a1 : Int} (L1 : loopG Tryz.prog (tab n) 0 56 (livesOf 60) 2 lvaR_C2 (lvaR_h2 a0 a1 0) = some (.ret, lvaR_o2a a0)) :
    run n 60 [.agg [.sl 4 (a0.1.map termRC), .lit (.bool a0.2.s), natA a0.2.l1, natA a0.2.l2], .lit (.int .i64 a1)] = some (.lit (.bool false)) := by
  unfold run fnP
  simp +decide [Tryz.f60]
  rw [loopX_G (C' := lvaR_C2) (e := (lvaR_h2 a0 a1 0)) ?_ ?_, L1]
  rotate_left
  · kernel_rfl
  · simp +decide [lvaR_h2]
  simp +decide [lvaR_o2a]
theorem lvaR_f2 {n : Nat} {a0 : FormR} {a1 : Int} (L1 : loopG Tryz.prog (tab n) 0 56 (livesOf 60) 2 lvaR_C2 (lvaR_h2 a0 a1 0) = some (.exit 0, lvaR_o2b a0)) (B2a : RawB a0.2) :
    run n 60 [.agg [.sl 4 (a0.1.map termRC), .lit (.bool a0.2.s), natA a0.2.l1, natA a0.2.l2], .lit (.int .i64 a1)] = some (.lit (.bool (decide (RatV a0.2.s a0.2.l1 a0.2.l2)))) := by
  have K2 := rr_valid B2a
  unfold run fnP
  simp +decide [Tryz.f60, K2]
  rw [loopX_G (C' := lvaR_C2) (e := (lvaR_h2 a0 a1 0)) ?_ ?_, L1]
  rotate_left
  · kernel_rfl
  · simp +decide [lvaR_h2, K2]
  simp +decide [lvaR_o2b, K2]
/-! graph.valid$1, level 1 -/
theorem gvcR_f1 {n : Nat} {a0 : FormR} {c0 : Int} {r : Bool} (K1 : run n 60 [.agg [.sl 4 (a0.1.map termRC), .lit (.bool a0.2.s), natA a0.2.l1, natA a0.2.l2], .lit (.int .i64 c0)] = some (.lit (.bool r))) :
    run (n + 1) 171 [.agg [.sl 4 (a0.1.map termRC), .lit (.bool a0.2.s), natA a0.2.l1, natA a0.2.l2], .mem [.lit (.int .i64 c0)]] = some (.lit (.bool (!r))) := by
  unfold run fnP
  simp +decide [Tryz.f171, K1]
/-! slices.IndexFunc[[]api.Affine,api.Affine], level 2 -/
noncomputable def ifgR_C2 : Code := (loopsOf (bodyOf Tryz.f207)).getD 0 .skip
def ifgR_h2 (a0 : List FormR) (c0 : Int) (i_2 : Nat) : St :=
  ⟨[(0, .sl 4 (a0.map formRC)), (1, .clo 171 [.mem [.lit (.int .i64 c0)]]), (7, .lit (.int .i64 (a0.length : Int))), (8, .lit (.int .i64 (i_2 : Int)))],
   [], 0⟩
def ifgR_o2a (i_2 : Nat) : St :=
  ⟨[(4, .lit (.int .i64 (i_2 : Int)))],
   [], 0⟩
def ifgR_o2b  : St :=
  ⟨[(4, .any)],
   [], 0⟩
theorem ifgR_r2_1 {n : Nat} {a0 : List FormR} {c0 : Int} {i_2 : Nat} {F3 : List (Int × Raw)} {r5 : Raw} {r6 : Bool} (C1 : (i_2 : Int) < (a0.length : Int)) (E2 : a0[i_2]? = some (F3, r5)) (K3 : run (n + 1) 171 [.agg [.sl 4 (F3.map termRC), .lit (.bool r5.s), natA r5.l1, natA r5.l2], .mem [.lit (.int .i64 c0)]] = some (.lit (.bool r6))) (C4 : r6 = false) (W5 : InI ((i_2 : Int) + 1)) :
    Cont 0 (exec Tryz.prog (tab (n + 2)) 0 19 (livesOf 207) big ifgR_C2) (livesOf 207 2) (ifgR_h2 a0 c0 i_2) (ifgR_h2 a0 c0 (i_2 + 1)) := by
  have C1_ : i_2 < a0.length := by omega
  obtain ⟨EL2, EG2⟩ := List.getElem?_eq_some_iff.1 E2
  have W5_ : IntKind.i64.wrap ((i_2 : Int) + 1) = (i_2 : Int) + 1 := wr64 W5.1 W5.2
  unfold Cont
  simp +decide [ifgR_h2, loopsOf, Tryz.f207, ifgR_C2, C1, C1_, EL2, EG2, E2, K3, C4, W5_]
theorem ifgR_x2_1 {n : Nat} {a0 : List FormR} {c0 : Int} {i_2 : Nat} {F3 : List (Int × Raw)} {r5 : Raw} {r6 : Bool} (C1 : (i_2 : Int) < (a0.length : Int)) (E2 : a0[i_2]? = some (F3, r5)) (K3 : run (n + 1) 171 [.agg [.sl 4 (F3.map termRC), .lit (.bool r5.s), natA r5.l1, natA r5.l2], .mem [.lit (.int .i64 c0)]] = some (.lit (.bool r6))) (C4 : r6 = true) :
    Leave 0 (exec Tryz.prog (tab (n + 2)) 0 19 (livesOf 207) big ifgR_C2) (livesOf 207 (outOf 2)) (ifgR_h2 a0 c0 i_2) (.ret) (ifgR_o2a i_2) := by
  have C1_ : i_2 < a0.length := by omega
  obtain ⟨EL2, EG2⟩ := List.getElem?_eq_some_iff.1 E2
  unfold Leave
  simp +decide [ifgR_h2, loopsOf, Tryz.f207, ifgR_o2a, ifgR_C2, C1, C1_, EL2, EG2, E2, K3, C4]
theorem ifgR_x2_2 {n : Nat} {a0 : List FormR} {c0 : Int} {i_2 : Nat} (C1 : ¬ (i_2 : Int) < (a0.length : Int)) :
    Leave 0 (exec Tryz.prog (tab (n + 2)) 0 19 (livesOf 207) big ifgR_C2) (livesOf 207 (outOf 2)) (ifgR_h2 a0 c0 i_2) (.exit 0) (ifgR_o2b ) := by
  have C1_ : ¬ i_2 < a0.length := by omega
  unfold Leave
  simp +decide [ifgR_h2, loopsOf, Tryz.f207, ifgR_o2b, ifgR_C2, C1, C1_]
theorem ifgR_f1 {n : Nat} {a0 : List FormR} {c0 : Int} {i_2 : Nat} (L1 : loopG Tryz.prog (tab (n + 2)) 0 19 (livesOf 207) 2 ifgR_C2 (ifgR_h2 a0 c0 0) = some (.ret, ifgR_o2a i_2)) :
    run (n + 2) 207 [.sl 4 (a0.map formRC), .clo 171 [.mem [.lit (.int .i64 c0)]]] = some (.lit (.int .i64 (i_2 : Int))) := by
  unfold run fnP
  simp +decide [Tryz.f207]
  rw [loopX_G (C' := ifgR_C2) (e := (ifgR_h2 a0 c0 0)) ?_ ?_, L1]
  rotate_left
  · kernel_rfl
  · simp +decide [ifgR_h2]
  simp +decide [ifgR_o2a]
theorem ifgR_f2 {n : Nat} {a0 : List FormR} {c0 : Int} (L1 : loopG Tryz.prog (tab (n + 2)) 0 19 (livesOf 207) 2 ifgR_C2 (ifgR_h2 a0 c0 0) = some (.exit 0, ifgR_o2b )) :
    run (n + 2) 207 [.sl 4 (a0.map formRC), .clo 171 [.mem [.lit (.int .i64 c0)]]] = some (.lit (.int .i64 (-1))) := by
  unfold run fnP
  simp +decide [Tryz.f207]
  rw [loopX_G (C' := ifgR_C2) (e := (ifgR_h2 a0 c0 0)) ?_ ?_, L1]
  rotate_left
  · kernel_rfl
  · simp +decide [ifgR_h2]
  simp +decide [ifgR_o2b]
/-! slices.ContainsFunc[[]api.Affine,api.Affine], level 3 -/
theorem cfgR_f1 {n : Nat} {a0 : List FormR} {c0 : Int} {r : Int} (K1 : run (n + 2) 207 [.sl 4 (a0.map formRC), .clo 171 [.mem [.lit (.int .i64 c0)]]] = some (.lit (.int .i64 r))) :
    run (n + 3) 170 [.sl 4 (a0.map formRC), .clo 171 [.mem [.lit (.int .i64 c0)]]] = some (.lit (.bool (decide (0 ≤ r)))) := by
  unfold run fnP
  simp +decide [Tryz.f170, K1]
/-! graph.valid, level 4 -/
theorem gvaR_f1 {n : Nat} {a0 : List FormR} {a1 : Int} {r : Bool} (K1 : run (n + 3) 170 [.sl 4 (a0.map formRC), .clo 171 [.mem [.lit (.int .i64 a1)]]] = some (.lit (.bool r))) :
    run (n + 4) 104 [.sl 4 (a0.map formRC), .lit (.int .i64 a1)] = some (.lit (.bool (!r))) := by
  unfold run fnP
  simp +decide [Tryz.f104, K1]
/-! graph.Valid, level 5 -/
noncomputable def gVR_C4 : Code := (loopsOf (bodyOf Tryz.f41)).getD 0 .skip
def gVR_h4 (a0 : TGraphR) (i_4 : Nat) : St :=
  ⟨[(1, .ptr 0 0), (32, .sl 4 (a0.Units.map formRC)), (33, .lit (.int .i64 (a0.Units.length : Int))), (34, .lit (.int .i64 (i_4 : Int)))],
   [(0, some (.box 38 [.lit (.int .i64 (a0.Inputs)), .sl 4 (a0.Units.map formRC), .sl 4 (a0.Outputs.map formRC)] false))], 1⟩
def gVR_o4a (a0 : TGraphR) : St :=
  ⟨[(1, .ptr 0 0), (2, .lit (.bool false))],
   [(0, some (.box 38 [.lit (.int .i64 (a0.Inputs)), .sl 4 (a0.Units.map formRC), .sl 4 (a0.Outputs.map formRC)] false))], 1⟩
def gVR_o4b (a0 : TGraphR) : St :=
  ⟨[(1, .ptr 0 0), (2, .any)],
   [(0, some (.box 38 [.lit (.int .i64 (a0.Inputs)), .sl 4 (a0.Units.map formRC), .sl 4 (a0.Outputs.map formRC)] false))], 1⟩
theorem gVR_r4_1 {n : Nat} {a0 : TGraphR} {i_4 : Nat} {F3 : List (Int × Raw)} {r5 : Raw} {r6 : Bool} (C1 : (i_4 : Int) < (a0.Units.length : Int)) (E2 : a0.Units[i_4]? = some (F3, r5)) (W3 : InI (a0.Inputs + (i_4 : Int))) (K4 : run (n + 4) 60 [.agg [.sl 4 (F3.map termRC), .lit (.bool r5.s), natA r5.l1, natA r5.l2], .lit (.int .i64 (a0.Inputs + (i_4 : Int)))] = some (.lit (.bool r6))) (C5 : r6 = true) (W6 : InI ((i_4 : Int) + 1)) :
    Cont 0 (exec Tryz.prog (tab (n + 5)) 0 56 (livesOf 41) big gVR_C4) (livesOf 41 4) (gVR_h4 a0 i_4) (gVR_h4 a0 (i_4 + 1)) := by
  have C1_ : i_4 < a0.Units.length := by omega
  obtain ⟨EL2, EG2⟩ := List.getElem?_eq_some_iff.1 E2
  have W3_ : IntKind.i64.wrap (a0.Inputs + (i_4 : Int)) = a0.Inputs + (i_4 : Int) := wr64 W3.1 W3.2
  have W6_ : IntKind.i64.wrap ((i_4 : Int) + 1) = (i_4 : Int) + 1 := wr64 W6.1 W6.2
  unfold Cont
  simp +decide [gVR_h4, loopsOf, Tryz.f41, gVR_C4, C1, C1_, EL2, EG2, E2, W3_, K4, C5, W6_]
theorem gVR_x4_1 {n : Nat} {a0 : TGraphR} {i_4 : Nat} {F3 : List (Int × Raw)} {r5 : Raw} {r6 : Bool} (C1 : (i_4 : Int) < (a0.Units.length : Int)) (E2 : a0.Units[i_4]? = some (F3, r5)) (W3 : InI (a0.Inputs + (i_4 : Int))) (K4 : run (n + 4) 60 [.agg [.sl 4 (F3.map termRC), .lit (.bool r5.s), natA r5.l1, natA r5.l2], .lit (.int .i64 (a0.Inputs + (i_4 : Int)))] = some (.lit (.bool r6))) (C5 : r6 = false) :
    Leave 0 (exec Tryz.prog (tab (n + 5)) 0 56 (livesOf 41) big gVR_C4) (livesOf 41 (outOf 4)) (gVR_h4 a0 i_4) (.ret) (gVR_o4a a0) := by
  have C1_ : i_4 < a0.Units.length := by omega
  obtain ⟨EL2, EG2⟩ := List.getElem?_eq_some_iff.1 E2
  have W3_ : IntKind.i64.wrap (a0.Inputs + (i_4 : Int)) = a0.Inputs + (i_4 : Int) := wr64 W3.1 W3.2
  unfold Leave
  simp +decide [gVR_h4, loopsOf, Tryz.f41, gVR_o4a, gVR_C4, C1, C1_, EL2, EG2, E2, W3_, K4, C5]
theorem gVR_x4_2 {n : Nat} {a0 : TGraphR} {i_4 : Nat} (C1 : ¬ (i_4 : Int) < (a0.Units.length : Int)) :
    Leave 0 (exec Tryz.prog (tab (n + 5)) 0 56 (livesOf 41) big gVR_C4) (livesOf 41 (outOf 4)) (gVR_h4 a0 i_4) (.exit 0) (gVR_o4b a0) := by
  have C1_ : ¬ i_4 < a0.Units.length := by omega
  unfold Leave
  simp +decide [gVR_h4, loopsOf, Tryz.f41, gVR_o4b, gVR_C4, C1, C1_]
theorem gVR_f1 {n : Nat} {a0 : TGraphR} (C1 : a0.Inputs < 1) :
    run (n + 5) 41 [graphRV a0] = some (.lit (.bool false)) := by
  unfold run fnP
  simp +decide [Tryz.f41, C1]
theorem gVR_f2 {n : Nat} {a0 : TGraphR} (C1 : ¬ a0.Inputs < 1) (C2 : 256 < a0.Inputs) :
    run (n + 5) 41 [graphRV a0] = some (.lit (.bool false)) := by
  unfold run fnP
  simp +decide [Tryz.f41, C1, C2]
theorem gVR_f3 {n : Nat} {a0 : TGraphR} (C1 : ¬ a0.Inputs < 1) (C2 : ¬ 256 < a0.Inputs) (C3 : 1024 < (a0.Units.length : Int)) :
    run (n + 5) 41 [graphRV a0] = some (.lit (.bool false)) := by
  have C3_ : 1024 < a0.Units.length := by omega
  unfold run fnP
  simp +decide [Tryz.f41, C1, C2, C3, C3_]
theorem gVR_f4 {n : Nat} {a0 : TGraphR} (C1 : ¬ a0.Inputs < 1) (C2 : ¬ 256 < a0.Inputs) (C3 : ¬ 1024 < (a0.Units.length : Int)) (C4 : (a0.Outputs.length : Int) < 1) :
    run (n + 5) 41 [graphRV a0] = some (.lit (.bool false)) := by
  have C3_ : ¬ 1024 < a0.Units.length := by omega
  have C4_ : a0.Outputs.length < 1 := by omega
  unfold run fnP
  simp +decide [Tryz.f41, C1, C2, C3, C3_, C4, C4_]
theorem gVR_f5 {n : Nat} {a0 : TGraphR} (C1 : ¬ a0.Inputs < 1) (C2 : ¬ 256 < a0.Inputs) (C3 : ¬ 1024 < (a0.Units.length : Int)) (C4 : ¬ (a0.Outputs.length : Int) < 1) (C5 : 256 < (a0.Outputs.length : Int)) :
    run (n + 5) 41 [graphRV a0] = some (.lit (.bool false)) := by
  have C3_ : ¬ 1024 < a0.Units.length := by omega
  have C4_ : ¬ a0.Outputs.length < 1 := by omega
  have C5_ : 256 < a0.Outputs.length := by omega
  unfold run fnP
  simp +decide [Tryz.f41, C1, C2, C3, C3_, C4, C4_, C5, C5_]
theorem gVR_f6 {n : Nat} {a0 : TGraphR} (C1 : ¬ a0.Inputs < 1) (C2 : ¬ 256 < a0.Inputs) (C3 : ¬ 1024 < (a0.Units.length : Int)) (C4 : ¬ (a0.Outputs.length : Int) < 1) (C5 : ¬ 256 < (a0.Outputs.length : Int)) (L6 : loopG Tryz.prog (tab (n + 5)) 0 56 (livesOf 41) 4 gVR_C4 (gVR_h4 a0 0) = some (.ret, gVR_o4a a0)) :
    run (n + 5) 41 [graphRV a0] = some (.lit (.bool false)) := by
  have C3_ : ¬ 1024 < a0.Units.length := by omega
  have C4_ : ¬ a0.Outputs.length < 1 := by omega
  have C5_ : ¬ 256 < a0.Outputs.length := by omega
  unfold run fnP
  simp +decide [Tryz.f41, C1, C2, C3, C3_, C4, C4_, C5, C5_]
  rw [loopX_G (C' := gVR_C4) (e := (gVR_h4 a0 0)) ?_ ?_, L6]
  rotate_left
  · kernel_rfl
  · simp +decide [gVR_h4, C1, C2, C3, C3_, C4, C4_, C5, C5_]
  simp +decide [gVR_o4a, C1, C2, C3, C3_, C4, C4_, C5, C5_]
theorem gVR_f7 {n : Nat} {a0 : TGraphR} {r7 : Bool} (C1 : ¬ a0.Inputs < 1) (C2 : ¬ 256 < a0.Inputs) (C3 : ¬ 1024 < (a0.Units.length : Int)) (C4 : ¬ (a0.Outputs.length : Int) < 1) (C5 : ¬ 256 < (a0.Outputs.length : Int)) (L6 : loopG Tryz.prog (tab (n + 5)) 0 56 (livesOf 41) 4 gVR_C4 (gVR_h4 a0 0) = some (.exit 0, gVR_o4b a0)) (W7 : InI (a0.Inputs + (a0.Units.length : Int))) (K8 : run (n + 4) 104 [.sl 4 (a0.Outputs.map formRC), .lit (.int .i64 (a0.Inputs + (a0.Units.length : Int)))] = some (.lit (.bool r7))) :
    run (n + 5) 41 [graphRV a0] = some (.lit (.bool r7)) := by
  have C3_ : ¬ 1024 < a0.Units.length := by omega
  have C4_ : ¬ a0.Outputs.length < 1 := by omega
  have C5_ : ¬ 256 < a0.Outputs.length := by omega
  have W7_ : IntKind.i64.wrap (a0.Inputs + (a0.Units.length : Int)) = a0.Inputs + (a0.Units.length : Int) := wr64 W7.1 W7.2
  unfold run fnP
  simp +decide [Tryz.f41, C1, C2, C3, C3_, C4, C4_, C5, C5_, W7_, K8]
  rw [loopX_G (C' := gVR_C4) (e := (gVR_h4 a0 0)) ?_ ?_, L6]
  rotate_left
  · kernel_rfl
  · simp +decide [gVR_h4, C1, C2, C3, C3_, C4, C4_, C5, C5_, W7_, K8]
  simp +decide [gVR_o4b, C1, C2, C3, C3_, C4, C4_, C5, C5_, W7_, K8]
end Go.Proofs.YtlpmemelhlnfbaaGreatDoor
