/- Walks: relucertref07.Valid@0. Walks: relucertlaw15.forms@0. Walks: relucertlaw15.few@0, relucertlaw15.point@0, relucertlaw15.copied@0. -/
import Derived.Test.YtlpmemelhlnfbaaGreatDoorGA5
import Derived.Test.YtlpmemelhlnfbaaGreatDoorGA6
set_option linter.all false
set_option linter.all false
set_option maxRecDepth 100000
set_option maxHeartbeats 6400000
namespace Go.Proofs.YtlpmemelhlnfbaaGreatDoor
open Go.RowKit

/-! relucertref07.Valid, level 0 -/
noncomputable def vaR_C2 : Code := (loopsOf (bodyOf Tryz.f51)).getD 0 .skip
def vaR_h2 (a0 : FormR) (a1 : Int) (i_2 : Nat) : St :=
  ⟨[(1, .lit (.int .i64 a1)), (2, .ptr 0 0), (5, .lit (.int .i64 (i_2 : Int)))],
   [(0, some (.box 29 [.sl 4 (a0.1.map termRC), .lit (.bool a0.2.s), natA a0.2.l1, natA a0.2.l2] false))], 1⟩
def vaR_o2a (a0 : FormR) : St :=
  ⟨[(2, .ptr 0 0), (4, .lit (.bool false))],
   [(0, some (.box 29 [.sl 4 (a0.1.map termRC), .lit (.bool a0.2.s), natA a0.2.l1, natA a0.2.l2] false))], 1⟩
def vaR_o2b (a0 : FormR) : St :=
  ⟨[(2, .ptr 0 0), (4, .any)],
   [(0, some (.box 29 [.sl 4 (a0.1.map termRC), .lit (.bool a0.2.s), natA a0.2.l1, natA a0.2.l2] false))], 1⟩
theorem vaR_r2_1 {n : Nat} {a0 : FormR} {a1 : Int} {i_2 : Nat} {v4 : Int} {r4 : Raw} {v5 : Int} {r5 : Raw} (C1 : (i_2 : Int) < (a0.1.length : Int)) (E2 : a0.1[i_2]? = some (v4, r4)) (C3 : ¬ v4 < 0) (C4 : ¬ a1 ≤ v4) (C5 : 0 < (i_2 : Int)) (W6 : InI ((i_2 : Int) - 1)) (E7 : a0.1[i_2 - 1]? = some (v5, r5)) (Z7 : 1 ≤ i_2) (C8 : ¬ v4 ≤ v5) (B9a : RawB r4) (C10 : ¬ sgR r4.q = 0) (C12 : RatV r4.s r4.l1 r4.l2) (W13 : InI ((i_2 : Int) + 1)) :
    Cont 0 (exec Tryz.prog (tab n) 0 59 (livesOf 51) big vaR_C2) (livesOf 51 2) (vaR_h2 a0 a1 i_2) (vaR_h2 a0 a1 (i_2 + 1)) := by
  have C1_ : i_2 < a0.1.length := by omega
  obtain ⟨EL2, EG2⟩ := List.getElem?_eq_some_iff.1 E2
  have C5_ : 0 < i_2 := by omega
  have C5_z : (i_2 : Int) ≠ 0 := by omega
  have C5_e : ((i_2 : Int) == 0) = false := by simpa using C5_z
  have C5_g : ((i_2 : Int) != 0) = true := by simpa using C5_z
  have W6_ : IntKind.i64.wrap ((i_2 : Int) - 1) = (i_2 : Int) - 1 := wr64 W6.1 W6.2
  obtain ⟨EL7, EG7⟩ := List.getElem?_eq_some_iff.1 E7
  have Z7_0 : (1 : Int) ≤ (i_2 : Int) := by omega
  have Z7_1 : 0 ≤ (i_2 : Int) - 1 := by omega
  have K9 := rr_sign B9a
  have C10_ : (sgR r4.q == 0) = false := by simpa using C10
  have C10_n : (sgR r4.q != 0) = true := by simpa using C10
  have K11 := rr_valid B9a
  have W13_ : IntKind.i64.wrap ((i_2 : Int) + 1) = (i_2 : Int) + 1 := wr64 W13.1 W13.2
  unfold Cont
  simp +decide [vaR_h2, loopsOf, Tryz.f51, vaR_C2, C1, C1_, EL2, EG2, E2, C3, C4, C5, C5_, C5_e, C5_g, W6_, EL7, EG7, E7, Z7, Z7_0, Z7_1, C8, K9, C10_, C10_n, K11, C12, W13_]
theorem vaR_r2_2 {n : Nat} {a0 : FormR} {a1 : Int} {i_2 : Nat} {v4 : Int} {r4 : Raw} (C1 : (i_2 : Int) < (a0.1.length : Int)) (E2 : a0.1[i_2]? = some (v4, r4)) (C3 : ¬ v4 < 0) (C4 : ¬ a1 ≤ v4) (C5 : ¬ 0 < (i_2 : Int)) (B6a : RawB r4) (C7 : ¬ sgR r4.q = 0) (C9 : RatV r4.s r4.l1 r4.l2) (W10 : InI ((i_2 : Int) + 1)) :
    Cont 0 (exec Tryz.prog (tab n) 0 59 (livesOf 51) big vaR_C2) (livesOf 51 2) (vaR_h2 a0 a1 i_2) (vaR_h2 a0 a1 (i_2 + 1)) := by
  have C1_ : i_2 < a0.1.length := by omega
  obtain ⟨EL2, EG2⟩ := List.getElem?_eq_some_iff.1 E2
  have C5_ : ¬ 0 < i_2 := by omega
  have C5_z : (i_2 : Int) = 0 := by omega
  have C5_e : ((i_2 : Int) == 0) = true := by rw [C5_z]; simp
  have C5_g : ((i_2 : Int) != 0) = false := by rw [C5_z]; simp
  have K6 := rr_sign B6a
  have C7_ : (sgR r4.q == 0) = false := by simpa using C7
  have C7_n : (sgR r4.q != 0) = true := by simpa using C7
  have K8 := rr_valid B6a
  have W10_ : IntKind.i64.wrap ((i_2 : Int) + 1) = (i_2 : Int) + 1 := wr64 W10.1 W10.2
  unfold Cont
  simp +decide [vaR_h2, loopsOf, Tryz.f51, vaR_C2, C1, C1_, EL2, EG2, E2, C3, C4, C5, C5_, C5_e, C5_g, K6, C7_, C7_n, K8, C9, W10_]
theorem vaR_x2_1 {n : Nat} {a0 : FormR} {a1 : Int} {i_2 : Nat} {v4 : Int} {r4 : Raw} (C1 : (i_2 : Int) < (a0.1.length : Int)) (E2 : a0.1[i_2]? = some (v4, r4)) (C3 : v4 < 0) :
    Leave 0 (exec Tryz.prog (tab n) 0 59 (livesOf 51) big vaR_C2) (livesOf 51 (outOf 2)) (vaR_h2 a0 a1 i_2) (.ret) (vaR_o2a a0) := by
  have C1_ : i_2 < a0.1.length := by omega
  obtain ⟨EL2, EG2⟩ := List.getElem?_eq_some_iff.1 E2
  unfold Leave
  simp +decide [vaR_h2, loopsOf, Tryz.f51, vaR_o2a, vaR_C2, C1, C1_, EL2, EG2, E2, C3]
theorem vaR_x2_2 {n : Nat} {a0 : FormR} {a1 : Int} {i_2 : Nat} {v4 : Int} {r4 : Raw} (C1 : (i_2 : Int) < (a0.1.length : Int)) (E2 : a0.1[i_2]? = some (v4, r4)) (C3 : ¬ v4 < 0) (C4 : a1 ≤ v4) :
    Leave 0 (exec Tryz.prog (tab n) 0 59 (livesOf 51) big vaR_C2) (livesOf 51 (outOf 2)) (vaR_h2 a0 a1 i_2) (.ret) (vaR_o2a a0) := by
  have C1_ : i_2 < a0.1.length := by omega
  obtain ⟨EL2, EG2⟩ := List.getElem?_eq_some_iff.1 E2
  unfold Leave
  simp +decide [vaR_h2, loopsOf, Tryz.f51, vaR_o2a, vaR_C2, C1, C1_, EL2, EG2, E2, C3, C4]
theorem vaR_x2_3 {n : Nat} {a0 : FormR} {a1 : Int} {i_2 : Nat} {v4 : Int} {r4 : Raw} {v5 : Int} {r5 : Raw} (C1 : (i_2 : Int) < (a0.1.length : Int)) (E2 : a0.1[i_2]? = some (v4, r4)) (C3 : ¬ v4 < 0) (C4 : ¬ a1 ≤ v4) (C5 : 0 < (i_2 : Int)) (W6 : InI ((i_2 : Int) - 1)) (E7 : a0.1[i_2 - 1]? = some (v5, r5)) (Z7 : 1 ≤ i_2) (C8 : v4 ≤ v5) :
    Leave 0 (exec Tryz.prog (tab n) 0 59 (livesOf 51) big vaR_C2) (livesOf 51 (outOf 2)) (vaR_h2 a0 a1 i_2) (.ret) (vaR_o2a a0) := by
  have C1_ : i_2 < a0.1.length := by omega
  obtain ⟨EL2, EG2⟩ := List.getElem?_eq_some_iff.1 E2
  have C5_ : 0 < i_2 := by omega
  have C5_z : (i_2 : Int) ≠ 0 := by omega
  have C5_e : ((i_2 : Int) == 0) = false := by simpa using C5_z
  have C5_g : ((i_2 : Int) != 0) = true := by simpa using C5_z
  have W6_ : IntKind.i64.wrap ((i_2 : Int) - 1) = (i_2 : Int) - 1 := wr64 W6.1 W6.2
  obtain ⟨EL7, EG7⟩ := List.getElem?_eq_some_iff.1 E7
  have Z7_0 : (1 : Int) ≤ (i_2 : Int) := by omega
  have Z7_1 : 0 ≤ (i_2 : Int) - 1 := by omega
  unfold Leave
  simp +decide [vaR_h2, loopsOf, Tryz.f51, vaR_o2a, vaR_C2, C1, C1_, EL2, EG2, E2, C3, C4, C5, C5_, C5_e, C5_g, W6_, EL7, EG7, E7, Z7, Z7_0, Z7_1, C8]
theorem vaR_x2_4 {n : Nat} {a0 : FormR} {a1 : Int} {i_2 : Nat} {v4 : Int} {r4 : Raw} {v5 : Int} {r5 : Raw} (C1 : (i_2 : Int) < (a0.1.length : Int)) (E2 : a0.1[i_2]? = some (v4, r4)) (C3 : ¬ v4 < 0) (C4 : ¬ a1 ≤ v4) (C5 : 0 < (i_2 : Int)) (W6 : InI ((i_2 : Int) - 1)) (E7 : a0.1[i_2 - 1]? = some (v5, r5)) (Z7 : 1 ≤ i_2) (C8 : ¬ v4 ≤ v5) (B9a : RawB r4) (C10 : sgR r4.q = 0) :
    Leave 0 (exec Tryz.prog (tab n) 0 59 (livesOf 51) big vaR_C2) (livesOf 51 (outOf 2)) (vaR_h2 a0 a1 i_2) (.ret) (vaR_o2a a0) := by
  have C1_ : i_2 < a0.1.length := by omega
  obtain ⟨EL2, EG2⟩ := List.getElem?_eq_some_iff.1 E2
  have C5_ : 0 < i_2 := by omega
  have C5_z : (i_2 : Int) ≠ 0 := by omega
  have C5_e : ((i_2 : Int) == 0) = false := by simpa using C5_z
  have C5_g : ((i_2 : Int) != 0) = true := by simpa using C5_z
  have W6_ : IntKind.i64.wrap ((i_2 : Int) - 1) = (i_2 : Int) - 1 := wr64 W6.1 W6.2
  obtain ⟨EL7, EG7⟩ := List.getElem?_eq_some_iff.1 E7
  have Z7_0 : (1 : Int) ≤ (i_2 : Int) := by omega
  have Z7_1 : 0 ≤ (i_2 : Int) - 1 := by omega
  have K9 := rr_sign B9a
  have C10_ : (sgR r4.q == 0) = true := by rw [C10]; simp
  have C10_n : (sgR r4.q != 0) = false := by rw [C10]; simp
  unfold Leave
  simp +decide [vaR_h2, loopsOf, Tryz.f51, vaR_o2a, vaR_C2, C1, C1_, EL2, EG2, E2, C3, C4, C5, C5_, C5_e, C5_g, W6_, EL7, EG7, E7, Z7, Z7_0, Z7_1, C8, K9, C10_, C10_n]
theorem vaR_x2_5 {n : Nat} {a0 : FormR} {a1 : Int} {i_2 : Nat} {v4 : Int} {r4 : Raw} {v5 : Int} {r5 : Raw} (C1 : (i_2 : Int) < (a0.1.length : Int)) (E2 : a0.1[i_2]? = some (v4, r4)) (C3 : ¬ v4 < 0) (C4 : ¬ a1 ≤ v4) (C5 : 0 < (i_2 : Int)) (W6 : InI ((i_2 : Int) - 1)) (E7 : a0.1[i_2 - 1]? = some (v5, r5)) (Z7 : 1 ≤ i_2) (C8 : ¬ v4 ≤ v5) (B9a : RawB r4) (C10 : ¬ sgR r4.q = 0) (C12 : ¬ (RatV r4.s r4.l1 r4.l2)) :
    Leave 0 (exec Tryz.prog (tab n) 0 59 (livesOf 51) big vaR_C2) (livesOf 51 (outOf 2)) (vaR_h2 a0 a1 i_2) (.ret) (vaR_o2a a0) := by
  have C1_ : i_2 < a0.1.length := by omega
  obtain ⟨EL2, EG2⟩ := List.getElem?_eq_some_iff.1 E2
  have C5_ : 0 < i_2 := by omega
  have C5_z : (i_2 : Int) ≠ 0 := by omega
  have C5_e : ((i_2 : Int) == 0) = false := by simpa using C5_z
  have C5_g : ((i_2 : Int) != 0) = true := by simpa using C5_z
  have W6_ : IntKind.i64.wrap ((i_2 : Int) - 1) = (i_2 : Int) - 1 := wr64 W6.1 W6.2
  obtain ⟨EL7, EG7⟩ := List.getElem?_eq_some_iff.1 E7
  have Z7_0 : (1 : Int) ≤ (i_2 : Int) := by omega
  have Z7_1 : 0 ≤ (i_2 : Int) - 1 := by omega
  have K9 := rr_sign B9a
  have C10_ : (sgR r4.q == 0) = false := by simpa using C10
  have C10_n : (sgR r4.q != 0) = true := by simpa using C10
  have K11 := rr_valid B9a
  unfold Leave
  simp +decide [vaR_h2, loopsOf, Tryz.f51, vaR_o2a, vaR_C2, C1, C1_, EL2, EG2, E2, C3, C4, C5, C5_, C5_e, C5_g, W6_, EL7, EG7, E7, Z7, Z7_0, Z7_1, C8, K9, C10_, C10_n, K11, C12]
theorem vaR_x2_6 {n : Nat} {a0 : FormR} {a1 : Int} {i_2 : Nat} {v4 : Int} {r4 : Raw} (C1 : (i_2 : Int) < (a0.1.length : Int)) (E2 : a0.1[i_2]? = some (v4, r4)) (C3 : ¬ v4 < 0) (C4 : ¬ a1 ≤ v4) (C5 : ¬ 0 < (i_2 : Int)) (B6a : RawB r4) (C7 : sgR r4.q = 0) :
    Leave 0 (exec Tryz.prog (tab n) 0 59 (livesOf 51) big vaR_C2) (livesOf 51 (outOf 2)) (vaR_h2 a0 a1 i_2) (.ret) (vaR_o2a a0) := by
  have C1_ : i_2 < a0.1.length := by omega
  obtain ⟨EL2, EG2⟩ := List.getElem?_eq_some_iff.1 E2
  have C5_ : ¬ 0 < i_2 := by omega
  have C5_z : (i_2 : Int) = 0 := by omega
  have C5_e : ((i_2 : Int) == 0) = true := by rw [C5_z]; simp
  have C5_g : ((i_2 : Int) != 0) = false := by rw [C5_z]; simp
  have K6 := rr_sign B6a
  have C7_ : (sgR r4.q == 0) = true := by rw [C7]; simp
  have C7_n : (sgR r4.q != 0) = false := by rw [C7]; simp
  unfold Leave
  simp +decide [vaR_h2, loopsOf, Tryz.f51, vaR_o2a, vaR_C2, C1, C1_, EL2, EG2, E2, C3, C4, C5, C5_, C5_e, C5_g, K6, C7_, C7_n]
theorem vaR_x2_7 {n : Nat} {a0 : FormR} {a1 : Int} {i_2 : Nat} {v4 : Int} {r4 : Raw} (C1 : (i_2 : Int) < (a0.1.length : Int)) (E2 : a0.1[i_2]? = some (v4, r4)) (C3 : ¬ v4 < 0) (C4 : ¬ a1 ≤ v4) (C5 : ¬ 0 < (i_2 : Int)) (B6a : RawB r4) (C7 : ¬ sgR r4.q = 0) (C9 : ¬ (RatV r4.s r4.l1 r4.l2)) :
    Leave 0 (exec Tryz.prog (tab n) 0 59 (livesOf 51) big vaR_C2) (livesOf 51 (outOf 2)) (vaR_h2 a0 a1 i_2) (.ret) (vaR_o2a a0) := by
  have C1_ : i_2 < a0.1.length := by omega
  obtain ⟨EL2, EG2⟩ := List.getElem?_eq_some_iff.1 E2
  have C5_ : ¬ 0 < i_2 := by omega
  have C5_z : (i_2 : Int) = 0 := by omega
  have C5_e : ((i_2 : Int) == 0) = true := by rw [C5_z]; simp
  have C5_g : ((i_2 : Int) != 0) = false := by rw [C5_z]; simp
  have K6 := rr_sign B6a
  have C7_ : (sgR r4.q == 0) = false := by simpa using C7
  have C7_n : (sgR r4.q != 0) = true := by simpa using C7
  have K8 := rr_valid B6a
  unfold Leave
  simp +decide [vaR_h2, loopsOf, Tryz.f51, vaR_o2a, vaR_C2, C1, C1_, EL2, EG2, E2, C3, C4, C5, C5_, C5_e, C5_g, K6, C7_, C7_n, K8, C9]
theorem vaR_x2_8 {n : Nat} {a0 : FormR} {a1 : Int} {i_2 : Nat} (C1 : ¬ (i_2 : Int) < (a0.1.length : Int)) :
    Leave 0 (exec Tryz.prog (tab n) 0 59 (livesOf 51) big vaR_C2) (livesOf 51 (outOf 2)) (vaR_h2 a0 a1 i_2) (.exit 0) (vaR_o2b a0) := by
  have C1_ : ¬ i_2 < a0.1.length := by omega
  unfold Leave
  simp +decide [vaR_h2, loopsOf, Tryz.f51, vaR_o2b, vaR_C2, C1, C1_]
theorem vaR_f1 {n : Nat} {a0 : FormR} {a1 : Int} (L1 : loopG Tryz.prog (tab n) 0 59 (livesOf 51) 2 vaR_C2 (vaR_h2 a0 a1 0) = some (.ret, vaR_o2a a0)) :
    run n 51 [.agg [.sl 4 (a0.1.map termRC), .lit (.bool a0.2.s), natA a0.2.l1, natA a0.2.l2], .lit (.int .i64 a1)] = some (.lit (.bool false)) := by
  unfold run fnP
  simp +decide [Tryz.f51]
  rw [loopX_G (C' := vaR_C2) (e := (vaR_h2 a0 a1 0)) ?_ ?_, L1]
  rotate_left
  · kernel_rfl
  · simp +decide [vaR_h2]
  simp +decide [vaR_o2a]
theorem vaR_f2 {n : Nat} {a0 : FormR} {a1 : Int} (L1 : loopG Tryz.prog (tab n) 0 59 (livesOf 51) 2 vaR_C2 (vaR_h2 a0 a1 0) = some (.exit 0, vaR_o2b a0)) (B2a : RawB a0.2) :
    run n 51 [.agg [.sl 4 (a0.1.map termRC), .lit (.bool a0.2.s), natA a0.2.l1, natA a0.2.l2], .lit (.int .i64 a1)] = some (.lit (.bool (decide (RatV a0.2.s a0.2.l1 a0.2.l2)))) := by
  have K2 := rr_valid B2a
  unfold run fnP
  simp +decide [Tryz.f51, K2]
  rw [loopX_G (C' := vaR_C2) (e := (vaR_h2 a0 a1 0)) ?_ ?_, L1]
  rotate_left
  · kernel_rfl
  · simp +decide [vaR_h2, K2]
  simp +decide [vaR_o2b, K2]
end Go.Proofs.YtlpmemelhlnfbaaGreatDoor
set_option linter.all false
set_option maxRecDepth 100000
set_option maxHeartbeats 6400000
namespace Go.Proofs.YtlpmemelhlnfbaaGreatDoor
open Go.RowKit

/-! relucertlaw15.forms, level 1 -/
noncomputable def frm_C2 : Code := (loopsOf (bodyOf Tryz.f95)).getD 0 .skip
noncomputable def frm_C7 : Code := (loopsOf frm_C2).getD 0 .skip
def frm_h7 (a0 : List FormR) (i_2 : Nat) (i_7 : Nat) : St :=
  ⟨[(0, .sl 4 (a0.map formRC)), (3, .lit (.int .i64 (i_2 : Int))), (4, .lit (.int .i64 (i_7 : Int)))],
   [], 0⟩
def frm_h2 (a0 : List FormR) (i_2 : Nat) : St :=
  ⟨[(0, .sl 4 (a0.map formRC)), (3, .lit (.int .i64 (i_2 : Int)))],
   [], 0⟩
def frm_o7a (a0 : List FormR) (i_2 : Nat) : St :=
  ⟨[(0, .sl 4 (a0.map formRC)), (2, .lit (.bool false)), (3, .lit (.int .i64 (i_2 : Int)))],
   [], 0⟩
def frm_o7b (a0 : List FormR) (i_2 : Nat) : St :=
  ⟨[(0, .sl 4 (a0.map formRC)), (2, .any), (3, .lit (.int .i64 (i_2 : Int)))],
   [], 0⟩
def frm_o2a  : St :=
  ⟨[(2, .lit (.bool false))],
   [], 0⟩
def frm_o2b  : St :=
  ⟨[(2, .any)],
   [], 0⟩
theorem frm_r7_1 {n : Nat} {a0 : List FormR} {i_2 : Nat} {F12 : List (Int × Raw)} {r31 : Raw} {i_7 : Nat} {v9 : Int} {r32 : Raw} {r33 : Bool} (E1 : a0[i_2]? = some (F12, r31)) (C2 : (i_7 : Int) < (F12.length : Int)) (E3 : F12[i_7]? = some (v9, r32)) (K4 : run n 19 [.agg [.lit (.bool r32.s), natA r32.l1, natA r32.l2]] = some (.lit (.bool r33))) (C5 : r33 = true) (W6 : InI ((i_7 : Int) + 1)) :
    Cont 0 (exec Tryz.prog (tab (n + 1)) 0 48 (livesOf 95) big frm_C7) (livesOf 95 7) (frm_h7 a0 i_2 i_7) (frm_h7 a0 i_2 (i_7 + 1)) := by
  obtain ⟨EL1, EG1⟩ := List.getElem?_eq_some_iff.1 E1
  have C2_ : i_7 < F12.length := by omega
  obtain ⟨EL3, EG3⟩ := List.getElem?_eq_some_iff.1 E3
  have W6_ : IntKind.i64.wrap ((i_7 : Int) + 1) = (i_7 : Int) + 1 := wr64 W6.1 W6.2
  unfold Cont
  simp +decide [frm_h7, loopsOf, Tryz.f95, frm_C2, frm_C7, EL1, EG1, E1, C2, C2_, EL3, EG3, E3, K4, C5, W6_]
theorem frm_x7_1 {n : Nat} {a0 : List FormR} {i_2 : Nat} {F12 : List (Int × Raw)} {r31 : Raw} {i_7 : Nat} {v9 : Int} {r32 : Raw} {r33 : Bool} (E1 : a0[i_2]? = some (F12, r31)) (C2 : (i_7 : Int) < (F12.length : Int)) (E3 : F12[i_7]? = some (v9, r32)) (K4 : run n 19 [.agg [.lit (.bool r32.s), natA r32.l1, natA r32.l2]] = some (.lit (.bool r33))) (C5 : r33 = false) :
    Leave 0 (exec Tryz.prog (tab (n + 1)) 0 48 (livesOf 95) big frm_C7) (livesOf 95 (outOf 7)) (frm_h7 a0 i_2 i_7) (.ret) (frm_o7a a0 i_2) := by
  obtain ⟨EL1, EG1⟩ := List.getElem?_eq_some_iff.1 E1
  have C2_ : i_7 < F12.length := by omega
  obtain ⟨EL3, EG3⟩ := List.getElem?_eq_some_iff.1 E3
  unfold Leave
  simp +decide [frm_h7, loopsOf, Tryz.f95, frm_o7a, frm_C2, frm_C7, EL1, EG1, E1, C2, C2_, EL3, EG3, E3, K4, C5]
theorem frm_x7_2 {n : Nat} {a0 : List FormR} {i_2 : Nat} {F12 : List (Int × Raw)} {r31 : Raw} {i_7 : Nat} (E1 : a0[i_2]? = some (F12, r31)) (C2 : ¬ (i_7 : Int) < (F12.length : Int)) :
    Leave 0 (exec Tryz.prog (tab (n + 1)) 0 48 (livesOf 95) big frm_C7) (livesOf 95 (outOf 7)) (frm_h7 a0 i_2 i_7) (.exit 2) (frm_o7b a0 i_2) := by
  obtain ⟨EL1, EG1⟩ := List.getElem?_eq_some_iff.1 E1
  have C2_ : ¬ i_7 < F12.length := by omega
  unfold Leave
  simp +decide [frm_h7, loopsOf, Tryz.f95, frm_o7b, frm_C2, frm_C7, EL1, EG1, E1, C2, C2_]
theorem frm_r2_1 {n : Nat} {a0 : List FormR} {i_2 : Nat} {F9 : List (Int × Raw)} {r23 : Raw} {r24 : Bool} (C1 : (i_2 : Int) < (a0.length : Int)) (E2 : a0[i_2]? = some (F9, r23)) (C3 : ¬ 8 < (F9.length : Int)) (K4 : run n 19 [.agg [.lit (.bool r23.s), natA r23.l1, natA r23.l2]] = some (.lit (.bool r24))) (C5 : r24 = true) (L6 : loopG Tryz.prog (tab (n + 1)) 0 48 (livesOf 95) 7 frm_C7 (frm_h7 a0 i_2 0) = some (.exit 2, frm_o7b a0 i_2)) (W7 : InI ((i_2 : Int) + 1)) :
    Cont 0 (exec Tryz.prog (tab (n + 1)) 0 48 (livesOf 95) big frm_C2) (livesOf 95 2) (frm_h2 a0 i_2) (frm_h2 a0 (i_2 + 1)) := by
  have C1_ : i_2 < a0.length := by omega
  obtain ⟨EL2, EG2⟩ := List.getElem?_eq_some_iff.1 E2
  have C3_ : ¬ 8 < F9.length := by omega
  have W7_ : IntKind.i64.wrap ((i_2 : Int) + 1) = (i_2 : Int) + 1 := wr64 W7.1 W7.2
  unfold Cont
  simp +decide [frm_h2, loopsOf, Tryz.f95, frm_C2, C1, C1_, EL2, EG2, E2, C3, C3_, K4, C5, W7_]
  rw [loopX_G (C' := frm_C7) (e := (frm_h7 a0 i_2 0)) ?_ ?_, L6]
  rotate_left
  · kernel_rfl
  · simp +decide [frm_h7, loopsOf, Tryz.f95, frm_C2, C1, C1_, EL2, EG2, E2, C3, C3_, K4, C5, W7_]
  simp +decide [frm_o7b, loopsOf, Tryz.f95, frm_C2, C1, C1_, EL2, EG2, E2, C3, C3_, K4, C5, W7_]
theorem frm_x2_1 {n : Nat} {a0 : List FormR} {i_2 : Nat} {F9 : List (Int × Raw)} {r23 : Raw} (C1 : (i_2 : Int) < (a0.length : Int)) (E2 : a0[i_2]? = some (F9, r23)) (C3 : 8 < (F9.length : Int)) :
    Leave 0 (exec Tryz.prog (tab (n + 1)) 0 48 (livesOf 95) big frm_C2) (livesOf 95 (outOf 2)) (frm_h2 a0 i_2) (.ret) (frm_o2a ) := by
  have C1_ : i_2 < a0.length := by omega
  obtain ⟨EL2, EG2⟩ := List.getElem?_eq_some_iff.1 E2
  have C3_ : 8 < F9.length := by omega
  unfold Leave
  simp +decide [frm_h2, loopsOf, Tryz.f95, frm_o2a, frm_C2, C1, C1_, EL2, EG2, E2, C3, C3_]
theorem frm_x2_2 {n : Nat} {a0 : List FormR} {i_2 : Nat} {F9 : List (Int × Raw)} {r23 : Raw} {r24 : Bool} (C1 : (i_2 : Int) < (a0.length : Int)) (E2 : a0[i_2]? = some (F9, r23)) (C3 : ¬ 8 < (F9.length : Int)) (K4 : run n 19 [.agg [.lit (.bool r23.s), natA r23.l1, natA r23.l2]] = some (.lit (.bool r24))) (C5 : r24 = false) :
    Leave 0 (exec Tryz.prog (tab (n + 1)) 0 48 (livesOf 95) big frm_C2) (livesOf 95 (outOf 2)) (frm_h2 a0 i_2) (.ret) (frm_o2a ) := by
  have C1_ : i_2 < a0.length := by omega
  obtain ⟨EL2, EG2⟩ := List.getElem?_eq_some_iff.1 E2
  have C3_ : ¬ 8 < F9.length := by omega
  unfold Leave
  simp +decide [frm_h2, loopsOf, Tryz.f95, frm_o2a, frm_C2, C1, C1_, EL2, EG2, E2, C3, C3_, K4, C5]
theorem frm_x2_3 {n : Nat} {a0 : List FormR} {i_2 : Nat} {F9 : List (Int × Raw)} {r23 : Raw} {r24 : Bool} (C1 : (i_2 : Int) < (a0.length : Int)) (E2 : a0[i_2]? = some (F9, r23)) (C3 : ¬ 8 < (F9.length : Int)) (K4 : run n 19 [.agg [.lit (.bool r23.s), natA r23.l1, natA r23.l2]] = some (.lit (.bool r24))) (C5 : r24 = true) (L6 : loopG Tryz.prog (tab (n + 1)) 0 48 (livesOf 95) 7 frm_C7 (frm_h7 a0 i_2 0) = some (.ret, frm_o7a a0 i_2)) :
    Leave 0 (exec Tryz.prog (tab (n + 1)) 0 48 (livesOf 95) big frm_C2) (livesOf 95 (outOf 2)) (frm_h2 a0 i_2) (.ret) (frm_o2a ) := by
  have C1_ : i_2 < a0.length := by omega
  obtain ⟨EL2, EG2⟩ := List.getElem?_eq_some_iff.1 E2
  have C3_ : ¬ 8 < F9.length := by omega
  unfold Leave
  simp +decide [frm_h2, loopsOf, Tryz.f95, frm_o2a, frm_C2, C1, C1_, EL2, EG2, E2, C3, C3_, K4, C5]
  rw [loopX_G (C' := frm_C7) (e := (frm_h7 a0 i_2 0)) ?_ ?_, L6]
  rotate_left
  · kernel_rfl
  · simp +decide [frm_h7, loopsOf, Tryz.f95, frm_o2a, frm_C2, C1, C1_, EL2, EG2, E2, C3, C3_, K4, C5]
  simp +decide [frm_o7a, loopsOf, Tryz.f95, frm_o2a, frm_C2, C1, C1_, EL2, EG2, E2, C3, C3_, K4, C5]
theorem frm_x2_4 {n : Nat} {a0 : List FormR} {i_2 : Nat} (C1 : ¬ (i_2 : Int) < (a0.length : Int)) :
    Leave 0 (exec Tryz.prog (tab (n + 1)) 0 48 (livesOf 95) big frm_C2) (livesOf 95 (outOf 2)) (frm_h2 a0 i_2) (.exit 0) (frm_o2b ) := by
  have C1_ : ¬ i_2 < a0.length := by omega
  unfold Leave
  simp +decide [frm_h2, loopsOf, Tryz.f95, frm_o2b, frm_C2, C1, C1_]
theorem frm_f1 {n : Nat} {a0 : List FormR} (L1 : loopG Tryz.prog (tab (n + 1)) 0 48 (livesOf 95) 2 frm_C2 (frm_h2 a0 0) = some (.ret, frm_o2a )) :
    run (n + 1) 95 [.sl 4 (a0.map formRC)] = some (.lit (.bool false)) := by
  unfold run fnP
  simp +decide [Tryz.f95]
  rw [loopX_G (C' := frm_C2) (e := (frm_h2 a0 0)) ?_ ?_, L1]
  rotate_left
  · kernel_rfl
  · simp +decide [frm_h2]
  simp +decide [frm_o2a]
theorem frm_f2 {n : Nat} {a0 : List FormR} (L1 : loopG Tryz.prog (tab (n + 1)) 0 48 (livesOf 95) 2 frm_C2 (frm_h2 a0 0) = some (.exit 0, frm_o2b )) :
    run (n + 1) 95 [.sl 4 (a0.map formRC)] = some (.lit (.bool true)) := by
  unfold run fnP
  simp +decide [Tryz.f95]
  rw [loopX_G (C' := frm_C2) (e := (frm_h2 a0 0)) ?_ ?_, L1]
  rotate_left
  · kernel_rfl
  · simp +decide [frm_h2]
  simp +decide [frm_o2b]
end Go.Proofs.YtlpmemelhlnfbaaGreatDoor
set_option linter.all false
set_option maxRecDepth 100000
set_option maxHeartbeats 6400000
namespace Go.Proofs.YtlpmemelhlnfbaaGreatDoor
open Go.RowKit

/-! relucertlaw15.few, level 2 -/
theorem few5_f1 {n : Nat} {a0 : TGraphR} {r : Bool} {r2 : Bool} (C1 : (a0.Units.length : Int) ≤ 6) (C2 : (a0.Outputs.length : Int) ≤ 6) (K3 : run (n + 1) 95 [.sl 4 (a0.Units.map formRC)] = some (.lit (.bool r))) (C4 : r = true) (K5 : run (n + 1) 95 [.sl 4 (a0.Outputs.map formRC)] = some (.lit (.bool r2))) :
    run (n + 2) 30 [graphRV a0] = some (.lit (.bool r2)) := by
  have C1_ : a0.Units.length ≤ 6 := by omega
  have C2_ : a0.Outputs.length ≤ 6 := by omega
  unfold run fnP
  simp +decide [Tryz.f30, C1, C1_, C2, C2_, K3, C4, K5]
theorem few5_f2 {n : Nat} {a0 : TGraphR} {r : Bool} (C1 : (a0.Units.length : Int) ≤ 6) (C2 : (a0.Outputs.length : Int) ≤ 6) (K3 : run (n + 1) 95 [.sl 4 (a0.Units.map formRC)] = some (.lit (.bool r))) (C4 : r = false) :
    run (n + 2) 30 [graphRV a0] = some (.lit (.bool false)) := by
  have C1_ : a0.Units.length ≤ 6 := by omega
  have C2_ : a0.Outputs.length ≤ 6 := by omega
  unfold run fnP
  simp +decide [Tryz.f30, C1, C1_, C2, C2_, K3, C4]
theorem few5_f3 {n : Nat} {a0 : TGraphR} (C1 : (a0.Units.length : Int) ≤ 6) (C2 : ¬ (a0.Outputs.length : Int) ≤ 6) :
    run (n + 2) 30 [graphRV a0] = some (.lit (.bool false)) := by
  have C1_ : a0.Units.length ≤ 6 := by omega
  have C2_ : ¬ a0.Outputs.length ≤ 6 := by omega
  unfold run fnP
  simp +decide [Tryz.f30, C1, C1_, C2, C2_]
theorem few5_f4 {n : Nat} {a0 : TGraphR} (C1 : ¬ (a0.Units.length : Int) ≤ 6) :
    run (n + 2) 30 [graphRV a0] = some (.lit (.bool false)) := by
  have C1_ : ¬ a0.Units.length ≤ 6 := by omega
  unfold run fnP
  simp +decide [Tryz.f30, C1, C1_]
/-! relucertlaw15.point, level 1 -/
noncomputable def pt5_C2 : Code := (loopsOf (bodyOf Tryz.f31)).getD 0 .skip
def pt5_h2 (a0 : List Raw) (i_2 : Nat) : St :=
  ⟨[(0, .sl 3 (a0.map rawC)), (3, .lit (.int .i64 (i_2 : Int)))],
   [], 0⟩
def pt5_o2a (a0 : List Raw) : St :=
  ⟨[(0, .sl 3 (a0.map rawC)), (2, .lit (.bool false))],
   [], 0⟩
def pt5_o2b (a0 : List Raw) : St :=
  ⟨[(0, .sl 3 (a0.map rawC)), (2, .any)],
   [], 0⟩
theorem pt5_r2_1 {n : Nat} {a0 : List Raw} {i_2 : Nat} {x3 : Raw} {r3 : Bool} (C1 : (i_2 : Int) < (a0.length : Int)) (E2 : a0[i_2]? = some x3) (K3 : run n 19 [.agg [.lit (.bool x3.s), natA x3.l1, natA x3.l2]] = some (.lit (.bool r3))) (C4 : r3 = true) (W5 : InI ((i_2 : Int) + 1)) :
    Cont 0 (exec Tryz.prog (tab (n + 1)) 0 19 (livesOf 31) big pt5_C2) (livesOf 31 2) (pt5_h2 a0 i_2) (pt5_h2 a0 (i_2 + 1)) := by
  have C1_ : i_2 < a0.length := by omega
  obtain ⟨EL2, EG2⟩ := List.getElem?_eq_some_iff.1 E2
  have W5_ : IntKind.i64.wrap ((i_2 : Int) + 1) = (i_2 : Int) + 1 := wr64 W5.1 W5.2
  unfold Cont
  simp +decide [pt5_h2, loopsOf, Tryz.f31, pt5_C2, C1, C1_, EL2, EG2, E2, K3, C4, W5_]
theorem pt5_x2_1 {n : Nat} {a0 : List Raw} {i_2 : Nat} {x3 : Raw} {r3 : Bool} (C1 : (i_2 : Int) < (a0.length : Int)) (E2 : a0[i_2]? = some x3) (K3 : run n 19 [.agg [.lit (.bool x3.s), natA x3.l1, natA x3.l2]] = some (.lit (.bool r3))) (C4 : r3 = false) :
    Leave 0 (exec Tryz.prog (tab (n + 1)) 0 19 (livesOf 31) big pt5_C2) (livesOf 31 (outOf 2)) (pt5_h2 a0 i_2) (.ret) (pt5_o2a a0) := by
  have C1_ : i_2 < a0.length := by omega
  obtain ⟨EL2, EG2⟩ := List.getElem?_eq_some_iff.1 E2
  unfold Leave
  simp +decide [pt5_h2, loopsOf, Tryz.f31, pt5_o2a, pt5_C2, C1, C1_, EL2, EG2, E2, K3, C4]
theorem pt5_x2_2 {n : Nat} {a0 : List Raw} {i_2 : Nat} (C1 : ¬ (i_2 : Int) < (a0.length : Int)) :
    Leave 0 (exec Tryz.prog (tab (n + 1)) 0 19 (livesOf 31) big pt5_C2) (livesOf 31 (outOf 2)) (pt5_h2 a0 i_2) (.exit 0) (pt5_o2b a0) := by
  have C1_ : ¬ i_2 < a0.length := by omega
  unfold Leave
  simp +decide [pt5_h2, loopsOf, Tryz.f31, pt5_o2b, pt5_C2, C1, C1_]
theorem pt5_f1 {n : Nat} {a0 : List Raw} (L1 : loopG Tryz.prog (tab (n + 1)) 0 19 (livesOf 31) 2 pt5_C2 (pt5_h2 a0 0) = some (.ret, pt5_o2a a0)) :
    run (n + 1) 31 [.sl 3 (a0.map rawC)] = some (.lit (.bool false)) := by
  unfold run fnP
  simp +decide [Tryz.f31]
  rw [loopX_G (C' := pt5_C2) (e := (pt5_h2 a0 0)) ?_ ?_, L1]
  rotate_left
  · kernel_rfl
  · simp +decide [pt5_h2]
  simp +decide [pt5_o2a]
theorem pt5_f2 {n : Nat} {a0 : List Raw} (L1 : loopG Tryz.prog (tab (n + 1)) 0 19 (livesOf 31) 2 pt5_C2 (pt5_h2 a0 0) = some (.exit 0, pt5_o2b a0)) :
    run (n + 1) 31 [.sl 3 (a0.map rawC)] = some (.lit (.bool (decide ((a0.length : Int) ≤ 8)))) := by
  unfold run fnP
  simp +decide [Tryz.f31]
  rw [loopX_G (C' := pt5_C2) (e := (pt5_h2 a0 0)) ?_ ?_, L1]
  rotate_left
  · kernel_rfl
  · simp +decide [pt5_h2]
  simp +decide [pt5_o2b]
/-! relucertlaw15.copied, level 0 -/
theorem cpyR_f1 {n : Nat} {a0 : TGraphR} (M1 : a0.Units.length ≤ 100000000) (M2 : a0.Outputs.length ≤ 100000000) :
    run n 22 [graphRV a0] = some (graphRV a0) := by
  have M1_ : ∀ b, b ≤ 10000 → roomy (a0.Units.length) b = true := fun b hb => roomy_s M1 hb
  have M2_ : ∀ b, b ≤ 10000 → roomy (a0.Outputs.length) b = true := fun b hb => roomy_s M2 hb
  unfold run fnP
  simp +decide [Tryz.f22, M1_, M2_]
end Go.Proofs.YtlpmemelhlnfbaaGreatDoor
