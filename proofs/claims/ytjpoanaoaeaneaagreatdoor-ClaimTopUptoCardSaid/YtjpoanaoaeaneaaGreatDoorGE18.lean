import Derived.Test.YtjpoanaoaeaneaaGreatDoorGE16
set_option linter.all false
set_option maxRecDepth 100000
set_option maxHeartbeats 6400000
namespace Go.Proofs.YtjpoanaoaeaneaaGreatDoor
open Go.RowKit
theorem cvcR_f1 {n : Nat} {a0 : FormR} {c0 : Int} {r : Bool} (K1 : run n 34 [.agg [.sl 4 (a0.1.map termRC), .lit (.bool a0.2.s), natA a0.2.l1, natA a0.2.l2], .lit (.int .i64 c0)] = some (.lit (.bool r))) :
    run (n + 1) 107 [.agg [.sl 4 (a0.1.map termRC), .lit (.bool a0.2.s), natA a0.2.l1, natA a0.2.l2], .mem [.lit (.int .i64 c0)]] = some (.lit (.bool (!r))) := by
  unfold run fnP
  simp +decide [Tryz.f107, K1]
noncomputable def ifgR_C2 : Code := (loopsOf (bodyOf Tryz.f181)).getD 0 .skip
def ifgR_h2 (a0 : List FormR) (c0 : Int) (i_2 : Nat) : St :=
  ⟨[(0, .sl 4 (a0.map formRC)), (1, .clo 107 [.mem [.lit (.int .i64 c0)]]), (7, .lit (.int .i64 (a0.length : Int))), (8, .lit (.int .i64 (i_2 : Int)))],
   [], 0⟩
def ifgR_o2a (i_2 : Nat) : St :=
  ⟨[(4, .lit (.int .i64 (i_2 : Int)))],
   [], 0⟩
def ifgR_o2b  : St :=
  ⟨[(4, .any)],
   [], 0⟩
section
variable {a0 : List FormR} {r6 : Bool} {n : Nat} {F3 : List (Int × Raw)} {c0 : Int} {i_2 : Nat} {r5 : Raw}
theorem ifgR_r2_1 (C1 : (i_2 : Int) < (a0.length : Int)) (E2 : a0[i_2]? = some (F3, r5)) (K3 : run (n + 1) 107 [.agg [.sl 4 (F3.map termRC), .lit (.bool r5.s), natA r5.l1, natA r5.l2], .mem [.lit (.int .i64 c0)]] = some (.lit (.bool r6))) (C4 : r6 = false) (W5 : InI ((i_2 : Int) + 1)) :
    Cont 0 (exec Tryz.prog (tab (n + 2)) 0 19 (livesOf 181) big ifgR_C2) (livesOf 181 2) (ifgR_h2 a0 c0 i_2) (ifgR_h2 a0 c0 (i_2 + 1)) := by
  have C1_ : i_2 < a0.length := by omega
  obtain ⟨EL2, EG2⟩ := List.getElem?_eq_some_iff.1 E2
  have W5_ : IntKind.i64.wrap ((i_2 : Int) + 1) = (i_2 : Int) + 1 := wr64 W5.1 W5.2
  unfold Cont
  simp +decide [ifgR_h2, loopsOf, Tryz.f181, ifgR_C2, C1, C1_, EL2, EG2, E2, K3, C4, W5_]
theorem ifgR_x2_1 (C1 : (i_2 : Int) < (a0.length : Int)) (E2 : a0[i_2]? = some (F3, r5)) (K3 : run (n + 1) 107 [.agg [.sl 4 (F3.map termRC), .lit (.bool r5.s), natA r5.l1, natA r5.l2], .mem [.lit (.int .i64 c0)]] = some (.lit (.bool r6))) (C4 : r6 = true) :
    Leave 0 (exec Tryz.prog (tab (n + 2)) 0 19 (livesOf 181) big ifgR_C2) (livesOf 181 (outOf 2)) (ifgR_h2 a0 c0 i_2) (.ret) (ifgR_o2a i_2) := by
  have C1_ : i_2 < a0.length := by omega
  obtain ⟨EL2, EG2⟩ := List.getElem?_eq_some_iff.1 E2
  unfold Leave
  simp +decide [ifgR_h2, loopsOf, Tryz.f181, ifgR_o2a, ifgR_C2, C1, C1_, EL2, EG2, E2, K3, C4]
theorem ifgR_x2_2 (C1 : ¬ (i_2 : Int) < (a0.length : Int)) :
    Leave 0 (exec Tryz.prog (tab (n + 2)) 0 19 (livesOf 181) big ifgR_C2) (livesOf 181 (outOf 2)) (ifgR_h2 a0 c0 i_2) (.exit 0) (ifgR_o2b ) := by
  have C1_ : ¬ i_2 < a0.length := by omega
  unfold Leave
  simp +decide [ifgR_h2, loopsOf, Tryz.f181, ifgR_o2b, ifgR_C2, C1, C1_]
theorem ifgR_f1 (L1 : loopG Tryz.prog (tab (n + 2)) 0 19 (livesOf 181) 2 ifgR_C2 (ifgR_h2 a0 c0 0) = some (.ret, ifgR_o2a i_2)) :
    run (n + 2) 181 [.sl 4 (a0.map formRC), .clo 107 [.mem [.lit (.int .i64 c0)]]] = some (.lit (.int .i64 (i_2 : Int))) := by
  unfold run fnP
  simp +decide [Tryz.f181]
  rw [loopX_G (C' := ifgR_C2) (e := (ifgR_h2 a0 c0 0)) ?_ ?_, L1]
  rotate_left
  · kernel_rfl
  · simp +decide [ifgR_h2]
  simp +decide [ifgR_o2a]
theorem ifgR_f2 (L1 : loopG Tryz.prog (tab (n + 2)) 0 19 (livesOf 181) 2 ifgR_C2 (ifgR_h2 a0 c0 0) = some (.exit 0, ifgR_o2b )) :
    run (n + 2) 181 [.sl 4 (a0.map formRC), .clo 107 [.mem [.lit (.int .i64 c0)]]] = some (.lit (.int .i64 (-1))) := by
  unfold run fnP
  simp +decide [Tryz.f181]
  rw [loopX_G (C' := ifgR_C2) (e := (ifgR_h2 a0 c0 0)) ?_ ?_, L1]
  rotate_left
  · kernel_rfl
  · simp +decide [ifgR_h2]
  simp +decide [ifgR_o2b]
end
theorem cfgR_f1 {n : Nat} {a0 : List FormR} {c0 : Int} {r : Int} (K1 : run (n + 2) 181 [.sl 4 (a0.map formRC), .clo 107 [.mem [.lit (.int .i64 c0)]]] = some (.lit (.int .i64 r))) :
    run (n + 3) 106 [.sl 4 (a0.map formRC), .clo 107 [.mem [.lit (.int .i64 c0)]]] = some (.lit (.bool (decide (0 ≤ r)))) := by
  unfold run fnP
  simp +decide [Tryz.f106, K1]
section
variable {a0 : TClaimR} {a1 : Int} {n : Nat} {r : Bool}
theorem cvR_f1 (C1 : a1 < 1) :
    run (n + 4) 40 [claimRV a0, .lit (.int .i64 a1)] = some (.lit (.bool false)) := by
  unfold run fnP
  simp +decide [Tryz.f40, C1]
theorem cvR_f2 (C1 : ¬ a1 < 1) (C2 : 256 < a1) :
    run (n + 4) 40 [claimRV a0, .lit (.int .i64 a1)] = some (.lit (.bool false)) := by
  unfold run fnP
  simp +decide [Tryz.f40, C1, C2]
theorem cvR_f3 (C1 : ¬ a1 < 1) (C2 : ¬ 256 < a1) (B3a : RawB a0.Margin) (C4 : ¬ (RatV a0.Margin.s a0.Margin.l1 a0.Margin.l2)) :
    run (n + 4) 40 [claimRV a0, .lit (.int .i64 a1)] = some (.lit (.bool false)) := by
  have K3 := rr_valid B3a
  unfold run fnP
  simp +decide [Tryz.f40, C1, C2, K3, C4]
theorem cvR_f4 (C1 : ¬ a1 < 1) (C2 : ¬ 256 < a1) (B3a : RawB a0.Margin) (C4 : RatV a0.Margin.s a0.Margin.l1 a0.Margin.l2) (C6 : sgR a0.Margin.q < 0) :
    run (n + 4) 40 [claimRV a0, .lit (.int .i64 a1)] = some (.lit (.bool false)) := by
  have K3 := rr_valid B3a
  have K5 := rr_sign B3a
  unfold run fnP
  simp +decide [Tryz.f40, C1, C2, K3, C4, K5, C6]
theorem cvR_f5 (C1 : ¬ a1 < 1) (C2 : ¬ 256 < a1) (B3a : RawB a0.Margin) (C4 : RatV a0.Margin.s a0.Margin.l1 a0.Margin.l2) (C6 : ¬ sgR a0.Margin.q < 0) (C7 : a0.Kind = 1) (C8 : 0 ≤ a0.Target) (C9 : a0.Target < a1) :
    run (n + 4) 40 [claimRV a0, .lit (.int .i64 a1)] = some (.lit (.bool (((a0.Rows.length : Int) == 0)))) := by
  have K3 := rr_valid B3a
  have K5 := rr_sign B3a
  have C7_ : (a0.Kind == 1) = true := by rw [C7]; simp
  have C7_n : (a0.Kind != 1) = false := by rw [C7]; simp
  unfold run fnP
  simp +decide [Tryz.f40, C1, C2, K3, C4, K5, C6, C7_, C7_n, C8, C9]
theorem cvR_f6 (C1 : ¬ a1 < 1) (C2 : ¬ 256 < a1) (B3a : RawB a0.Margin) (C4 : RatV a0.Margin.s a0.Margin.l1 a0.Margin.l2) (C6 : ¬ sgR a0.Margin.q < 0) (C7 : a0.Kind = 1) (C8 : 0 ≤ a0.Target) (C9 : ¬ a0.Target < a1) :
    run (n + 4) 40 [claimRV a0, .lit (.int .i64 a1)] = some (.lit (.bool false)) := by
  have K3 := rr_valid B3a
  have K5 := rr_sign B3a
  have C7_ : (a0.Kind == 1) = true := by rw [C7]; simp
  have C7_n : (a0.Kind != 1) = false := by rw [C7]; simp
  unfold run fnP
  simp +decide [Tryz.f40, C1, C2, K3, C4, K5, C6, C7_, C7_n, C8, C9]
theorem cvR_f7 (C1 : ¬ a1 < 1) (C2 : ¬ 256 < a1) (B3a : RawB a0.Margin) (C4 : RatV a0.Margin.s a0.Margin.l1 a0.Margin.l2) (C6 : ¬ sgR a0.Margin.q < 0) (C7 : a0.Kind = 1) (C8 : ¬ 0 ≤ a0.Target) :
    run (n + 4) 40 [claimRV a0, .lit (.int .i64 a1)] = some (.lit (.bool false)) := by
  have K3 := rr_valid B3a
  have K5 := rr_sign B3a
  have C7_ : (a0.Kind == 1) = true := by rw [C7]; simp
  have C7_n : (a0.Kind != 1) = false := by rw [C7]; simp
  unfold run fnP
  simp +decide [Tryz.f40, C1, C2, K3, C4, K5, C6, C7_, C7_n, C8]
theorem cvR_f8 (C1 : ¬ a1 < 1) (C2 : ¬ 256 < a1) (B3a : RawB a0.Margin) (C4 : RatV a0.Margin.s a0.Margin.l1 a0.Margin.l2) (C6 : ¬ sgR a0.Margin.q < 0) (C7 : ¬ a0.Kind = 1) (C8 : a0.Kind = 2) (C9 : a0.Target = 0) (C10 : 1 ≤ (a0.Rows.length : Int)) (C11 : (a0.Rows.length : Int) ≤ 256) (K12 : run (n + 3) 106 [.sl 4 (a0.Rows.map formRC), .clo 107 [.mem [.lit (.int .i64 a1)]]] = some (.lit (.bool r))) :
    run (n + 4) 40 [claimRV a0, .lit (.int .i64 a1)] = some (.lit (.bool (!r))) := by
  have K3 := rr_valid B3a
  have K5 := rr_sign B3a
  have C7_ : (a0.Kind == 1) = false := by simpa using C7
  have C7_n : (a0.Kind != 1) = true := by simpa using C7
  have C8_ : (a0.Kind == 2) = true := by rw [C8]; simp
  have C8_n : (a0.Kind != 2) = false := by rw [C8]; simp
  have C9_ : (a0.Target == 0) = true := by rw [C9]; simp
  have C9_n : (a0.Target != 0) = false := by rw [C9]; simp
  have C10_ : 1 ≤ a0.Rows.length := by omega
  have C11_ : a0.Rows.length ≤ 256 := by omega
  unfold run fnP
  simp +decide [Tryz.f40, C1, C2, K3, C4, K5, C6, C7_, C7_n, C8_, C8_n, C9_, C9_n, C10, C10_, C11, C11_, K12]
theorem cvR_f10 (C1 : ¬ a1 < 1) (C2 : ¬ 256 < a1) (B3a : RawB a0.Margin) (C4 : RatV a0.Margin.s a0.Margin.l1 a0.Margin.l2) (C6 : ¬ sgR a0.Margin.q < 0) (C7 : ¬ a0.Kind = 1) (C8 : a0.Kind = 2) (C9 : a0.Target = 0) (C10 : ¬ 1 ≤ (a0.Rows.length : Int)) :
    run (n + 4) 40 [claimRV a0, .lit (.int .i64 a1)] = some (.lit (.bool false)) := by
  have K3 := rr_valid B3a
  have K5 := rr_sign B3a
  have C7_ : (a0.Kind == 1) = false := by simpa using C7
  have C7_n : (a0.Kind != 1) = true := by simpa using C7
  have C8_ : (a0.Kind == 2) = true := by rw [C8]; simp
  have C8_n : (a0.Kind != 2) = false := by rw [C8]; simp
  have C9_ : (a0.Target == 0) = true := by rw [C9]; simp
  have C9_n : (a0.Target != 0) = false := by rw [C9]; simp
  have C10_ : ¬ 1 ≤ a0.Rows.length := by omega
  unfold run fnP
  simp +decide [Tryz.f40, C1, C2, K3, C4, K5, C6, C7_, C7_n, C8_, C8_n, C9_, C9_n, C10, C10_]
theorem cvR_f11 (C1 : ¬ a1 < 1) (C2 : ¬ 256 < a1) (B3a : RawB a0.Margin) (C4 : RatV a0.Margin.s a0.Margin.l1 a0.Margin.l2) (C6 : ¬ sgR a0.Margin.q < 0) (C7 : ¬ a0.Kind = 1) (C8 : a0.Kind = 2) (C9 : ¬ a0.Target = 0) :
    run (n + 4) 40 [claimRV a0, .lit (.int .i64 a1)] = some (.lit (.bool false)) := by
  have K3 := rr_valid B3a
  have K5 := rr_sign B3a
  have C7_ : (a0.Kind == 1) = false := by simpa using C7
  have C7_n : (a0.Kind != 1) = true := by simpa using C7
  have C8_ : (a0.Kind == 2) = true := by rw [C8]; simp
  have C8_n : (a0.Kind != 2) = false := by rw [C8]; simp
  have C9_ : (a0.Target == 0) = false := by simpa using C9
  have C9_n : (a0.Target != 0) = true := by simpa using C9
  unfold run fnP
  simp +decide [Tryz.f40, C1, C2, K3, C4, K5, C6, C7_, C7_n, C8_, C8_n, C9_, C9_n]
theorem cvR_f12 (C1 : ¬ a1 < 1) (C2 : ¬ 256 < a1) (B3a : RawB a0.Margin) (C4 : RatV a0.Margin.s a0.Margin.l1 a0.Margin.l2) (C6 : ¬ sgR a0.Margin.q < 0) (C7 : ¬ a0.Kind = 1) (C8 : ¬ a0.Kind = 2) :
    run (n + 4) 40 [claimRV a0, .lit (.int .i64 a1)] = some (.lit (.bool false)) := by
  have K3 := rr_valid B3a
  have K5 := rr_sign B3a
  have C7_ : (a0.Kind == 1) = false := by simpa using C7
  have C7_n : (a0.Kind != 1) = true := by simpa using C7
  have C8_ : (a0.Kind == 2) = false := by simpa using C8
  have C8_n : (a0.Kind != 2) = true := by simpa using C8
  unfold run fnP
  simp +decide [Tryz.f40, C1, C2, K3, C4, K5, C6, C7_, C7_n, C8_, C8_n]
end
end Go.Proofs.YtjpoanaoaeaneaaGreatDoor
set_option linter.all false
set_option maxRecDepth 100000
set_option maxHeartbeats 6400000
namespace Go.Proofs.YtjpoanaoaeaneaaGreatDoor
open Go.RowKit
noncomputable def vlR_C2 : Code := (loopsOf (bodyOf Tryz.f108)).getD 0 .skip
def vlR_h2 (a0 : List FormR) (a1 : Int) (i_2 : Nat) : St :=
  ⟨[(0, .sl 4 (a0.map formRC)), (1, .lit (.int .i64 a1)), (5, .lit (.int .i64 (i_2 : Int)))],
   [], 0⟩
def vlR_o2a  : St :=
  ⟨[(4, .lit (.bool false))],
   [], 0⟩
def vlR_o2b  : St :=
  ⟨[(4, .any)],
   [], 0⟩
section
variable {a0 : List FormR} {r6 : Bool} {a1 : Int} {n : Nat} {F3 : List (Int × Raw)} {i_2 : Nat} {r5 : Raw}
theorem vlR_r2_1 (C1 : (i_2 : Int) < (a0.length : Int)) (E2 : a0[i_2]? = some (F3, r5)) (K3 : run n 17 [.agg [.sl 4 (F3.map termRC), .lit (.bool r5.s), natA r5.l1, natA r5.l2], .lit (.int .i64 a1)] = some (.lit (.bool r6))) (C4 : r6 = true) (W5 : InI ((i_2 : Int) + 1)) :
    Cont 0 (exec Tryz.prog (tab (n + 1)) 0 19 (livesOf 108) big vlR_C2) (livesOf 108 2) (vlR_h2 a0 a1 i_2) (vlR_h2 a0 a1 (i_2 + 1)) := by
  have C1_ : i_2 < a0.length := by omega
  obtain ⟨EL2, EG2⟩ := List.getElem?_eq_some_iff.1 E2
  have W5_ : IntKind.i64.wrap ((i_2 : Int) + 1) = (i_2 : Int) + 1 := wr64 W5.1 W5.2
  unfold Cont
  simp +decide [vlR_h2, loopsOf, Tryz.f108, vlR_C2, C1, C1_, EL2, EG2, E2, K3, C4, W5_]
theorem vlR_x2_1 (C1 : (i_2 : Int) < (a0.length : Int)) (E2 : a0[i_2]? = some (F3, r5)) (K3 : run n 17 [.agg [.sl 4 (F3.map termRC), .lit (.bool r5.s), natA r5.l1, natA r5.l2], .lit (.int .i64 a1)] = some (.lit (.bool r6))) (C4 : r6 = false) :
    Leave 0 (exec Tryz.prog (tab (n + 1)) 0 19 (livesOf 108) big vlR_C2) (livesOf 108 (outOf 2)) (vlR_h2 a0 a1 i_2) (.ret) (vlR_o2a ) := by
  have C1_ : i_2 < a0.length := by omega
  obtain ⟨EL2, EG2⟩ := List.getElem?_eq_some_iff.1 E2
  unfold Leave
  simp +decide [vlR_h2, loopsOf, Tryz.f108, vlR_o2a, vlR_C2, C1, C1_, EL2, EG2, E2, K3, C4]
theorem vlR_x2_2 (C1 : ¬ (i_2 : Int) < (a0.length : Int)) :
    Leave 0 (exec Tryz.prog (tab (n + 1)) 0 19 (livesOf 108) big vlR_C2) (livesOf 108 (outOf 2)) (vlR_h2 a0 a1 i_2) (.exit 0) (vlR_o2b ) := by
  have C1_ : ¬ i_2 < a0.length := by omega
  unfold Leave
  simp +decide [vlR_h2, loopsOf, Tryz.f108, vlR_o2b, vlR_C2, C1, C1_]
theorem vlR_f1 (L1 : loopG Tryz.prog (tab (n + 1)) 0 19 (livesOf 108) 2 vlR_C2 (vlR_h2 a0 a1 0) = some (.ret, vlR_o2a )) :
    run (n + 1) 108 [.sl 4 (a0.map formRC), .lit (.int .i64 a1)] = some (.lit (.bool false)) := by
  unfold run fnP
  simp +decide [Tryz.f108]
  rw [loopX_G (C' := vlR_C2) (e := (vlR_h2 a0 a1 0)) ?_ ?_, L1]
  rotate_left
  · kernel_rfl
  · simp +decide [vlR_h2]
  simp +decide [vlR_o2a]
theorem vlR_f2 (L1 : loopG Tryz.prog (tab (n + 1)) 0 19 (livesOf 108) 2 vlR_C2 (vlR_h2 a0 a1 0) = some (.exit 0, vlR_o2b )) :
    run (n + 1) 108 [.sl 4 (a0.map formRC), .lit (.int .i64 a1)] = some (.lit (.bool true)) := by
  unfold run fnP
  simp +decide [Tryz.f108]
  rw [loopX_G (C' := vlR_C2) (e := (vlR_h2 a0 a1 0)) ?_ ?_, L1]
  rotate_left
  · kernel_rfl
  · simp +decide [vlR_h2]
  simp +decide [vlR_o2b]
end
section
variable {a0 : TClaimR} {a1 : Int} {n : Nat} {r : Bool}
theorem fVR_f1 (C1 : a1 < 1) :
    run (n + 2) 41 [claimRV a0, .lit (.int .i64 a1)] = some (.lit (.bool false)) := by
  unfold run fnP
  simp +decide [Tryz.f41, C1]
theorem fVR_f2 (C1 : ¬ a1 < 1) (C2 : 256 < a1) :
    run (n + 2) 41 [claimRV a0, .lit (.int .i64 a1)] = some (.lit (.bool false)) := by
  unfold run fnP
  simp +decide [Tryz.f41, C1, C2]
theorem fVR_f3 (C1 : ¬ a1 < 1) (C2 : ¬ 256 < a1) (B3a : RawB a0.Margin) (C4 : ¬ (RatV a0.Margin.s a0.Margin.l1 a0.Margin.l2)) :
    run (n + 2) 41 [claimRV a0, .lit (.int .i64 a1)] = some (.lit (.bool false)) := by
  have K3 := rr_valid B3a
  unfold run fnP
  simp +decide [Tryz.f41, C1, C2, K3, C4]
theorem fVR_f4 (C1 : ¬ a1 < 1) (C2 : ¬ 256 < a1) (B3a : RawB a0.Margin) (C4 : RatV a0.Margin.s a0.Margin.l1 a0.Margin.l2) (C6 : sgR a0.Margin.q < 0) :
    run (n + 2) 41 [claimRV a0, .lit (.int .i64 a1)] = some (.lit (.bool false)) := by
  have K3 := rr_valid B3a
  have K5 := rr_sign B3a
  unfold run fnP
  simp +decide [Tryz.f41, C1, C2, K3, C4, K5, C6]
theorem fVR_f5 (C1 : ¬ a1 < 1) (C2 : ¬ 256 < a1) (B3a : RawB a0.Margin) (C4 : RatV a0.Margin.s a0.Margin.l1 a0.Margin.l2) (C6 : ¬ sgR a0.Margin.q < 0) (C7 : a0.Kind = 1) (C8 : 0 ≤ a0.Target) (C9 : a0.Target < a1) :
    run (n + 2) 41 [claimRV a0, .lit (.int .i64 a1)] = some (.lit (.bool (((a0.Rows.length : Int) == 0)))) := by
  have K3 := rr_valid B3a
  have K5 := rr_sign B3a
  have C7_ : (a0.Kind == 1) = true := by rw [C7]; simp
  have C7_n : (a0.Kind != 1) = false := by rw [C7]; simp
  unfold run fnP
  simp +decide [Tryz.f41, C1, C2, K3, C4, K5, C6, C7_, C7_n, C8, C9]
theorem fVR_f6 (C1 : ¬ a1 < 1) (C2 : ¬ 256 < a1) (B3a : RawB a0.Margin) (C4 : RatV a0.Margin.s a0.Margin.l1 a0.Margin.l2) (C6 : ¬ sgR a0.Margin.q < 0) (C7 : a0.Kind = 1) (C8 : 0 ≤ a0.Target) (C9 : ¬ a0.Target < a1) :
    run (n + 2) 41 [claimRV a0, .lit (.int .i64 a1)] = some (.lit (.bool false)) := by
  have K3 := rr_valid B3a
  have K5 := rr_sign B3a
  have C7_ : (a0.Kind == 1) = true := by rw [C7]; simp
  have C7_n : (a0.Kind != 1) = false := by rw [C7]; simp
  unfold run fnP
  simp +decide [Tryz.f41, C1, C2, K3, C4, K5, C6, C7_, C7_n, C8, C9]
theorem fVR_f7 (C1 : ¬ a1 < 1) (C2 : ¬ 256 < a1) (B3a : RawB a0.Margin) (C4 : RatV a0.Margin.s a0.Margin.l1 a0.Margin.l2) (C6 : ¬ sgR a0.Margin.q < 0) (C7 : a0.Kind = 1) (C8 : ¬ 0 ≤ a0.Target) :
    run (n + 2) 41 [claimRV a0, .lit (.int .i64 a1)] = some (.lit (.bool false)) := by
  have K3 := rr_valid B3a
  have K5 := rr_sign B3a
  have C7_ : (a0.Kind == 1) = true := by rw [C7]; simp
  have C7_n : (a0.Kind != 1) = false := by rw [C7]; simp
  unfold run fnP
  simp +decide [Tryz.f41, C1, C2, K3, C4, K5, C6, C7_, C7_n, C8]
theorem fVR_f8 (C1 : ¬ a1 < 1) (C2 : ¬ 256 < a1) (B3a : RawB a0.Margin) (C4 : RatV a0.Margin.s a0.Margin.l1 a0.Margin.l2) (C6 : ¬ sgR a0.Margin.q < 0) (C7 : ¬ a0.Kind = 1) (C8 : a0.Kind = 2) (C9 : a0.Target = 0) (C10 : 1 ≤ (a0.Rows.length : Int)) (C11 : (a0.Rows.length : Int) ≤ 256) (K12 : run (n + 1) 108 [.sl 4 (a0.Rows.map formRC), .lit (.int .i64 a1)] = some (.lit (.bool r))) :
    run (n + 2) 41 [claimRV a0, .lit (.int .i64 a1)] = some (.lit (.bool r)) := by
  have K3 := rr_valid B3a
  have K5 := rr_sign B3a
  have C7_ : (a0.Kind == 1) = false := by simpa using C7
  have C7_n : (a0.Kind != 1) = true := by simpa using C7
  have C8_ : (a0.Kind == 2) = true := by rw [C8]; simp
  have C8_n : (a0.Kind != 2) = false := by rw [C8]; simp
  have C9_ : (a0.Target == 0) = true := by rw [C9]; simp
  have C9_n : (a0.Target != 0) = false := by rw [C9]; simp
  have C10_ : 1 ≤ a0.Rows.length := by omega
  have C11_ : a0.Rows.length ≤ 256 := by omega
  unfold run fnP
  simp +decide [Tryz.f41, C1, C2, K3, C4, K5, C6, C7_, C7_n, C8_, C8_n, C9_, C9_n, C10, C10_, C11, C11_, K12]
theorem fVR_f10 (C1 : ¬ a1 < 1) (C2 : ¬ 256 < a1) (B3a : RawB a0.Margin) (C4 : RatV a0.Margin.s a0.Margin.l1 a0.Margin.l2) (C6 : ¬ sgR a0.Margin.q < 0) (C7 : ¬ a0.Kind = 1) (C8 : a0.Kind = 2) (C9 : a0.Target = 0) (C10 : ¬ 1 ≤ (a0.Rows.length : Int)) :
    run (n + 2) 41 [claimRV a0, .lit (.int .i64 a1)] = some (.lit (.bool false)) := by
  have K3 := rr_valid B3a
  have K5 := rr_sign B3a
  have C7_ : (a0.Kind == 1) = false := by simpa using C7
  have C7_n : (a0.Kind != 1) = true := by simpa using C7
  have C8_ : (a0.Kind == 2) = true := by rw [C8]; simp
  have C8_n : (a0.Kind != 2) = false := by rw [C8]; simp
  have C9_ : (a0.Target == 0) = true := by rw [C9]; simp
  have C9_n : (a0.Target != 0) = false := by rw [C9]; simp
  have C10_ : ¬ 1 ≤ a0.Rows.length := by omega
  unfold run fnP
  simp +decide [Tryz.f41, C1, C2, K3, C4, K5, C6, C7_, C7_n, C8_, C8_n, C9_, C9_n, C10, C10_]
theorem fVR_f11 (C1 : ¬ a1 < 1) (C2 : ¬ 256 < a1) (B3a : RawB a0.Margin) (C4 : RatV a0.Margin.s a0.Margin.l1 a0.Margin.l2) (C6 : ¬ sgR a0.Margin.q < 0) (C7 : ¬ a0.Kind = 1) (C8 : a0.Kind = 2) (C9 : ¬ a0.Target = 0) :
    run (n + 2) 41 [claimRV a0, .lit (.int .i64 a1)] = some (.lit (.bool false)) := by
  have K3 := rr_valid B3a
  have K5 := rr_sign B3a
  have C7_ : (a0.Kind == 1) = false := by simpa using C7
  have C7_n : (a0.Kind != 1) = true := by simpa using C7
  have C8_ : (a0.Kind == 2) = true := by rw [C8]; simp
  have C8_n : (a0.Kind != 2) = false := by rw [C8]; simp
  have C9_ : (a0.Target == 0) = false := by simpa using C9
  have C9_n : (a0.Target != 0) = true := by simpa using C9
  unfold run fnP
  simp +decide [Tryz.f41, C1, C2, K3, C4, K5, C6, C7_, C7_n, C8_, C8_n, C9_, C9_n]
theorem fVR_f12 (C1 : ¬ a1 < 1) (C2 : ¬ 256 < a1) (B3a : RawB a0.Margin) (C4 : RatV a0.Margin.s a0.Margin.l1 a0.Margin.l2) (C6 : ¬ sgR a0.Margin.q < 0) (C7 : ¬ a0.Kind = 1) (C8 : ¬ a0.Kind = 2) :
    run (n + 2) 41 [claimRV a0, .lit (.int .i64 a1)] = some (.lit (.bool false)) := by
  have K3 := rr_valid B3a
  have K5 := rr_sign B3a
  have C7_ : (a0.Kind == 1) = false := by simpa using C7
  have C7_n : (a0.Kind != 1) = true := by simpa using C7
  have C8_ : (a0.Kind == 2) = false := by simpa using C8
  have C8_n : (a0.Kind != 2) = true := by simpa using C8
  unfold run fnP
  simp +decide [Tryz.f41, C1, C2, K3, C4, K5, C6, C7_, C7_n, C8_, C8_n]
end
end Go.Proofs.YtjpoanaoaeaneaaGreatDoor
set_option linter.all false
set_option maxRecDepth 100000
set_option maxHeartbeats 6400000
namespace Go.Proofs.YtjpoanaoaeaneaaGreatDoor
open Go.RowKit
theorem vr_f1 {n : Nat} {a0 : Int}  :
    run n 105 [.lit (.int .i64 a0)] = some (.agg [.sl 4 [[.lit (.int .i64 a0), .lit (.bool (rawQ (ofQ 1)).s), natA (rawQ (ofQ 1)).l1, natA (rawQ (ofQ 1)).l2]], .lit (.bool false), .sl 1 [], .sl 1 []]) := by
  have K1 := r_ofq (z := 1) (by omega) (by omega)
  unfold run fnP
  simp +decide [Tryz.f105, K1]
end Go.Proofs.YtjpoanaoaeaneaaGreatDoor
set_option linter.all false
set_option maxRecDepth 100000
set_option maxHeartbeats 6400000
namespace Go.Proofs.YtjpoanaoaeaneaaGreatDoor
open Go.RowKit
noncomputable def pl_C4 : Code := (loopsOf (bodyOf Tryz.f98)).getD 0 .skip
def pl_h4 (a0 : Form) (a1 : Int) (a2 : Rat) (out_4 : List (Int × Rat)) (d_4 : Bool) (i_4 : Nat) : St :=
  ⟨[(1, .lit (.int .i64 a1)), (3, .ptr 0 0), (5, .ptr 1 0), (6, .ptr 2 0), (7, .own 3 out_4.length), (8, .lit (.bool d_4)), (9, .lit (.int .i64 (i_4 : Int)))],
   [(0, some (.box 28 [.sl 4 (a0.1.map termC), .lit (.bool (rawQ a0.2).s), natA (rawQ a0.2).l1, natA (rawQ a0.2).l2] false)),
    (1, some (.box 26 [.lit (.bool (rawQ a2).s), natA (rawQ a2).l1, natA (rawQ a2).l2] false)),
    (2, some (.box 28 [.nl 4, .lit (.bool false), .nl 1, .nl 1] false)),
    (3, some (.row 82 4 (out_4.map termC) 0))], 4⟩
def pl_o4a (a0 : Form) (a1 : Int) (a2 : Rat) (out_4 : List (Int × Rat)) (d_4 : Bool) : St :=
  ⟨[(1, .lit (.int .i64 a1)), (3, .ptr 0 0), (5, .ptr 1 0), (6, .ptr 2 0), (7, .own 3 out_4.length), (8, .lit (.bool d_4))],
   [(0, some (.box 28 [.sl 4 (a0.1.map termC), .lit (.bool (rawQ a0.2).s), natA (rawQ a0.2).l1, natA (rawQ a0.2).l2] false)),
    (1, some (.box 26 [.lit (.bool (rawQ a2).s), natA (rawQ a2).l1, natA (rawQ a2).l2] false)),
    (2, some (.box 28 [.nl 4, .lit (.bool false), .nl 1, .nl 1] false)),
    (3, some (.row 82 4 (out_4.map termC) 0))], 4⟩
section
variable {a0 : Form} {v3 : Int} {d_4 : Bool} {q3 : Rat} {i_4 : Nat} {a1 : Int} {n : Nat} {a2 : Rat} {out_4 : List (Int × Rat)} {R12 : List (Int × Rat)} {R14 : List (Int × Rat)} {R15 : List (Int × Rat)} {R13 : List (Int × Rat)} {R16 : List (Int × Rat)} {R17 : List (Int × Rat)} {R18 : List (Int × Rat)}
theorem pl_r4_1 (C1 : (i_4 : Int) < (a0.1.length : Int)) (E2 : a0.1[i_4]? = some (v3, q3)) (C3 : v3 = a1) (B4a : H q3 ≤ 17179869184) (B4b : H a2 ≤ 17179869184) (K5 : runL n 173 [.own 0 out_4.length, .agg [.lit (.int .i64 v3), .lit (.bool (rawQ (q3 + a2)).s), natA (rawQ (q3 + a2)).l1, natA (rawQ (q3 + a2)).l2]] [.row 82 4 (out_4.map termC) 0] = some (.own 0 out_4.length, [(0, .row 82 4 (out_4.map termC) 0)])) (W6 : InI ((i_4 : Int) + 1)) :
    Cont 0 (exec Tryz.prog (tab (n + 1)) 0 61 (livesOf 98) big pl_C4) (livesOf 98 4) (pl_h4 a0 a1 a2 out_4 d_4 i_4) (pl_h4 a0 a1 a2 out_4 true (i_4 + 1)) := by
  have C1_ : i_4 < a0.1.length := by omega
  obtain ⟨EL2, EG2⟩ := List.getElem?_eq_some_iff.1 E2
  have C3_ : (v3 == a1) = true := by rw [C3]; simp
  have C3_n : (v3 != a1) = false := by rw [C3]; simp
  have K4 := r_add (p := q3) (q := a2) B4a B4b
  have W6_ : IntKind.i64.wrap ((i_4 : Int) + 1) = (i_4 : Int) + 1 := wr64 W6.1 W6.2
  unfold Cont
  simp +decide [pl_h4, loopsOf, Tryz.f98, pl_C4, C1, C1_, EL2, EG2, E2, C3_, C3_n, K4, K5, W6_]
theorem pl_r4_2 (C1 : (i_4 : Int) < (a0.1.length : Int)) (E2 : a0.1[i_4]? = some (v3, q3)) (C3 : v3 = a1) (B4a : H q3 ≤ 17179869184) (B4b : H a2 ≤ 17179869184) (K5 : runL n 173 [.own 0 out_4.length, .agg [.lit (.int .i64 v3), .lit (.bool (rawQ (q3 + a2)).s), natA (rawQ (q3 + a2)).l1, natA (rawQ (q3 + a2)).l2]] [.row 82 4 (out_4.map termC) 0] = some (.own 3 R12.length, [(3, .row 82 4 (R12.map termC) 0)])) (W6 : InI ((i_4 : Int) + 1)) :
    Cont 0 (exec Tryz.prog (tab (n + 1)) 0 61 (livesOf 98) big pl_C4) (livesOf 98 4) (pl_h4 a0 a1 a2 out_4 d_4 i_4) (pl_h4 a0 a1 a2 R12 true (i_4 + 1)) := by
  have C1_ : i_4 < a0.1.length := by omega
  obtain ⟨EL2, EG2⟩ := List.getElem?_eq_some_iff.1 E2
  have C3_ : (v3 == a1) = true := by rw [C3]; simp
  have C3_n : (v3 != a1) = false := by rw [C3]; simp
  have K4 := r_add (p := q3) (q := a2) B4a B4b
  have W6_ : IntKind.i64.wrap ((i_4 : Int) + 1) = (i_4 : Int) + 1 := wr64 W6.1 W6.2
  unfold Cont
  simp +decide [pl_h4, loopsOf, Tryz.f98, pl_C4, C1, C1_, EL2, EG2, E2, C3_, C3_n, K4, K5, W6_]
theorem pl_r4_4 (C1 : (i_4 : Int) < (a0.1.length : Int)) (E2 : a0.1[i_4]? = some (v3, q3)) (C3 : ¬ v3 = a1) (C4 : d_4 = false) (C5 : a1 < v3) (B6a : H a2 ≤ 17179869184) (K7 : runL n 173 [.own 0 out_4.length, .agg [.lit (.int .i64 a1), .lit (.bool (rawQ a2).s), natA (rawQ a2).l1, natA (rawQ a2).l2]] [.row 82 4 (out_4.map termC) 0] = some (.own 0 out_4.length, [(0, .row 82 4 (out_4.map termC) 0)])) (K8 : runL n 173 [.own 0 out_4.length, .agg [.lit (.int .i64 v3), .lit (.bool (rawQ q3).s), natA (rawQ q3).l1, natA (rawQ q3).l2]] [.row 82 4 (out_4.map termC) 0] = some (.own 3 R14.length, [(3, .row 82 4 (R14.map termC) 0)])) (W9 : InI ((i_4 : Int) + 1)) :
    Cont 0 (exec Tryz.prog (tab (n + 1)) 0 61 (livesOf 98) big pl_C4) (livesOf 98 4) (pl_h4 a0 a1 a2 out_4 d_4 i_4) (pl_h4 a0 a1 a2 R14 true (i_4 + 1)) := by
  have C1_ : i_4 < a0.1.length := by omega
  obtain ⟨EL2, EG2⟩ := List.getElem?_eq_some_iff.1 E2
  have C3_ : (v3 == a1) = false := by simpa using C3
  have C3_n : (v3 != a1) = true := by simpa using C3
  have K6 := r_canon (p := a2) B6a
  have W9_ : IntKind.i64.wrap ((i_4 : Int) + 1) = (i_4 : Int) + 1 := wr64 W9.1 W9.2
  unfold Cont
  simp +decide [pl_h4, loopsOf, Tryz.f98, pl_C4, C1, C1_, EL2, EG2, E2, C3_, C3_n, C4, C5, K6, K7, K8, W9_]
theorem pl_r4_6 (C1 : (i_4 : Int) < (a0.1.length : Int)) (E2 : a0.1[i_4]? = some (v3, q3)) (C3 : ¬ v3 = a1) (C4 : d_4 = false) (C5 : a1 < v3) (B6a : H a2 ≤ 17179869184) (K7 : runL n 173 [.own 0 out_4.length, .agg [.lit (.int .i64 a1), .lit (.bool (rawQ a2).s), natA (rawQ a2).l1, natA (rawQ a2).l2]] [.row 82 4 (out_4.map termC) 0] = some (.own 3 R13.length, [(3, .row 82 4 (R13.map termC) 0)])) (K8 : runL n 173 [.own 0 R13.length, .agg [.lit (.int .i64 v3), .lit (.bool (rawQ q3).s), natA (rawQ q3).l1, natA (rawQ q3).l2]] [.row 82 4 (R13.map termC) 0] = some (.own 3 R15.length, [(3, .row 82 4 (R15.map termC) 0)])) (W9 : InI ((i_4 : Int) + 1)) :
    Cont 0 (exec Tryz.prog (tab (n + 1)) 0 61 (livesOf 98) big pl_C4) (livesOf 98 4) (pl_h4 a0 a1 a2 out_4 d_4 i_4) (pl_h4 a0 a1 a2 R15 true (i_4 + 1)) := by
  have C1_ : i_4 < a0.1.length := by omega
  obtain ⟨EL2, EG2⟩ := List.getElem?_eq_some_iff.1 E2
  have C3_ : (v3 == a1) = false := by simpa using C3
  have C3_n : (v3 != a1) = true := by simpa using C3
  have K6 := r_canon (p := a2) B6a
  have W9_ : IntKind.i64.wrap ((i_4 : Int) + 1) = (i_4 : Int) + 1 := wr64 W9.1 W9.2
  unfold Cont
  simp +decide [pl_h4, loopsOf, Tryz.f98, pl_C4, C1, C1_, EL2, EG2, E2, C3_, C3_n, C4, C5, K6, K7, K8, W9_]
theorem pl_r4_8 (C1 : (i_4 : Int) < (a0.1.length : Int)) (E2 : a0.1[i_4]? = some (v3, q3)) (C3 : ¬ v3 = a1) (C4 : d_4 = false) (C5 : ¬ a1 < v3) (K6 : runL n 173 [.own 0 out_4.length, .agg [.lit (.int .i64 v3), .lit (.bool (rawQ q3).s), natA (rawQ q3).l1, natA (rawQ q3).l2]] [.row 82 4 (out_4.map termC) 0] = some (.own 3 R16.length, [(3, .row 82 4 (R16.map termC) 0)])) (W7 : InI ((i_4 : Int) + 1)) :
    Cont 0 (exec Tryz.prog (tab (n + 1)) 0 61 (livesOf 98) big pl_C4) (livesOf 98 4) (pl_h4 a0 a1 a2 out_4 d_4 i_4) (pl_h4 a0 a1 a2 R16 d_4 (i_4 + 1)) := by
  have C1_ : i_4 < a0.1.length := by omega
  obtain ⟨EL2, EG2⟩ := List.getElem?_eq_some_iff.1 E2
  have C3_ : (v3 == a1) = false := by simpa using C3
  have C3_n : (v3 != a1) = true := by simpa using C3
  have W7_ : IntKind.i64.wrap ((i_4 : Int) + 1) = (i_4 : Int) + 1 := wr64 W7.1 W7.2
  unfold Cont
  simp +decide [pl_h4, loopsOf, Tryz.f98, pl_C4, C1, C1_, EL2, EG2, E2, C3_, C3_n, C4, C5, K6, W7_]
theorem pl_r4_10 (C1 : (i_4 : Int) < (a0.1.length : Int)) (E2 : a0.1[i_4]? = some (v3, q3)) (C3 : ¬ v3 = a1) (C4 : d_4 = true) (K5 : runL n 173 [.own 0 out_4.length, .agg [.lit (.int .i64 v3), .lit (.bool (rawQ q3).s), natA (rawQ q3).l1, natA (rawQ q3).l2]] [.row 82 4 (out_4.map termC) 0] = some (.own 3 R17.length, [(3, .row 82 4 (R17.map termC) 0)])) (W6 : InI ((i_4 : Int) + 1)) :
    Cont 0 (exec Tryz.prog (tab (n + 1)) 0 61 (livesOf 98) big pl_C4) (livesOf 98 4) (pl_h4 a0 a1 a2 out_4 d_4 i_4) (pl_h4 a0 a1 a2 R17 d_4 (i_4 + 1)) := by
  have C1_ : i_4 < a0.1.length := by omega
  obtain ⟨EL2, EG2⟩ := List.getElem?_eq_some_iff.1 E2
  have C3_ : (v3 == a1) = false := by simpa using C3
  have C3_n : (v3 != a1) = true := by simpa using C3
  have W6_ : IntKind.i64.wrap ((i_4 : Int) + 1) = (i_4 : Int) + 1 := wr64 W6.1 W6.2
  unfold Cont
  simp +decide [pl_h4, loopsOf, Tryz.f98, pl_C4, C1, C1_, EL2, EG2, E2, C3_, C3_n, C4, K5, W6_]
theorem pl_x4_1 (C1 : ¬ (i_4 : Int) < (a0.1.length : Int)) :
    Leave 0 (exec Tryz.prog (tab (n + 1)) 0 61 (livesOf 98) big pl_C4) (livesOf 98 (outOf 4)) (pl_h4 a0 a1 a2 out_4 d_4 i_4) (.exit 0) (pl_o4a a0 a1 a2 out_4 d_4) := by
  have C1_ : ¬ i_4 < a0.1.length := by omega
  unfold Leave
  simp +decide [pl_h4, loopsOf, Tryz.f98, pl_o4a, pl_C4, C1, C1_]
theorem pl_f1 (L1 : loopG Tryz.prog (tab (n + 1)) 0 61 (livesOf 98) 4 pl_C4 (pl_h4 a0 a1 a2 [] false 0) = some (.exit 0, pl_o4a a0 a1 a2 out_4 d_4)) (C2 : d_4 = false) (B3a : H a2 ≤ 17179869184) (K4 : runL n 173 [.own 0 out_4.length, .agg [.lit (.int .i64 a1), .lit (.bool (rawQ a2).s), natA (rawQ a2).l1, natA (rawQ a2).l2]] [.row 82 4 (out_4.map termC) 0] = some (.own 0 out_4.length, [(0, .row 82 4 (out_4.map termC) 0)])) :
    run (n + 1) 98 [formV a0, .lit (.int .i64 a1), ratV a2] = some (formV (out_4, a0.2)) := by
  have K3 := r_canon (p := a2) B3a
  unfold run fnP
  simp +decide [Tryz.f98, C2, K3, K4]
  rw [loopX_G (C' := pl_C4) (e := (pl_h4 a0 a1 a2 [] false 0)) ?_ ?_, L1]
  rotate_left
  · kernel_rfl
  · simp +decide [pl_h4, C2, K3, K4]
  simp +decide [pl_o4a, C2, K3, K4]
theorem pl_f2 (L1 : loopG Tryz.prog (tab (n + 1)) 0 61 (livesOf 98) 4 pl_C4 (pl_h4 a0 a1 a2 [] false 0) = some (.exit 0, pl_o4a a0 a1 a2 out_4 d_4)) (C2 : d_4 = false) (B3a : H a2 ≤ 17179869184) (K4 : runL n 173 [.own 0 out_4.length, .agg [.lit (.int .i64 a1), .lit (.bool (rawQ a2).s), natA (rawQ a2).l1, natA (rawQ a2).l2]] [.row 82 4 (out_4.map termC) 0] = some (.own 3 R18.length, [(3, .row 82 4 (R18.map termC) 0)])) :
    run (n + 1) 98 [formV a0, .lit (.int .i64 a1), ratV a2] = some (formV (R18, a0.2)) := by
  have K3 := r_canon (p := a2) B3a
  unfold run fnP
  simp +decide [Tryz.f98, C2, K3, K4]
  rw [loopX_G (C' := pl_C4) (e := (pl_h4 a0 a1 a2 [] false 0)) ?_ ?_, L1]
  rotate_left
  · kernel_rfl
  · simp +decide [pl_h4, C2, K3, K4]
  simp +decide [pl_o4a, C2, K3, K4]
theorem pl_f3 (L1 : loopG Tryz.prog (tab (n + 1)) 0 61 (livesOf 98) 4 pl_C4 (pl_h4 a0 a1 a2 [] false 0) = some (.exit 0, pl_o4a a0 a1 a2 out_4 d_4)) (C2 : d_4 = true) :
    run (n + 1) 98 [formV a0, .lit (.int .i64 a1), ratV a2] = some (formV (out_4, a0.2)) := by
  unfold run fnP
  simp +decide [Tryz.f98, C2]
  rw [loopX_G (C' := pl_C4) (e := (pl_h4 a0 a1 a2 [] false 0)) ?_ ?_, L1]
  rotate_left
  · kernel_rfl
  · simp +decide [pl_h4, C2]
  simp +decide [pl_o4a, C2]
end
end Go.Proofs.YtjpoanaoaeaneaaGreatDoor
