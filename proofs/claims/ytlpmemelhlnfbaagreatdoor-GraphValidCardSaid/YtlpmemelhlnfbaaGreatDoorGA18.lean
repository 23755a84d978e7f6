import Derived.Test.YtlpmemelhlnfbaaGreatDoorGA8
import Derived.Test.YtlpmemelhlnfbaaGreatDoorGA10
import Derived.Test.YtlpmemelhlnfbaaGreatDoorGA16
import Derived.Test.YtlpmemelhlnfbaaGreatDoorGA9
import Derived.Test.YtlpmemelhlnfbaaGreatDoorGA17
set_option linter.all false
set_option maxRecDepth 100000
set_option maxHeartbeats 6400000
namespace Go.Proofs.YtlpmemelhlnfbaaGreatDoor
open Go.RowKit
noncomputable def fqR_C4 : Code := (loopsOf (bodyOf Tryz.f55)).getD 0 .skip
def fqR_h4 (a0 : FormR) (a1 : FormR) (i_4 : Nat) : St :=
  ⟨[(2, .ptr 0 0), (3, .ptr 1 0), (5, .lit (.int .i64 (i_4 : Int)))],
   [(0, some (.box 29 [.sl 4 (a0.1.map termRC), .lit (.bool a0.2.s), natA a0.2.l1, natA a0.2.l2] false)),
    (1, some (.box 29 [.sl 4 (a1.1.map termRC), .lit (.bool a1.2.s), natA a1.2.l1, natA a1.2.l2] false))], 2⟩
def fqR_o4a  : St :=
  ⟨[(4, .lit (.bool false))],
   [], 0⟩
def fqR_o4b  : St :=
  ⟨[(4, .any)],
   [], 0⟩
section
variable {v5 : Int} {i_4 : Nat} {v6 : Int} {r5 : Raw} {a1 : FormR} {r6 : Raw} {a0 : FormR} {n : Nat}
theorem fqR_r4_1 (C1 : (i_4 : Int) < (a0.1.length : Int)) (E2 : a0.1[i_4]? = some (v5, r5)) (E3 : a1.1[i_4]? = some (v6, r6)) (C4 : v5 = v6) (B5a : RawB r5) (B5b : RawB r6) (C6 : r5 = r6) (W7 : InI ((i_4 : Int) + 1)) :
    Cont 0 (exec Tryz.prog (tab n) 0 57 (livesOf 55) big fqR_C4) (livesOf 55 4) (fqR_h4 a0 a1 i_4) (fqR_h4 a0 a1 (i_4 + 1)) := by
  have C1_ : i_4 < a0.1.length := by omega
  obtain ⟨EL2, EG2⟩ := List.getElem?_eq_some_iff.1 E2
  obtain ⟨EL3, EG3⟩ := List.getElem?_eq_some_iff.1 E3
  have C4_ : (v5 == v6) = true := by rw [C4]; simp
  have C4_n : (v5 != v6) = false := by rw [C4]; simp
  have K5 := rr_same B5a B5b
  have C6_ : decide (r5 = r6) = true := decide_eq_true C6
  have W7_ : IntKind.i64.wrap ((i_4 : Int) + 1) = (i_4 : Int) + 1 := wr64 W7.1 W7.2
  unfold Cont
  simp +decide [fqR_h4, loopsOf, Tryz.f55, fqR_C4, C1, C1_, EL2, EG2, E2, EL3, EG3, E3, C4_, C4_n, K5, C6_, W7_]
theorem fqR_x4_1 (C1 : (i_4 : Int) < (a0.1.length : Int)) (E2 : a0.1[i_4]? = some (v5, r5)) (E3 : a1.1[i_4]? = some (v6, r6)) (C4 : ¬ v5 = v6) :
    Leave 0 (exec Tryz.prog (tab n) 0 57 (livesOf 55) big fqR_C4) (livesOf 55 (outOf 4)) (fqR_h4 a0 a1 i_4) (.ret) (fqR_o4a ) := by
  have C1_ : i_4 < a0.1.length := by omega
  obtain ⟨EL2, EG2⟩ := List.getElem?_eq_some_iff.1 E2
  obtain ⟨EL3, EG3⟩ := List.getElem?_eq_some_iff.1 E3
  have C4_ : (v5 == v6) = false := by simpa using C4
  have C4_n : (v5 != v6) = true := by simpa using C4
  unfold Leave
  simp +decide [fqR_h4, loopsOf, Tryz.f55, fqR_o4a, fqR_C4, C1, C1_, EL2, EG2, E2, EL3, EG3, E3, C4_, C4_n]
theorem fqR_x4_2 (C1 : (i_4 : Int) < (a0.1.length : Int)) (E2 : a0.1[i_4]? = some (v5, r5)) (E3 : a1.1[i_4]? = some (v6, r6)) (C4 : v5 = v6) (B5a : RawB r5) (B5b : RawB r6) (C6 : ¬ (r5 = r6)) :
    Leave 0 (exec Tryz.prog (tab n) 0 57 (livesOf 55) big fqR_C4) (livesOf 55 (outOf 4)) (fqR_h4 a0 a1 i_4) (.ret) (fqR_o4a ) := by
  have C1_ : i_4 < a0.1.length := by omega
  obtain ⟨EL2, EG2⟩ := List.getElem?_eq_some_iff.1 E2
  obtain ⟨EL3, EG3⟩ := List.getElem?_eq_some_iff.1 E3
  have C4_ : (v5 == v6) = true := by rw [C4]; simp
  have C4_n : (v5 != v6) = false := by rw [C4]; simp
  have K5 := rr_same B5a B5b
  unfold Leave
  simp +decide [fqR_h4, loopsOf, Tryz.f55, fqR_o4a, fqR_C4, C1, C1_, EL2, EG2, E2, EL3, EG3, E3, C4_, C4_n, K5, C6]
theorem fqR_x4_3 (C1 : ¬ (i_4 : Int) < (a0.1.length : Int)) :
    Leave 0 (exec Tryz.prog (tab n) 0 57 (livesOf 55) big fqR_C4) (livesOf 55 (outOf 4)) (fqR_h4 a0 a1 i_4) (.exit 0) (fqR_o4b ) := by
  have C1_ : ¬ i_4 < a0.1.length := by omega
  unfold Leave
  simp +decide [fqR_h4, loopsOf, Tryz.f55, fqR_o4b, fqR_C4, C1, C1_]
theorem fqR_f1 (C1 : ¬ (a0.1.length : Int) = (a1.1.length : Int)) :
    run n 55 [.agg [.sl 4 (a0.1.map termRC), .lit (.bool a0.2.s), natA a0.2.l1, natA a0.2.l2], .agg [.sl 4 (a1.1.map termRC), .lit (.bool a1.2.s), natA a1.2.l1, natA a1.2.l2]] = some (.lit (.bool false)) := by
  have C1_ : ((a0.1.length : Int) == (a1.1.length : Int)) = false := by simpa using C1
  have C1_n : ((a0.1.length : Int) != (a1.1.length : Int)) = true := by simpa using C1
  unfold run fnP
  simp +decide [Tryz.f55, C1_, C1_n]
theorem fqR_f2 (C1 : (a0.1.length : Int) = (a1.1.length : Int)) (B2a : RawB a0.2) (B2b : RawB a1.2) (C3 : ¬ (a0.2 = a1.2)) :
    run n 55 [.agg [.sl 4 (a0.1.map termRC), .lit (.bool a0.2.s), natA a0.2.l1, natA a0.2.l2], .agg [.sl 4 (a1.1.map termRC), .lit (.bool a1.2.s), natA a1.2.l1, natA a1.2.l2]] = some (.lit (.bool false)) := by
  have C1_ : ((a0.1.length : Int) == (a1.1.length : Int)) = true := by rw [C1]; simp
  have C1_n : ((a0.1.length : Int) != (a1.1.length : Int)) = false := by rw [C1]; simp
  have K2 := rr_same B2a B2b
  unfold run fnP
  simp +decide [Tryz.f55, C1_, C1_n, K2, C3]
theorem fqR_f3 (C1 : (a0.1.length : Int) = (a1.1.length : Int)) (B2a : RawB a0.2) (B2b : RawB a1.2) (C3 : a0.2 = a1.2) (L4 : loopG Tryz.prog (tab n) 0 57 (livesOf 55) 4 fqR_C4 (fqR_h4 a0 a1 0) = some (.ret, fqR_o4a )) :
    run n 55 [.agg [.sl 4 (a0.1.map termRC), .lit (.bool a0.2.s), natA a0.2.l1, natA a0.2.l2], .agg [.sl 4 (a1.1.map termRC), .lit (.bool a1.2.s), natA a1.2.l1, natA a1.2.l2]] = some (.lit (.bool false)) := by
  have C1_ : ((a0.1.length : Int) == (a1.1.length : Int)) = true := by rw [C1]; simp
  have C1_n : ((a0.1.length : Int) != (a1.1.length : Int)) = false := by rw [C1]; simp
  have K2 := rr_same B2a B2b
  have C3_ : decide (a0.2 = a1.2) = true := decide_eq_true C3
  unfold run fnP
  simp +decide [Tryz.f55, C1_, C1_n, K2, C3_]
  rw [loopX_G (C' := fqR_C4) (e := (fqR_h4 a0 a1 0)) ?_ ?_, L4]
  rotate_left
  · kernel_rfl
  · simp +decide [fqR_h4, C1_, C1_n, K2, C3_]
  simp +decide [fqR_o4a, C1_, C1_n, K2, C3_]
theorem fqR_f4 (C1 : (a0.1.length : Int) = (a1.1.length : Int)) (B2a : RawB a0.2) (B2b : RawB a1.2) (C3 : a0.2 = a1.2) (L4 : loopG Tryz.prog (tab n) 0 57 (livesOf 55) 4 fqR_C4 (fqR_h4 a0 a1 0) = some (.exit 0, fqR_o4b )) :
    run n 55 [.agg [.sl 4 (a0.1.map termRC), .lit (.bool a0.2.s), natA a0.2.l1, natA a0.2.l2], .agg [.sl 4 (a1.1.map termRC), .lit (.bool a1.2.s), natA a1.2.l1, natA a1.2.l2]] = some (.lit (.bool true)) := by
  have C1_ : ((a0.1.length : Int) == (a1.1.length : Int)) = true := by rw [C1]; simp
  have C1_n : ((a0.1.length : Int) != (a1.1.length : Int)) = false := by rw [C1]; simp
  have K2 := rr_same B2a B2b
  have C3_ : decide (a0.2 = a1.2) = true := decide_eq_true C3
  unfold run fnP
  simp +decide [Tryz.f55, C1_, C1_n, K2, C3_]
  rw [loopX_G (C' := fqR_C4) (e := (fqR_h4 a0 a1 0)) ?_ ?_, L4]
  rotate_left
  · kernel_rfl
  · simp +decide [fqR_h4, C1_, C1_n, K2, C3_]
  simp +decide [fqR_o4b, C1_, C1_n, K2, C3_]
end
noncomputable def eaR_C4 : Code := (loopsOf (bodyOf Tryz.f90)).getD 0 .skip
def eaR_h4 (a0 : List FormR) (a1 : List FormR) (i_4 : Nat) : St :=
  ⟨[(0, .sl 4 (a0.map formRC)), (1, .sl 4 (a1.map formRC)), (5, .lit (.int .i64 (i_4 : Int)))],
   [], 0⟩
def eaR_o4a  : St :=
  ⟨[(4, .lit (.bool false))],
   [], 0⟩
def eaR_o4b  : St :=
  ⟨[(4, .any)],
   [], 0⟩
section
variable {F6 : List (Int × Raw)} {F5 : List (Int × Raw)} {r9 : Bool} {i_4 : Nat} {r8 : Raw} {a1 : List FormR} {a0 : List FormR} {n : Nat} {r7 : Raw}
theorem eaR_r4_1 (C1 : (i_4 : Int) < (a0.length : Int)) (E2 : a0[i_4]? = some (F5, r7)) (E3 : a1[i_4]? = some (F6, r8)) (K4 : run n 55 [.agg [.sl 4 (F5.map termRC), .lit (.bool r7.s), natA r7.l1, natA r7.l2], .agg [.sl 4 (F6.map termRC), .lit (.bool r8.s), natA r8.l1, natA r8.l2]] = some (.lit (.bool r9))) (C5 : r9 = true) (W6 : InI ((i_4 : Int) + 1)) :
    Cont 0 (exec Tryz.prog (tab (n + 1)) 0 27 (livesOf 90) big eaR_C4) (livesOf 90 4) (eaR_h4 a0 a1 i_4) (eaR_h4 a0 a1 (i_4 + 1)) := by
  have C1_ : i_4 < a0.length := by omega
  obtain ⟨EL2, EG2⟩ := List.getElem?_eq_some_iff.1 E2
  obtain ⟨EL3, EG3⟩ := List.getElem?_eq_some_iff.1 E3
  have W6_ : IntKind.i64.wrap ((i_4 : Int) + 1) = (i_4 : Int) + 1 := wr64 W6.1 W6.2
  unfold Cont
  simp +decide [eaR_h4, loopsOf, Tryz.f90, eaR_C4, C1, C1_, EL2, EG2, E2, EL3, EG3, E3, K4, C5, W6_]
theorem eaR_x4_1 (C1 : (i_4 : Int) < (a0.length : Int)) (E2 : a0[i_4]? = some (F5, r7)) (E3 : a1[i_4]? = some (F6, r8)) (K4 : run n 55 [.agg [.sl 4 (F5.map termRC), .lit (.bool r7.s), natA r7.l1, natA r7.l2], .agg [.sl 4 (F6.map termRC), .lit (.bool r8.s), natA r8.l1, natA r8.l2]] = some (.lit (.bool r9))) (C5 : r9 = false) :
    Leave 0 (exec Tryz.prog (tab (n + 1)) 0 27 (livesOf 90) big eaR_C4) (livesOf 90 (outOf 4)) (eaR_h4 a0 a1 i_4) (.ret) (eaR_o4a ) := by
  have C1_ : i_4 < a0.length := by omega
  obtain ⟨EL2, EG2⟩ := List.getElem?_eq_some_iff.1 E2
  obtain ⟨EL3, EG3⟩ := List.getElem?_eq_some_iff.1 E3
  unfold Leave
  simp +decide [eaR_h4, loopsOf, Tryz.f90, eaR_o4a, eaR_C4, C1, C1_, EL2, EG2, E2, EL3, EG3, E3, K4, C5]
theorem eaR_x4_2 (C1 : ¬ (i_4 : Int) < (a0.length : Int)) :
    Leave 0 (exec Tryz.prog (tab (n + 1)) 0 27 (livesOf 90) big eaR_C4) (livesOf 90 (outOf 4)) (eaR_h4 a0 a1 i_4) (.exit 0) (eaR_o4b ) := by
  have C1_ : ¬ i_4 < a0.length := by omega
  unfold Leave
  simp +decide [eaR_h4, loopsOf, Tryz.f90, eaR_o4b, eaR_C4, C1, C1_]
theorem eaR_f1 (C1 : ¬ (a0.length : Int) = (a1.length : Int)) :
    run (n + 1) 90 [.sl 4 (a0.map formRC), .sl 4 (a1.map formRC)] = some (.lit (.bool false)) := by
  have C1_ : ((a0.length : Int) == (a1.length : Int)) = false := by simpa using C1
  have C1_n : ((a0.length : Int) != (a1.length : Int)) = true := by simpa using C1
  unfold run fnP
  simp +decide [Tryz.f90, C1_, C1_n]
theorem eaR_f2 (C1 : (a0.length : Int) = (a1.length : Int)) (L2 : loopG Tryz.prog (tab (n + 1)) 0 27 (livesOf 90) 4 eaR_C4 (eaR_h4 a0 a1 0) = some (.ret, eaR_o4a )) :
    run (n + 1) 90 [.sl 4 (a0.map formRC), .sl 4 (a1.map formRC)] = some (.lit (.bool false)) := by
  have C1_ : ((a0.length : Int) == (a1.length : Int)) = true := by rw [C1]; simp
  have C1_n : ((a0.length : Int) != (a1.length : Int)) = false := by rw [C1]; simp
  unfold run fnP
  simp +decide [Tryz.f90, C1_, C1_n]
  rw [loopX_G (C' := eaR_C4) (e := (eaR_h4 a0 a1 0)) ?_ ?_, L2]
  rotate_left
  · kernel_rfl
  · simp +decide [eaR_h4, C1_, C1_n]
  simp +decide [eaR_o4a, C1_, C1_n]
theorem eaR_f3 (C1 : (a0.length : Int) = (a1.length : Int)) (L2 : loopG Tryz.prog (tab (n + 1)) 0 27 (livesOf 90) 4 eaR_C4 (eaR_h4 a0 a1 0) = some (.exit 0, eaR_o4b )) :
    run (n + 1) 90 [.sl 4 (a0.map formRC), .sl 4 (a1.map formRC)] = some (.lit (.bool true)) := by
  have C1_ : ((a0.length : Int) == (a1.length : Int)) = true := by rw [C1]; simp
  have C1_n : ((a0.length : Int) != (a1.length : Int)) = false := by rw [C1]; simp
  unfold run fnP
  simp +decide [Tryz.f90, C1_, C1_n]
  rw [loopX_G (C' := eaR_C4) (e := (eaR_h4 a0 a1 0)) ?_ ?_, L2]
  rotate_left
  · kernel_rfl
  · simp +decide [eaR_h4, C1_, C1_n]
  simp +decide [eaR_o4b, C1_, C1_n]
end
section
variable {r2 : Bool} {a1 : TGraphR} {a0 : TGraphR} {r : Bool} {n : Nat}
theorem rqR_f1 (C1 : a0.Inputs = a1.Inputs) (K2 : run (n + 1) 90 [.sl 4 (a0.Units.map formRC), .sl 4 (a1.Units.map formRC)] = some (.lit (.bool r))) (C3 : r = true) (K4 : run (n + 1) 90 [.sl 4 (a0.Outputs.map formRC), .sl 4 (a1.Outputs.map formRC)] = some (.lit (.bool r2))) :
    run (n + 2) 24 [graphRV a0, graphRV a1] = some (.lit (.bool r2)) := by
  have C1_ : (a0.Inputs == a1.Inputs) = true := by rw [C1]; simp
  have C1_n : (a0.Inputs != a1.Inputs) = false := by rw [C1]; simp
  unfold run fnP
  simp +decide [Tryz.f24, C1_, C1_n, K2, C3, K4]
theorem rqR_f2 (C1 : a0.Inputs = a1.Inputs) (K2 : run (n + 1) 90 [.sl 4 (a0.Units.map formRC), .sl 4 (a1.Units.map formRC)] = some (.lit (.bool r))) (C3 : r = false) :
    run (n + 2) 24 [graphRV a0, graphRV a1] = some (.lit (.bool false)) := by
  have C1_ : (a0.Inputs == a1.Inputs) = true := by rw [C1]; simp
  have C1_n : (a0.Inputs != a1.Inputs) = false := by rw [C1]; simp
  unfold run fnP
  simp +decide [Tryz.f24, C1_, C1_n, K2, C3]
theorem rqR_f3 (C1 : ¬ a0.Inputs = a1.Inputs) :
    run (n + 2) 24 [graphRV a0, graphRV a1] = some (.lit (.bool false)) := by
  have C1_ : (a0.Inputs == a1.Inputs) = false := by simpa using C1
  have C1_n : (a0.Inputs != a1.Inputs) = true := by simpa using C1
  unfold run fnP
  simp +decide [Tryz.f24, C1_, C1_n]
end
end Go.Proofs.YtlpmemelhlnfbaaGreatDoor
set_option linter.all false
set_option maxRecDepth 100000
set_option maxHeartbeats 6400000
namespace Go.Proofs.YtlpmemelhlnfbaaGreatDoor
open Go.RowKit
theorem gxR_f1 {n : Nat} {a0 : TGraphR} {r : Bool} (K1 : run (n + 7) 41 [graphRV a0] = some (.lit (.bool r))) (C2 : r = false) :
    run (n + 8) 28 [graphRV a0] = some (.lit (.string (⟨#[]⟩ : ByteArray))) := by
  simp only [graphRV] at K1
  unfold run fnP
  simp +decide [Tryz.f28, K1, C2]
end Go.Proofs.YtlpmemelhlnfbaaGreatDoor
set_option linter.all false
set_option maxRecDepth 100000
set_option maxHeartbeats 6400000
namespace Go.Proofs.YtlpmemelhlnfbaaGreatDoor
open Go.RowKit
theorem fxR_f1 {n : Nat} {a0 : TGraphR} {r : Bool} (K1 : run (n + 6) 25 [graphRV a0] = some (.lit (.bool r))) (C2 : r = false) :
    run (n + 7) 29 [graphRV a0] = some (.lit (.string (⟨#[]⟩ : ByteArray))) := by
  simp only [graphRV] at K1
  unfold run fnP
  simp +decide [Tryz.f29, K1, C2]
end Go.Proofs.YtlpmemelhlnfbaaGreatDoor
set_option linter.all false
set_option maxRecDepth 100000
set_option maxHeartbeats 6400000
namespace Go.Proofs.YtlpmemelhlnfbaaGreatDoor
open Go.RowKit
noncomputable def gvdT (n : Nat) : FuncId → Option Orc := ext (tab (n + 10)) 18 (.pure awG)
theorem gvdT_ok (n : Nat) : OrcOk Tryz.prog (gvdT n) := (tab_ok (n + 10)).extP (by kernel_rfl) con_awake
noncomputable def gvd (n : Nat) (args : List AV) : Option AV := fnP Tryz.prog (gvdT n) (livesOf 8) big (fnOf 8) args
theorem gvd_con {n : Nat} {args : List AV} {r : AV} (h : gvd n args = some r) : Con Tryz.prog 8 args r :=
  con_of (gvdT_ok n) mixed (plain_fn (by kernel_rfl)) (body_some (by kernel_rfl) (plain_fn (by kernel_rfl))) h
theorem gvd_aw (n : Nat) : gvdT n 18 = some (.pure awG) := by unfold gvdT ext; rw [if_pos rfl]
theorem gvd_l22 (n : Nat) : gvdT n 22 = some (.pure (run (n + 9) 22)) := by unfold gvdT ext; rw [if_neg (by decide)]; exact tb_22 _
theorem gvd_l24 (n : Nat) : gvdT n 24 = some (.pure (run (n + 9) 24)) := by unfold gvdT ext; rw [if_neg (by decide)]; exact tb_24 _
theorem gvd_l25 (n : Nat) : gvdT n 25 = some (.pure (run (n + 9) 25)) := by unfold gvdT ext; rw [if_neg (by decide)]; exact tb_25 _
theorem gvd_l28 (n : Nat) : gvdT n 28 = some (.pure (run (n + 9) 28)) := by unfold gvdT ext; rw [if_neg (by decide)]; exact tb_28 _
theorem gvd_l29 (n : Nat) : gvdT n 29 = some (.pure (run (n + 9) 29)) := by unfold gvdT ext; rw [if_neg (by decide)]; exact tb_29 _
theorem gvd_l30 (n : Nat) : gvdT n 30 = some (.pure (run (n + 9) 30)) := by unfold gvdT ext; rw [if_neg (by decide)]; exact tb_30 _
theorem gvd_l41 (n : Nat) : gvdT n 41 = some (.pure (run (n + 9) 41)) := by unfold gvdT ext; rw [if_neg (by decide)]; exact tb_41 _
theorem gvd_l42 (n : Nat) : gvdT n 42 = some (.pure (run (n + 9) 42)) := by unfold gvdT ext; rw [if_neg (by decide)]; exact tb_42 _
theorem gvd_l43 (n : Nat) : gvdT n 43 = some (.pure (run (n + 9) 43)) := by unfold gvdT ext; rw [if_neg (by decide)]; exact tb_43 _
theorem gvd_l44 (n : Nat) : gvdT n 44 = some (.pure (run (n + 9) 44)) := by unfold gvdT ext; rw [if_neg (by decide)]; exact tb_44 _
section
variable {a0 : TGraphR} {r : Bool} {n : Nat} {a1 : TGraphR} {r2 : Bool} {r3 : Bool} {r6 : Int} {r9 : TGraphR} {r10 : Bool} {r4 : Bool} {r12 : ByteArray} {r8 : Bool} {r5 : Int} {r11 : ByteArray} {r7 : Bool}
theorem gvd_f1 (K1 : run (n + 9) 30 [graphRV a0] = some (.lit (.bool r))) (C2 : r = false) :
    gvd n [graphRV a0, graphRV a1] = some (.lit (.bool true)) := by
  simp only [graphRV] at K1
  unfold gvd fnP
  simp +decide [Tryz.f8, K1, C2, gvd_aw, awG, gvd_l22, gvd_l24, gvd_l25, gvd_l28, gvd_l29, gvd_l30, gvd_l41, gvd_l42, gvd_l43, gvd_l44]
theorem gvd_f2 (K1 : run (n + 9) 30 [graphRV a0] = some (.lit (.bool r))) (C2 : r = true) (K3 : run (n + 9) 30 [graphRV a1] = some (.lit (.bool r2))) (C4 : r2 = false) :
    gvd n [graphRV a0, graphRV a1] = some (.lit (.bool true)) := by
  simp only [graphRV] at K1
  simp only [graphRV] at K3
  unfold gvd fnP
  simp +decide [Tryz.f8, K1, C2, K3, C4, gvd_aw, awG, gvd_l22, gvd_l24, gvd_l25, gvd_l28, gvd_l29, gvd_l30, gvd_l41, gvd_l42, gvd_l43, gvd_l44]
theorem gvd_f7 (K1 : run (n + 9) 30 [graphRV a0] = some (.lit (.bool r))) (C2 : r = true) (K3 : run (n + 9) 30 [graphRV a1] = some (.lit (.bool r2))) (C4 : r2 = true) (K5 : run (n + 9) 41 [graphRV a0] = some (.lit (.bool r3))) (K6 : run (n + 9) 25 [graphRV a0] = some (.lit (.bool r4))) (C7 : r3 = r4) (K8 : run (n + 9) 42 [graphRV a0] = some (.lit (.int .i64 r5))) (K9 : run (n + 9) 43 [graphRV a0] = some (.lit (.int .i64 r6))) (C10 : r5 = r6) (K11 : run (n + 9) 44 [graphRV a0, graphRV a1] = some (.lit (.bool r7))) (K12 : run (n + 9) 24 [graphRV a0, graphRV a1] = some (.lit (.bool r8))) (C13 : r7 = r8) (K14 : run (n + 9) 22 [graphRV a0] = some (graphRV r9)) (K15 : run (n + 9) 44 [graphRV a0, graphRV r9] = some (.lit (.bool r10))) (C16 : r10 = true) (K17 : run (n + 9) 28 [graphRV a0] = some (.lit (.string r11))) (K18 : run (n + 9) 29 [graphRV a0] = some (.lit (.string r12))) :
    gvd n [graphRV a0, graphRV a1] = some (.lit (.bool (r11.toList == r12.toList))) := by
  simp only [graphRV] at K1
  simp only [graphRV] at K3
  simp only [graphRV] at K5
  simp only [graphRV] at K6
  have C7_ : (r3 == r4) = true := by rw [C7]; simp
  have C7_n : (r3 != r4) = false := by rw [C7]; simp
  simp only [graphRV] at K8
  simp only [graphRV] at K9
  have C10_ : (r5 == r6) = true := by rw [C10]; simp
  have C10_n : (r5 != r6) = false := by rw [C10]; simp
  simp only [graphRV] at K11
  simp only [graphRV] at K12
  have C13_ : (r7 == r8) = true := by rw [C13]; simp
  have C13_n : (r7 != r8) = false := by rw [C13]; simp
  simp only [graphRV] at K14
  simp only [graphRV] at K15
  simp only [graphRV] at K17
  simp only [graphRV] at K18
  unfold gvd fnP
  simp +decide [Tryz.f8, K1, C2, K3, C4, K5, K6, C7_, C7_n, C7, K8, K9, C10_, C10_n, K11, K12, C13_, C13_n, C13, K14, K15, C16, K17, K18, gvd_aw, awG, gvd_l22, gvd_l24, gvd_l25, gvd_l28, gvd_l29, gvd_l30, gvd_l41, gvd_l42, gvd_l43, gvd_l44]
end
end Go.Proofs.YtlpmemelhlnfbaaGreatDoor
set_option linter.all false
set_option maxRecDepth 100000
set_option maxHeartbeats 6400000
namespace Go.Proofs.YtlpmemelhlnfbaaGreatDoor
open Go.RowKit
attribute [local irreducible] run runL loopG exec gvd
section
variable {n : Nat}
theorem raw_ext {x y : Raw} (h1 : x.s = y.s) (h2 : x.l1 = y.l1) (h3 : x.l2 = y.l2) : x = y := by
  obtain ⟨x1, x2, x3⟩ := x
  obtain ⟨y1, y2, y3⟩ := y
  dsimp only at h1 h2 h3
  rw [h1, h2, h3]
theorem smR_c {x y : Raw} (hx : Two x) (hy : Two y) : run (n + 1) 172 [.agg [.lit (.bool x.s), natA x.l1, natA x.l2], .agg [.lit (.bool y.s), natA y.l1, natA y.l2]] = some (.lit (.bool (tv (x = y)))) := by
  have := hx.1
  have := hx.2
  have := hy.1
  have := hy.2
  have K1 := seq_c (n := n) (l := x.l1) (m := y.l1) (by omega) (by omega)
  have K2 := seq_c (n := n) (l := x.l2) (m := y.l2) (by omega) (by omega)
  by_cases h1 : x.s = y.s
  · by_cases h2 : x.l1 = y.l1
    · rw [show tv (x = y) = tv (x.l2 = y.l2) from tv_iff ⟨fun h => by rw [h], fun h => raw_ext h1 h2 h⟩]
      exact smR_f1 h1 K1 (tv_t h2) K2
    · rw [tv_f fun h => h2 (by rw [h])]
      exact smR_f2 h1 K1 (tv_f h2)
  · rw [tv_f fun h => h1 (by rw [h])]
    exact smR_f3 h1
theorem list_all2 {α : Type} {l m : List α} (hl : l.length = m.length) (h : ∀ i, i < l.length → l[i]? = m[i]?) : l = m := list_all hl h
theorem lqR_c {f g : FormR} (hf : FewR f.1 f.2) (hg : FewR g.1 g.2) : run (n + 2) 106 [frV f, frV g] = some (.lit (.bool (tv (f = g)))) := by
  have l1 := hf.1
  have l2 := hg.1
  by_cases c1 : (f.1.length : Int) = (g.1.length : Int)
  · have K := smR_c (n := n) hf.2.1 hg.2.1
    by_cases c2 : f.2 = g.2
    · rw [tv_t c2] at K
      have hG := loopG_all (O := tab (n + 2)) (P := Tryz.prog) (m := 0) (N := 52) (lives := livesOf 106) (r := 4) (C := lqR_C4) (M := f.1.length) (enc := fun i => lqR_h4 f g i) (p := fun i => tv (f.1[i]? = g.1[i]?)) (exN := .exit 0) (exE := .ret) (out := lqR_o4b) (outE := lqR_o4a) (by omega) (fun h => by cases h) (fun h => by cases h)
        (fun i hi _ => by
          obtain ⟨⟨v, x⟩, hx⟩ : ∃ t, f.1[i]? = some t := ⟨_, List.getElem?_eq_getElem hi⟩
          obtain ⟨⟨u, y⟩, hy⟩ : ∃ t, g.1[i]? = some t := ⟨_, List.getElem?_eq_getElem (by omega)⟩
          have K := smR_c (n := n) (hf.2.2 _ (List.mem_of_getElem? hx)) (hg.2.2 _ (List.mem_of_getElem? hy))
          have et : tv (f.1[i]? = g.1[i]?) = tv ((v, x) = (u, y)) := tv_iff (by rw [hx, hy]; exact ⟨fun h => Option.some.inj h, fun h => by rw [h]⟩)
          rw [et]
          by_cases e1 : v = u
          · have et2 : tv ((v, x) = (u, y)) = tv (x = y) := tv_iff ⟨fun h => (Prod.mk.inj h).2, fun h => by rw [e1, h]⟩
            rw [et2]
            exact ⟨fun hp => lqR_r4_1 (by omega) hx hy e1 K hp ⟨by omega, by omega⟩, fun hp => lqR_x4_2 (by omega) hx hy e1 K hp⟩
          · exact ⟨fun hp => absurd (Prod.mk.inj (tv_true hp)).1 e1, fun _ => lqR_x4_1 (by omega) hx hy e1⟩)
        (lqR_x4_3 (by omega))
      by_cases e : f.1 = g.1
      · rw [if_pos (fun i hi => tv_t (by rw [e]))] at hG
        rw [tv_t (by obtain ⟨_, _⟩ := f; obtain ⟨_, _⟩ := g; dsimp only at e c2; rw [e, c2])]
        exact lqR_f4 c1 K rfl hG
      · rw [if_neg (fun h2 => e (list_all2 (by omega) fun i hi => tv_true (h2 i hi)))] at hG
        rw [tv_f (fun h => e (by rw [h]))]
        exact lqR_f3 c1 K rfl hG
    · rw [tv_f c2] at K
      rw [tv_f (fun h => c2 (by rw [h]))]
      exact lqR_f2 c1 K rfl
  · rw [tv_f (fun h => c1 (by rw [h]))]
    exact lqR_f1 c1
theorem fqR_c {f g : FormR} (bf : BdR f) (bg : BdR g) : run n 55 [frV f, frV g] = some (.lit (.bool (tv (f = g)))) := by
  have hf := bf.2
  have hg := bg.2
  have l1 := hf.1
  have l2 := hg.1
  have rf := hf.2.1.rb bf.1.k
  have rg := hg.2.1.rb bg.1.k
  by_cases c1 : (f.1.length : Int) = (g.1.length : Int)
  · by_cases c2 : f.2 = g.2
    · have hG := loopG_all (O := tab n) (P := Tryz.prog) (m := 0) (N := 57) (lives := livesOf 55) (r := 4) (C := fqR_C4) (M := f.1.length) (enc := fun i => fqR_h4 f g i) (p := fun i => tv (f.1[i]? = g.1[i]?)) (exN := .exit 0) (exE := .ret) (out := fqR_o4b) (outE := fqR_o4a) (by omega) (fun h => by cases h) (fun h => by cases h)
        (fun i hi _ => by
          obtain ⟨⟨v, x⟩, hx⟩ : ∃ t, f.1[i]? = some t := ⟨_, List.getElem?_eq_getElem hi⟩
          obtain ⟨⟨u, y⟩, hy⟩ : ∃ t, g.1[i]? = some t := ⟨_, List.getElem?_eq_getElem (by omega)⟩
          have mx := List.mem_of_getElem? hx
          have my := List.mem_of_getElem? hy
          have bx := (hf.2.2 _ mx).rb (bf.1.t _ mx)
          have b_y := (hg.2.2 _ my).rb (bg.1.t _ my)
          have et : tv (f.1[i]? = g.1[i]?) = tv ((v, x) = (u, y)) := tv_iff (by rw [hx, hy]; exact ⟨fun h => Option.some.inj h, fun h => by rw [h]⟩)
          rw [et]
          by_cases e1 : v = u
          · by_cases e2 : x = y
            · exact ⟨fun _ => fqR_r4_1 (by omega) hx hy e1 bx b_y e2 ⟨by omega, by omega⟩, fun hp => absurd (by rw [e1, e2]) (tv_false hp)⟩
            · exact ⟨fun hp => absurd (Prod.mk.inj (tv_true hp)).2 e2, fun _ => fqR_x4_2 (by omega) hx hy e1 bx b_y e2⟩
          · exact ⟨fun hp => absurd (Prod.mk.inj (tv_true hp)).1 e1, fun _ => fqR_x4_1 (by omega) hx hy e1⟩)
        (fqR_x4_3 (by omega))
      by_cases e : f.1 = g.1
      · rw [if_pos (fun i hi => tv_t (by rw [e]))] at hG
        rw [tv_t (by obtain ⟨_, _⟩ := f; obtain ⟨_, _⟩ := g; dsimp only at e c2; rw [e, c2])]
        exact fqR_f4 c1 rf rg c2 hG
      · rw [if_neg (fun h2 => e (list_all2 (by omega) fun i hi => tv_true (h2 i hi)))] at hG
        rw [tv_f (fun h => e (by rw [h]))]
        exact fqR_f3 c1 rf rg c2 hG
    · rw [tv_f (fun h => c2 (by rw [h]))]
      exact fqR_f2 c1 rf rg c2
  · rw [tv_f (fun h => c1 (by rw [h]))]
    exact fqR_f1 c1
theorem eqf_c {L M : List FormR} (hl : L.length ≤ 1000) (hm : M.length ≤ 1000) (hB : ∀ f ∈ L, FewR f.1 f.2) (hC : ∀ f ∈ M, FewR f.1 f.2) :
    run (n + 3) 105 [.sl 4 (L.map formRC), .sl 4 (M.map formRC), .clo 106 []] = some (.lit (.bool (tv (L = M)))) := by
  by_cases c : (L.length : Int) = (M.length : Int)
  · have hG := loopG_all (O := tab (n + 3)) (P := Tryz.prog) (m := 0) (N := 32) (lives := livesOf 105) (r := 4) (C := eqf_C4) (M := L.length) (enc := fun i => eqf_h4 L M i) (p := fun i => tv (L[i]? = M[i]?)) (exN := .exit 0) (exE := .ret) (out := eqf_o4b) (outE := eqf_o4a) (by omega) (fun h => by cases h) (fun h => by cases h)
      (fun i hi _ => by
        obtain ⟨f, hx⟩ : ∃ f, L[i]? = some f := ⟨_, List.getElem?_eq_getElem hi⟩
        obtain ⟨e, hy⟩ : ∃ e, M[i]? = some e := ⟨_, List.getElem?_eq_getElem (by omega)⟩
        have K := lqR_c (n := n) (hB f (List.mem_of_getElem? hx)) (hC e (List.mem_of_getElem? hy))
        have et : tv (L[i]? = M[i]?) = tv (f = e) := tv_iff (by rw [hx, hy]; exact ⟨fun h => Option.some.inj h, fun h => by rw [h]⟩)
        rw [et]
        exact ⟨fun hp => eqf_r4_1 (by omega) hx hy K hp ⟨by omega, by omega⟩, fun hp => eqf_x4_1 (by omega) hx hy K hp⟩)
      (eqf_x4_2 (by omega))
    by_cases e : L = M
    · rw [if_pos (fun i hi => tv_t (by rw [e]))] at hG
      rw [tv_t e]
      exact eqf_f3 c hG
    · rw [if_neg (fun h2 => e (list_all2 (by omega) fun i hi => tv_true (h2 i hi)))] at hG
      rw [tv_f e]
      exact eqf_f2 c hG
  · rw [tv_f (fun e => c (by rw [e]))]
    exact eqf_f1 c
theorem eaR_c {L M : List FormR} (hl : L.length ≤ 1000) (hm : M.length ≤ 1000) (hB : ∀ f ∈ L, BdR f) (hC : ∀ f ∈ M, BdR f) : run (n + 1) 90 [.sl 4 (L.map formRC), .sl 4 (M.map formRC)] = some (.lit (.bool (tv (L = M)))) := by
  by_cases c : (L.length : Int) = (M.length : Int)
  · have hG := loopG_all (O := tab (n + 1)) (P := Tryz.prog) (m := 0) (N := 27) (lives := livesOf 90) (r := 4) (C := eaR_C4) (M := L.length) (enc := fun i => eaR_h4 L M i) (p := fun i => tv (L[i]? = M[i]?)) (exN := .exit 0) (exE := .ret) (out := eaR_o4b) (outE := eaR_o4a) (by omega) (fun h => by cases h) (fun h => by cases h)
      (fun i hi _ => by
        obtain ⟨f, hx⟩ : ∃ f, L[i]? = some f := ⟨_, List.getElem?_eq_getElem hi⟩
        obtain ⟨e, hy⟩ : ∃ e, M[i]? = some e := ⟨_, List.getElem?_eq_getElem (by omega)⟩
        have K := fqR_c (n := n) (hB f (List.mem_of_getElem? hx)) (hC e (List.mem_of_getElem? hy))
        have et : tv (L[i]? = M[i]?) = tv (f = e) := tv_iff (by rw [hx, hy]; exact ⟨fun h => Option.some.inj h, fun h => by rw [h]⟩)
        rw [et]
        exact ⟨fun hp => eaR_r4_1 (by omega) hx hy K hp ⟨by omega, by omega⟩, fun hp => eaR_x4_1 (by omega) hx hy K hp⟩)
      (eaR_x4_2 (by omega))
    by_cases e : L = M
    · rw [if_pos (fun i hi => tv_t (by rw [e]))] at hG
      rw [tv_t e]
      exact eaR_f3 c hG
    · rw [if_neg (fun h2 => e (list_all2 (by omega) fun i hi => tv_true (h2 i hi)))] at hG
      rw [tv_f e]
      exact eaR_f2 c hG
  · rw [tv_f (fun e => c (by rw [e]))]
    exact eaR_f1 c
theorem gr_ext {a b : TGraphR} (h1 : a.Inputs = b.Inputs) (h2 : a.Units = b.Units) (h3 : a.Outputs = b.Outputs) : a = b := by
  obtain ⟨_, _, _⟩ := a
  obtain ⟨_, _, _⟩ := b
  dsimp only at h1 h2 h3
  rw [h1, h2, h3]
theorem gqR_c {a b : TGraphR} (ha : FewG a) (hb : FewG b) : run (n + 4) 44 [graphRV a, graphRV b] = some (.lit (.bool (tv (a = b)))) := by
  have h1 := ha.lu
  have h2 := ha.lo
  have h3 := hb.lu
  have h4 := hb.lo
  have K1 := eqf_c (n := n) (L := a.Units) (M := b.Units) (by omega) (by omega) ha.u hb.u
  have K2 := eqf_c (n := n) (L := a.Outputs) (M := b.Outputs) (by omega) (by omega) ha.o hb.o
  by_cases c1 : a.Inputs = b.Inputs
  · by_cases c2 : a.Units = b.Units
    · rw [tv_t c2] at K1
      rw [show tv (a = b) = tv (a.Outputs = b.Outputs) from tv_iff ⟨fun h => by rw [h], fun h => gr_ext c1 c2 h⟩]
      exact gqR_f1 (n := n + 1) c1 K1 rfl K2
    · rw [tv_f c2] at K1
      rw [tv_f (fun h => c2 (by rw [h]))]
      exact gqR_f2 (n := n + 1) c1 K1 rfl
  · rw [tv_f (fun h => c1 (by rw [h]))]
    exact gqR_f3 (n := n + 1) c1
theorem rqR_c {a b : TGraphR} (ha : BdGR a) (hb : BdGR b) (fa : FewG a) (fb : FewG b) : run (n + 2) 24 [graphRV a, graphRV b] = some (.lit (.bool (tv (a = b)))) := by
  have h1 := fa.lu
  have h2 := fa.lo
  have h3 := fb.lu
  have h4 := fb.lo
  have K1 := eaR_c (n := n) (L := a.Units) (M := b.Units) (by omega) (by omega) ha.u hb.u
  have K2 := eaR_c (n := n) (L := a.Outputs) (M := b.Outputs) (by omega) (by omega) ha.o hb.o
  by_cases c1 : a.Inputs = b.Inputs
  · by_cases c2 : a.Units = b.Units
    · rw [tv_t c2] at K1
      rw [show tv (a = b) = tv (a.Outputs = b.Outputs) from tv_iff ⟨fun h => by rw [h], fun h => gr_ext c1 c2 h⟩]
      exact rqR_f1 c1 K1 rfl K2
    · rw [tv_f c2] at K1
      rw [tv_f (fun h => c2 (by rw [h]))]
      exact rqR_f2 c1 K1 rfl
  · rw [tv_f (fun h => c1 (by rw [h]))]
    exact rqR_f3 c1
end
structure LimG5 (g : TGraphR) : Prop where
  u : ∀ f ∈ g.Units, LimF f
  o : ∀ f ∈ g.Outputs, LimF f
theorem LimG5.bd {g : TGraphR} (h : LimG5 g) (f : FewG g) : BdGR g := ⟨by have := f.lu; omega, by have := f.lo; omega, fun e he => ⟨h.u e he, f.u e he⟩, fun e he => ⟨h.o e he, f.o e he⟩⟩
theorem unG_tx {g : TGraphR} (hf : FewG g) (hB : BdGR g) (hO : OkGrR g) : GTx (unG g) := by
  obtain ⟨e, ok, bd, lu, lo⟩ := graph_un hB hO
  have i0 := ok.i0
  have i1 := ok.i1
  have u1 := hf.lu
  have o1 := hf.lo
  have ul : (unG g).Units.length ≤ 6 := by show (g.Units.map unR).length ≤ 6; rw [List.length_map]; exact u1
  have ol : (unG g).Outputs.length ≤ 6 := by show (g.Outputs.map unR).length ≤ 6; rw [List.length_map]; exact o1
  have tx : ∀ {f : Form} {v : Int}, OkFm f v → v ≤ 100000 → BdF 2 f → f.1.length ≤ 8 → TxB f := fun {f v} a b c d => ⟨by omega, fun t ht => by
    obtain ⟨j, hj⟩ := List.mem_iff_getElem?.1 ht
    have h2 := a j (List.getElem?_eq_some_iff.1 hj).1 t.1 t.2 hj
    have h3 := c.t t ht
    exact ⟨by omega, h2.1, by have := h2.2.1; omega⟩, by have := c.k; omega⟩
  refine ⟨⟨by omega, by omega⟩, by omega, by omega, fun f h => ?_, fun f h => ?_⟩
  · obtain ⟨i, hi⟩ := List.mem_iff_getElem?.1 h
    have := (List.getElem?_eq_some_iff.1 hi).1
    exact tx (ok.un i this f hi) (by omega) (bd.u f h) (lu f h)
  · exact tx (ok.ou f h) (by omega) (bd.o f h) (lo f h)
theorem gvalid_true {n : Nat} {g h : TGraphR} (hg : LimG5 g) (hh : LimG5 h) : gvd n [graphRV g, graphRV h] = some (.lit (.bool true)) := by
  obtain ⟨b1, K1, F1⟩ := few5_c (n := n + 7) (g := g)
  cases b1 with
  | false => exact gvd_f1 K1 rfl
  | true =>
  obtain ⟨b2, K2, F2⟩ := few5_c (n := n + 7) (g := h)
  cases b2 with
  | false => exact gvd_f2 K1 rfl K2 rfl
  | true =>
  have fg := F1 rfl
  have fh := F2 rfl
  have bg := hg.bd fg
  have bh := hh.bd fh
  have u1 := fg.lu
  have o1 := fg.lo
  have V1 (k : Nat) := gvalidR_c (n := k) bg
  have V2 (k : Nat) := validGR_c (n := k) bg
  have E1 := gqR_c (n := n + 5) fg fh
  have E2 := rqR_c (n := n + 7) bg bh fg fh
  have C := cpyR_f1 (n := n + 9) (a0 := g) (by omega) (by omega)
  have E3 := gqR_c (n := n + 5) fg fg
  rw [tv_t rfl] at E3
  by_cases ok : OkGrR g
  · obtain ⟨e, ok2, bd, lu, lo⟩ := graph_un bg ok
    have tx := unG_tx fg bg ok
    have i0 := ok.i0
    have i1 := ok.i1
    rw [tv_t ok] at V1 V2
    have W1 := gVs_f2 (n := n + 3) (V1 (n + 3)) rfl ⟨by omega, by omega⟩
    have W2 := rVs_f2 (n := n + 6) (V2 (n + 6)) rfl ⟨by omega, by omega⟩
    have X1 := V1 (n + 3)
    rw [e] at X1
    have X2 := V2 (n + 6)
    rw [e] at X2
    have T1 := gtx_c (n := n + 1) tx X1
    have T2 := gtf_c (n := n + 2) tx X2
    rw [← e] at T1 T2
    have R := gvd_f7 (n := n) K1 rfl K2 rfl (V1 (n + 4)) (V2 (n + 7)) rfl W1 W2 rfl E1 E2 rfl C E3 rfl T1 T2
    rw [R]
    simp
  · rw [tv_f ok] at V1 V2
    have W1 := gVs_f1 (n := n + 3) (V1 (n + 3)) rfl
    have W2 := rVs_f1 (n := n + 6) (V2 (n + 6)) rfl
    have T1 := gxR_f1 (n := n + 1) (V1 (n + 3)) rfl
    have T2 := fxR_f1 (n := n + 2) (V2 (n + 6)) rfl
    have R := gvd_f7 (n := n) K1 rfl K2 rfl (V1 (n + 4)) (V2 (n + 7)) rfl W1 W2 rfl E1 E2 rfl C E3 rfl T1 T2
    rw [R]
    simp
end Go.Proofs.YtlpmemelhlnfbaaGreatDoor
