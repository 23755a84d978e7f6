/- Walks: rows.zero, rows.fits, rows.decided$1, slices.IndexFunc[[]relucert/api.Decision,relucert/api.Decision]~1:rows.decided$1, slices.ContainsFunc[[]relucert/api.Decision,relucert/api.Decision]~1:rows.decided$1, rows.decided. Walks: rows.Best, rows.phases, rows.Phase, phase.Of. -/
import Derived.Test.YtkakmdadnhjphaaGreatDoorUA
set_option linter.all false
set_option linter.all false
set_option maxRecDepth 100000
set_option maxHeartbeats 6400000
namespace Go.Proofs.YtkakmdadnhjphaaGreatDoor
open Go.RowKit

/-! rows.zero, level 0 -/
theorem rz_f1 {n : Nat} {a0 : Rat} (C1 : (rawQ a0).s = false) (C2 : ((rawQ a0).l1.length : Int) = 0) :
    run n 301 [ratV a0] = some (.lit (.bool ((((rawQ a0).l2.length : Int) == 0)))) := by
  have C2_ : (((rawQ a0).l1.length : Int) == 0) = true := by rw [C2]; simp
  have C2_n : (((rawQ a0).l1.length : Int) != 0) = false := by rw [C2]; simp
  unfold run fnP
  simp +decide [Tryz.f301, C1, C2_, C2_n]
theorem rz_f2 {n : Nat} {a0 : Rat} (C1 : (rawQ a0).s = false) (C2 : ¬ ((rawQ a0).l1.length : Int) = 0) :
    run n 301 [ratV a0] = some (.lit (.bool false)) := by
  have C2_ : (((rawQ a0).l1.length : Int) == 0) = false := by simpa using C2
  have C2_n : (((rawQ a0).l1.length : Int) != 0) = true := by simpa using C2
  unfold run fnP
  simp +decide [Tryz.f301, C1, C2_, C2_n]
theorem rz_f3 {n : Nat} {a0 : Rat} (C1 : (rawQ a0).s = true) :
    run n 301 [ratV a0] = some (.lit (.bool false)) := by
  unfold run fnP
  simp +decide [Tryz.f301, C1]
/-! rows.fits, level 1 -/
theorem rfi_f1 {n : Nat} {a0 : TQuery} {a1 : TDecision} {r : Bool} (C1 : a1.Kind = 1) (C2 : 0 ≤ a1.Index) (C3 : a1.Index < (a0.Graph.Units.length : Int)) (K4 : run n 301 [ratV a1.At] = some (.lit (.bool r))) :
    run (n + 1) 272 [queryV a0, decisionV a1] = some (.lit (.bool r)) := by
  have C1_ : (a1.Kind == 1) = true := by rw [C1]; simp
  have C1_n : (a1.Kind != 1) = false := by rw [C1]; simp
  simp only [ratV] at K4
  unfold run fnP
  simp +decide [Tryz.f272, C1_, C1_n, C2, C3, K4]
theorem rfi_f2 {n : Nat} {a0 : TQuery} {a1 : TDecision} (C1 : a1.Kind = 1) (C2 : 0 ≤ a1.Index) (C3 : ¬ a1.Index < (a0.Graph.Units.length : Int)) :
    run (n + 1) 272 [queryV a0, decisionV a1] = some (.lit (.bool false)) := by
  have C1_ : (a1.Kind == 1) = true := by rw [C1]; simp
  have C1_n : (a1.Kind != 1) = false := by rw [C1]; simp
  unfold run fnP
  simp +decide [Tryz.f272, C1_, C1_n, C2, C3]
theorem rfi_f3 {n : Nat} {a0 : TQuery} {a1 : TDecision} (C1 : a1.Kind = 1) (C2 : ¬ 0 ≤ a1.Index) :
    run (n + 1) 272 [queryV a0, decisionV a1] = some (.lit (.bool false)) := by
  have C1_ : (a1.Kind == 1) = true := by rw [C1]; simp
  have C1_n : (a1.Kind != 1) = false := by rw [C1]; simp
  unfold run fnP
  simp +decide [Tryz.f272, C1_, C1_n, C2]
theorem rfi_f4 {n : Nat} {a0 : TQuery} {a1 : TDecision} {r2 : Bool} (C1 : ¬ a1.Kind = 1) (C2 : a1.Kind = 2) (C3 : 0 ≤ a1.Index) (C4 : a1.Index < (a0.Graph.Units.length : Int)) (K5 : run n 301 [ratV a1.At] = some (.lit (.bool r2))) :
    run (n + 1) 272 [queryV a0, decisionV a1] = some (.lit (.bool r2)) := by
  have C1_ : (a1.Kind == 1) = false := by simpa using C1
  have C1_n : (a1.Kind != 1) = true := by simpa using C1
  have C2_ : (a1.Kind == 2) = true := by rw [C2]; simp
  have C2_n : (a1.Kind != 2) = false := by rw [C2]; simp
  simp only [ratV] at K5
  unfold run fnP
  simp +decide [Tryz.f272, C1_, C1_n, C2_, C2_n, C3, C4, K5]
theorem rfi_f5 {n : Nat} {a0 : TQuery} {a1 : TDecision} (C1 : ¬ a1.Kind = 1) (C2 : a1.Kind = 2) (C3 : 0 ≤ a1.Index) (C4 : ¬ a1.Index < (a0.Graph.Units.length : Int)) :
    run (n + 1) 272 [queryV a0, decisionV a1] = some (.lit (.bool false)) := by
  have C1_ : (a1.Kind == 1) = false := by simpa using C1
  have C1_n : (a1.Kind != 1) = true := by simpa using C1
  have C2_ : (a1.Kind == 2) = true := by rw [C2]; simp
  have C2_n : (a1.Kind != 2) = false := by rw [C2]; simp
  unfold run fnP
  simp +decide [Tryz.f272, C1_, C1_n, C2_, C2_n, C3, C4]
theorem rfi_f6 {n : Nat} {a0 : TQuery} {a1 : TDecision} (C1 : ¬ a1.Kind = 1) (C2 : a1.Kind = 2) (C3 : ¬ 0 ≤ a1.Index) :
    run (n + 1) 272 [queryV a0, decisionV a1] = some (.lit (.bool false)) := by
  have C1_ : (a1.Kind == 1) = false := by simpa using C1
  have C1_n : (a1.Kind != 1) = true := by simpa using C1
  have C2_ : (a1.Kind == 2) = true := by rw [C2]; simp
  have C2_n : (a1.Kind != 2) = false := by rw [C2]; simp
  unfold run fnP
  simp +decide [Tryz.f272, C1_, C1_n, C2_, C2_n, C3]
theorem rfi_f7 {n : Nat} {a0 : TQuery} {a1 : TDecision} (C1 : ¬ a1.Kind = 1) (C2 : ¬ a1.Kind = 2) (C3 : a1.Kind = 3) (C4 : 0 ≤ a1.Index) (C5 : a1.Index < a0.Graph.Inputs) (B6a : H a1.At ≤ 17179869184) :
    run (n + 1) 272 [queryV a0, decisionV a1] = some (.lit (.bool true)) := by
  have C1_ : (a1.Kind == 1) = false := by simpa using C1
  have C1_n : (a1.Kind != 1) = true := by simpa using C1
  have C2_ : (a1.Kind == 2) = false := by simpa using C2
  have C2_n : (a1.Kind != 2) = true := by simpa using C2
  have C3_ : (a1.Kind == 3) = true := by rw [C3]; simp
  have C3_n : (a1.Kind != 3) = false := by rw [C3]; simp
  have K6 := r_valid (p := a1.At) B6a
  unfold run fnP
  simp +decide [Tryz.f272, C1_, C1_n, C2_, C2_n, C3_, C3_n, C4, C5, K6]
theorem rfi_f8 {n : Nat} {a0 : TQuery} {a1 : TDecision} (C1 : ¬ a1.Kind = 1) (C2 : ¬ a1.Kind = 2) (C3 : a1.Kind = 3) (C4 : 0 ≤ a1.Index) (C5 : ¬ a1.Index < a0.Graph.Inputs) :
    run (n + 1) 272 [queryV a0, decisionV a1] = some (.lit (.bool false)) := by
  have C1_ : (a1.Kind == 1) = false := by simpa using C1
  have C1_n : (a1.Kind != 1) = true := by simpa using C1
  have C2_ : (a1.Kind == 2) = false := by simpa using C2
  have C2_n : (a1.Kind != 2) = true := by simpa using C2
  have C3_ : (a1.Kind == 3) = true := by rw [C3]; simp
  have C3_n : (a1.Kind != 3) = false := by rw [C3]; simp
  unfold run fnP
  simp +decide [Tryz.f272, C1_, C1_n, C2_, C2_n, C3_, C3_n, C4, C5]
theorem rfi_f9 {n : Nat} {a0 : TQuery} {a1 : TDecision} (C1 : ¬ a1.Kind = 1) (C2 : ¬ a1.Kind = 2) (C3 : a1.Kind = 3) (C4 : ¬ 0 ≤ a1.Index) :
    run (n + 1) 272 [queryV a0, decisionV a1] = some (.lit (.bool false)) := by
  have C1_ : (a1.Kind == 1) = false := by simpa using C1
  have C1_n : (a1.Kind != 1) = true := by simpa using C1
  have C2_ : (a1.Kind == 2) = false := by simpa using C2
  have C2_n : (a1.Kind != 2) = true := by simpa using C2
  have C3_ : (a1.Kind == 3) = true := by rw [C3]; simp
  have C3_n : (a1.Kind != 3) = false := by rw [C3]; simp
  unfold run fnP
  simp +decide [Tryz.f272, C1_, C1_n, C2_, C2_n, C3_, C3_n, C4]
theorem rfi_f10 {n : Nat} {a0 : TQuery} {a1 : TDecision} (C1 : ¬ a1.Kind = 1) (C2 : ¬ a1.Kind = 2) (C3 : ¬ a1.Kind = 3) (C4 : a1.Kind = 4) (C5 : 0 ≤ a1.Index) (C6 : a1.Index < a0.Graph.Inputs) (B7a : H a1.At ≤ 17179869184) :
    run (n + 1) 272 [queryV a0, decisionV a1] = some (.lit (.bool true)) := by
  have C1_ : (a1.Kind == 1) = false := by simpa using C1
  have C1_n : (a1.Kind != 1) = true := by simpa using C1
  have C2_ : (a1.Kind == 2) = false := by simpa using C2
  have C2_n : (a1.Kind != 2) = true := by simpa using C2
  have C3_ : (a1.Kind == 3) = false := by simpa using C3
  have C3_n : (a1.Kind != 3) = true := by simpa using C3
  have C4_ : (a1.Kind == 4) = true := by rw [C4]; simp
  have C4_n : (a1.Kind != 4) = false := by rw [C4]; simp
  have K7 := r_valid (p := a1.At) B7a
  unfold run fnP
  simp +decide [Tryz.f272, C1_, C1_n, C2_, C2_n, C3_, C3_n, C4_, C4_n, C5, C6, K7]
theorem rfi_f11 {n : Nat} {a0 : TQuery} {a1 : TDecision} (C1 : ¬ a1.Kind = 1) (C2 : ¬ a1.Kind = 2) (C3 : ¬ a1.Kind = 3) (C4 : a1.Kind = 4) (C5 : 0 ≤ a1.Index) (C6 : ¬ a1.Index < a0.Graph.Inputs) :
    run (n + 1) 272 [queryV a0, decisionV a1] = some (.lit (.bool false)) := by
  have C1_ : (a1.Kind == 1) = false := by simpa using C1
  have C1_n : (a1.Kind != 1) = true := by simpa using C1
  have C2_ : (a1.Kind == 2) = false := by simpa using C2
  have C2_n : (a1.Kind != 2) = true := by simpa using C2
  have C3_ : (a1.Kind == 3) = false := by simpa using C3
  have C3_n : (a1.Kind != 3) = true := by simpa using C3
  have C4_ : (a1.Kind == 4) = true := by rw [C4]; simp
  have C4_n : (a1.Kind != 4) = false := by rw [C4]; simp
  unfold run fnP
  simp +decide [Tryz.f272, C1_, C1_n, C2_, C2_n, C3_, C3_n, C4_, C4_n, C5, C6]
theorem rfi_f12 {n : Nat} {a0 : TQuery} {a1 : TDecision} (C1 : ¬ a1.Kind = 1) (C2 : ¬ a1.Kind = 2) (C3 : ¬ a1.Kind = 3) (C4 : a1.Kind = 4) (C5 : ¬ 0 ≤ a1.Index) :
    run (n + 1) 272 [queryV a0, decisionV a1] = some (.lit (.bool false)) := by
  have C1_ : (a1.Kind == 1) = false := by simpa using C1
  have C1_n : (a1.Kind != 1) = true := by simpa using C1
  have C2_ : (a1.Kind == 2) = false := by simpa using C2
  have C2_n : (a1.Kind != 2) = true := by simpa using C2
  have C3_ : (a1.Kind == 3) = false := by simpa using C3
  have C3_n : (a1.Kind != 3) = true := by simpa using C3
  have C4_ : (a1.Kind == 4) = true := by rw [C4]; simp
  have C4_n : (a1.Kind != 4) = false := by rw [C4]; simp
  unfold run fnP
  simp +decide [Tryz.f272, C1_, C1_n, C2_, C2_n, C3_, C3_n, C4_, C4_n, C5]
theorem rfi_f13 {n : Nat} {a0 : TQuery} {a1 : TDecision} (C1 : ¬ a1.Kind = 1) (C2 : ¬ a1.Kind = 2) (C3 : ¬ a1.Kind = 3) (C4 : ¬ a1.Kind = 4) :
    run (n + 1) 272 [queryV a0, decisionV a1] = some (.lit (.bool false)) := by
  have C1_ : (a1.Kind == 1) = false := by simpa using C1
  have C1_n : (a1.Kind != 1) = true := by simpa using C1
  have C2_ : (a1.Kind == 2) = false := by simpa using C2
  have C2_n : (a1.Kind != 2) = true := by simpa using C2
  have C3_ : (a1.Kind == 3) = false := by simpa using C3
  have C3_n : (a1.Kind != 3) = true := by simpa using C3
  have C4_ : (a1.Kind == 4) = false := by simpa using C4
  have C4_n : (a1.Kind != 4) = true := by simpa using C4
  unfold run fnP
  simp +decide [Tryz.f272, C1_, C1_n, C2_, C2_n, C3_, C3_n, C4_, C4_n]
/-! rows.decided$1, level 2 -/
theorem rdc_f1 {n : Nat} {a0 : TDecision} {c0 : Int} {c1 : Int} {c2 : TScope} {r : Bool} (C1 : a0.Kind = c0) (C2 : a0.Index = c1) (K3 : run (n + 1) 272 [queryV c2.Query, decisionV a0] = some (.lit (.bool r))) :
    run (n + 2) 271 [decisionV a0, .mem [.lit (.int .i64 c0)], .mem [.lit (.int .i64 c1)], .mem (scopeC c2)] = some (.lit (.bool r)) := by
  have C1_ : (a0.Kind == c0) = true := by rw [C1]; simp
  have C1_n : (a0.Kind != c0) = false := by rw [C1]; simp
  have C2_ : (a0.Index == c1) = true := by rw [C2]; simp
  have C2_n : (a0.Index != c1) = false := by rw [C2]; simp
  simp only [queryV, decisionV] at K3
  unfold run fnP
  simp +decide [Tryz.f271, C1_, C1_n, C2_, C2_n, K3]
theorem rdc_f2 {n : Nat} {a0 : TDecision} {c0 : Int} {c1 : Int} {c2 : TScope} (C1 : a0.Kind = c0) (C2 : ¬ a0.Index = c1) :
    run (n + 2) 271 [decisionV a0, .mem [.lit (.int .i64 c0)], .mem [.lit (.int .i64 c1)], .mem (scopeC c2)] = some (.lit (.bool false)) := by
  have C1_ : (a0.Kind == c0) = true := by rw [C1]; simp
  have C1_n : (a0.Kind != c0) = false := by rw [C1]; simp
  have C2_ : (a0.Index == c1) = false := by simpa using C2
  have C2_n : (a0.Index != c1) = true := by simpa using C2
  unfold run fnP
  simp +decide [Tryz.f271, C1_, C1_n, C2_, C2_n]
theorem rdc_f3 {n : Nat} {a0 : TDecision} {c0 : Int} {c1 : Int} {c2 : TScope} (C1 : ¬ a0.Kind = c0) :
    run (n + 2) 271 [decisionV a0, .mem [.lit (.int .i64 c0)], .mem [.lit (.int .i64 c1)], .mem (scopeC c2)] = some (.lit (.bool false)) := by
  have C1_ : (a0.Kind == c0) = false := by simpa using C1
  have C1_n : (a0.Kind != c0) = true := by simpa using C1
  unfold run fnP
  simp +decide [Tryz.f271, C1_, C1_n]
/-! slices.IndexFunc[[]api.Decision,api.Decision], level 3 -/
noncomputable def ifd_C2 : Code := (loopsOf (bodyOf Tryz.f220)).getD 0 .skip
def ifd_h2 (a0 : List TDecision) (c0 : Int) (c1 : Int) (c2 : TScope) (i_2 : Nat) : St :=
  ⟨[(0, .sl 5 (a0.map decisionC)), (1, .clo 271 [.mem [.lit (.int .i64 c0)], .mem [.lit (.int .i64 c1)], .mem (scopeC c2)]), (7, .lit (.int .i64 (a0.length : Int))), (8, .lit (.int .i64 (i_2 : Int)))],
   [], 0⟩
def ifd_o2a (i_2 : Nat) : St :=
  ⟨[(4, .lit (.int .i64 (i_2 : Int)))],
   [], 0⟩
def ifd_o2b  : St :=
  ⟨[(4, .any)],
   [], 0⟩
theorem ifd_r2_1 {n : Nat} {a0 : List TDecision} {c0 : Int} {c1 : Int} {c2 : TScope} {i_2 : Nat} {x3 : TDecision} {r3 : Bool} (C1 : (i_2 : Int) < (a0.length : Int)) (E2 : a0[i_2]? = some x3) (K3 : run (n + 2) 271 [decisionV x3, .mem [.lit (.int .i64 c0)], .mem [.lit (.int .i64 c1)], .mem (scopeC c2)] = some (.lit (.bool r3))) (C4 : r3 = false) (W5 : InI ((i_2 : Int) + 1)) :
    Cont 0 (exec Tryz.prog (tab (n + 3)) 0 19 (livesOf 220) big ifd_C2) (livesOf 220 2) (ifd_h2 a0 c0 c1 c2 i_2) (ifd_h2 a0 c0 c1 c2 (i_2 + 1)) := by
  have C1_ : i_2 < a0.length := by omega
  obtain ⟨EL2, EG2⟩ := List.getElem?_eq_some_iff.1 E2
  simp only [decisionV, scopeC] at K3
  have W5_ : IntKind.i64.wrap ((i_2 : Int) + 1) = (i_2 : Int) + 1 := wr64 W5.1 W5.2
  unfold Cont
  simp +decide [ifd_h2, loopsOf, Tryz.f220, ifd_C2, C1, C1_, EL2, EG2, E2, K3, C4, W5_]
theorem ifd_x2_1 {n : Nat} {a0 : List TDecision} {c0 : Int} {c1 : Int} {c2 : TScope} {i_2 : Nat} {x3 : TDecision} {r3 : Bool} (C1 : (i_2 : Int) < (a0.length : Int)) (E2 : a0[i_2]? = some x3) (K3 : run (n + 2) 271 [decisionV x3, .mem [.lit (.int .i64 c0)], .mem [.lit (.int .i64 c1)], .mem (scopeC c2)] = some (.lit (.bool r3))) (C4 : r3 = true) :
    Leave 0 (exec Tryz.prog (tab (n + 3)) 0 19 (livesOf 220) big ifd_C2) (livesOf 220 (outOf 2)) (ifd_h2 a0 c0 c1 c2 i_2) (.ret) (ifd_o2a i_2) := by
  have C1_ : i_2 < a0.length := by omega
  obtain ⟨EL2, EG2⟩ := List.getElem?_eq_some_iff.1 E2
  simp only [decisionV, scopeC] at K3
  unfold Leave
  simp +decide [ifd_h2, loopsOf, Tryz.f220, ifd_o2a, ifd_C2, C1, C1_, EL2, EG2, E2, K3, C4]
theorem ifd_x2_2 {n : Nat} {a0 : List TDecision} {c0 : Int} {c1 : Int} {c2 : TScope} {i_2 : Nat} (C1 : ¬ (i_2 : Int) < (a0.length : Int)) :
    Leave 0 (exec Tryz.prog (tab (n + 3)) 0 19 (livesOf 220) big ifd_C2) (livesOf 220 (outOf 2)) (ifd_h2 a0 c0 c1 c2 i_2) (.exit 0) (ifd_o2b ) := by
  have C1_ : ¬ i_2 < a0.length := by omega
  unfold Leave
  simp +decide [ifd_h2, loopsOf, Tryz.f220, ifd_o2b, ifd_C2, C1, C1_]
theorem ifd_f1 {n : Nat} {a0 : List TDecision} {c0 : Int} {c1 : Int} {c2 : TScope} {i_2 : Nat} (L1 : loopG Tryz.prog (tab (n + 3)) 0 19 (livesOf 220) 2 ifd_C2 (ifd_h2 a0 c0 c1 c2 0) = some (.ret, ifd_o2a i_2)) :
    run (n + 3) 220 [.sl 5 (a0.map decisionC), .clo 271 [.mem [.lit (.int .i64 c0)], .mem [.lit (.int .i64 c1)], .mem (scopeC c2)]] = some (.lit (.int .i64 (i_2 : Int))) := by
  unfold run fnP
  simp +decide [Tryz.f220]
  rw [loopX_G (C' := ifd_C2) (e := (ifd_h2 a0 c0 c1 c2 0)) ?_ ?_, L1]
  rotate_left
  · kernel_rfl
  · simp +decide [ifd_h2]
  simp +decide [ifd_o2a]
theorem ifd_f2 {n : Nat} {a0 : List TDecision} {c0 : Int} {c1 : Int} {c2 : TScope} (L1 : loopG Tryz.prog (tab (n + 3)) 0 19 (livesOf 220) 2 ifd_C2 (ifd_h2 a0 c0 c1 c2 0) = some (.exit 0, ifd_o2b )) :
    run (n + 3) 220 [.sl 5 (a0.map decisionC), .clo 271 [.mem [.lit (.int .i64 c0)], .mem [.lit (.int .i64 c1)], .mem (scopeC c2)]] = some (.lit (.int .i64 (-1))) := by
  unfold run fnP
  simp +decide [Tryz.f220]
  rw [loopX_G (C' := ifd_C2) (e := (ifd_h2 a0 c0 c1 c2 0)) ?_ ?_, L1]
  rotate_left
  · kernel_rfl
  · simp +decide [ifd_h2]
  simp +decide [ifd_o2b]
/-! slices.ContainsFunc[[]api.Decision,api.Decision], level 4 -/
theorem cfd_f1 {n : Nat} {a0 : List TDecision} {c0 : Int} {c1 : Int} {c2 : TScope} {r : Int} (K1 : run (n + 3) 220 [.sl 5 (a0.map decisionC), .clo 271 [.mem [.lit (.int .i64 c0)], .mem [.lit (.int .i64 c1)], .mem (scopeC c2)]] = some (.lit (.int .i64 r))) :
    run (n + 4) 142 [.sl 5 (a0.map decisionC), .clo 271 [.mem [.lit (.int .i64 c0)], .mem [.lit (.int .i64 c1)], .mem (scopeC c2)]] = some (.lit (.bool (decide (0 ≤ r)))) := by
  simp only [scopeC] at K1
  unfold run fnP
  simp +decide [Tryz.f142, K1]
/-! rows.decided, level 5 -/
theorem rde_f1 {n : Nat} {a0 : TScope} {a1 : Int} {a2 : Int} {r : Bool} (K1 : run (n + 4) 142 [.sl 5 (a0.Path.map decisionC), .clo 271 [.mem [.lit (.int .i64 a1)], .mem [.lit (.int .i64 a2)], .mem (scopeC a0)]] = some (.lit (.bool r))) :
    run (n + 5) 224 [scopeV a0, .lit (.int .i64 a1), .lit (.int .i64 a2)] = some (.lit (.bool r)) := by
  simp only [scopeC] at K1
  unfold run fnP
  simp +decide [Tryz.f224, K1]
end Go.Proofs.YtkakmdadnhjphaaGreatDoor
set_option linter.all false
set_option maxRecDepth 100000
set_option maxHeartbeats 6400000
namespace Go.Proofs.YtkakmdadnhjphaaGreatDoor
open Go.RowKit

/-! rows.Best, level 0 -/
noncomputable def rB_C3 : Code := (loopsOf (bodyOf Tryz.f150)).getD 0 .skip
def rB_h3 (a0 : TScope) (a1 : Int) (i_3 : Int) (i2_3 : Int) (i3_3 : Nat) : St :=
  ⟨[(1, .lit (.int .i64 a1)), (2, .ptr 0 0), (6, .lit (.int .i64 i_3)), (7, .lit (.int .i64 i2_3)), (11, .sl 6 (a0.Lemmas.map lemmaC)), (12, .lit (.int .i64 (a0.Lemmas.length : Int))), (13, .lit (.int .i64 (i3_3 : Int)))],
   [(0, some (.box 48 [.lit (.int .i64 (a0.Query.Graph.Inputs)), .sl 4 (a0.Query.Graph.Units.map formC), .sl 4 (a0.Query.Graph.Outputs.map formC), .sl 3 (a0.Query.Region.Lo.map ratC), .sl 3 (a0.Query.Region.Hi.map ratC), .sl 4 (a0.Query.Region.Rows.map formC), .sl 4 (a0.Query.Goal.1.map termC), .lit (.bool (rawQ a0.Query.Goal.2).s), natA (rawQ a0.Query.Goal.2).l1, natA (rawQ a0.Query.Goal.2).l2, .sl 5 (a0.Path.map decisionC), .sl 6 (a0.Lemmas.map lemmaC)] false))], 1⟩
def rB_o3a (i_3 : Int) (i2_3 : Int) : St :=
  ⟨[(6, .lit (.int .i64 i_3)), (7, .lit (.int .i64 i2_3))],
   [], 0⟩
theorem rB_r3_1 {n : Nat} {a0 : TScope} {a1 : Int} {i3_3 : Nat} {x5 : TLemma} {i_3 : Int} {i2_3 : Int} (C1 : (i3_3 : Int) < (a0.Lemmas.length : Int)) (E2 : a0.Lemmas[i3_3]? = some x5) (C3 : ¬ x5.Unit = a1) (W4 : InI ((i3_3 : Int) + 1)) :
    Cont 0 (exec Tryz.prog (tab n) 0 61 (livesOf 150) big rB_C3) (livesOf 150 3) (rB_h3 a0 a1 i_3 i2_3 i3_3) (rB_h3 a0 a1 i_3 i2_3 (i3_3 + 1)) := by
  have C1_ : i3_3 < a0.Lemmas.length := by omega
  obtain ⟨EL2, EG2⟩ := List.getElem?_eq_some_iff.1 E2
  have C3_ : (x5.Unit == a1) = false := by simpa using C3
  have C3_n : (x5.Unit != a1) = true := by simpa using C3
  have W4_ : IntKind.i64.wrap ((i3_3 : Int) + 1) = (i3_3 : Int) + 1 := wr64 W4.1 W4.2
  unfold Cont
  simp +decide [rB_h3, loopsOf, Tryz.f150, rB_C3, C1, C1_, EL2, EG2, E2, C3_, C3_n, W4_]
theorem rB_r3_2 {n : Nat} {a0 : TScope} {a1 : Int} {i3_3 : Nat} {x5 : TLemma} {i2_3 : Int} {i_3 : Int} (C1 : (i3_3 : Int) < (a0.Lemmas.length : Int)) (E2 : a0.Lemmas[i3_3]? = some x5) (C3 : x5.Unit = a1) (C4 : x5.Upper = true) (C5 : i2_3 = 0) (W6 : InI ((i3_3 : Int) + 1)) :
    Cont 0 (exec Tryz.prog (tab n) 0 61 (livesOf 150) big rB_C3) (livesOf 150 3) (rB_h3 a0 a1 i_3 i2_3 i3_3) (rB_h3 a0 a1 i_3 ((i3_3 : Int) + 1) (i3_3 + 1)) := by
  have C1_ : i3_3 < a0.Lemmas.length := by omega
  obtain ⟨EL2, EG2⟩ := List.getElem?_eq_some_iff.1 E2
  have C3_ : (x5.Unit == a1) = true := by rw [C3]; simp
  have C3_n : (x5.Unit != a1) = false := by rw [C3]; simp
  have C5_ : (i2_3 == 0) = true := by rw [C5]; simp
  have C5_n : (i2_3 != 0) = false := by rw [C5]; simp
  have W6_ : IntKind.i64.wrap ((i3_3 : Int) + 1) = (i3_3 : Int) + 1 := wr64 W6.1 W6.2
  unfold Cont
  simp +decide [rB_h3, loopsOf, Tryz.f150, rB_C3, C1, C1_, EL2, EG2, E2, C3_, C3_n, C4, C5_, C5_n, W6_]
theorem rB_r3_3 {n : Nat} {a0 : TScope} {a1 : Int} {i3_3 : Nat} {x5 : TLemma} {i2_3 : Int} {x6 : TLemma} {i_3 : Int} (C1 : (i3_3 : Int) < (a0.Lemmas.length : Int)) (E2 : a0.Lemmas[i3_3]? = some x5) (C3 : x5.Unit = a1) (C4 : x5.Upper = true) (C5 : ¬ i2_3 = 0) (W6 : InI (i2_3 - 1)) (E7 : a0.Lemmas[i2_3.toNat - 1]? = some x6) (Z7 : 0 ≤ i2_3 - 1) (B8a : RawB x5.Value) (B8b : RawB x6.Value) (C9 : sgR (x5.Value.q - x6.Value.q) < 0) (W10 : InI ((i3_3 : Int) + 1)) :
    Cont 0 (exec Tryz.prog (tab n) 0 61 (livesOf 150) big rB_C3) (livesOf 150 3) (rB_h3 a0 a1 i_3 i2_3 i3_3) (rB_h3 a0 a1 i_3 ((i3_3 : Int) + 1) (i3_3 + 1)) := by
  have C1_ : i3_3 < a0.Lemmas.length := by omega
  obtain ⟨EL2, EG2⟩ := List.getElem?_eq_some_iff.1 E2
  have C3_ : (x5.Unit == a1) = true := by rw [C3]; simp
  have C3_n : (x5.Unit != a1) = false := by rw [C3]; simp
  have C5_ : (i2_3 == 0) = false := by simpa using C5
  have C5_n : (i2_3 != 0) = true := by simpa using C5
  have W6_ : IntKind.i64.wrap (i2_3 - 1) = i2_3 - 1 := wr64 W6.1 W6.2
  obtain ⟨EL7, EG7⟩ := List.getElem?_eq_some_iff.1 E7
  have Z7_0 : 1 ≤ i2_3 := by omega
  have K8 := rr_cmp B8a B8b
  have W10_ : IntKind.i64.wrap ((i3_3 : Int) + 1) = (i3_3 : Int) + 1 := wr64 W10.1 W10.2
  unfold Cont
  simp +decide [rB_h3, loopsOf, Tryz.f150, rB_C3, C1, C1_, EL2, EG2, E2, C3_, C3_n, C4, C5_, C5_n, W6_, EL7, EG7, E7, Z7, Z7_0, K8, C9, W10_]
theorem rB_r3_4 {n : Nat} {a0 : TScope} {a1 : Int} {i3_3 : Nat} {x5 : TLemma} {i2_3 : Int} {x6 : TLemma} {i_3 : Int} (C1 : (i3_3 : Int) < (a0.Lemmas.length : Int)) (E2 : a0.Lemmas[i3_3]? = some x5) (C3 : x5.Unit = a1) (C4 : x5.Upper = true) (C5 : ¬ i2_3 = 0) (W6 : InI (i2_3 - 1)) (E7 : a0.Lemmas[i2_3.toNat - 1]? = some x6) (Z7 : 0 ≤ i2_3 - 1) (B8a : RawB x5.Value) (B8b : RawB x6.Value) (C9 : ¬ sgR (x5.Value.q - x6.Value.q) < 0) (W10 : InI ((i3_3 : Int) + 1)) :
    Cont 0 (exec Tryz.prog (tab n) 0 61 (livesOf 150) big rB_C3) (livesOf 150 3) (rB_h3 a0 a1 i_3 i2_3 i3_3) (rB_h3 a0 a1 i_3 i2_3 (i3_3 + 1)) := by
  have C1_ : i3_3 < a0.Lemmas.length := by omega
  obtain ⟨EL2, EG2⟩ := List.getElem?_eq_some_iff.1 E2
  have C3_ : (x5.Unit == a1) = true := by rw [C3]; simp
  have C3_n : (x5.Unit != a1) = false := by rw [C3]; simp
  have C5_ : (i2_3 == 0) = false := by simpa using C5
  have C5_n : (i2_3 != 0) = true := by simpa using C5
  have W6_ : IntKind.i64.wrap (i2_3 - 1) = i2_3 - 1 := wr64 W6.1 W6.2
  obtain ⟨EL7, EG7⟩ := List.getElem?_eq_some_iff.1 E7
  have Z7_0 : 1 ≤ i2_3 := by omega
  have K8 := rr_cmp B8a B8b
  have W10_ : IntKind.i64.wrap ((i3_3 : Int) + 1) = (i3_3 : Int) + 1 := wr64 W10.1 W10.2
  unfold Cont
  simp +decide [rB_h3, loopsOf, Tryz.f150, rB_C3, C1, C1_, EL2, EG2, E2, C3_, C3_n, C4, C5_, C5_n, W6_, EL7, EG7, E7, Z7, Z7_0, K8, C9, W10_]
theorem rB_r3_5 {n : Nat} {a0 : TScope} {a1 : Int} {i3_3 : Nat} {x5 : TLemma} {i_3 : Int} {i2_3 : Int} (C1 : (i3_3 : Int) < (a0.Lemmas.length : Int)) (E2 : a0.Lemmas[i3_3]? = some x5) (C3 : x5.Unit = a1) (C4 : x5.Upper = false) (C5 : i_3 = 0) (W6 : InI ((i3_3 : Int) + 1)) :
    Cont 0 (exec Tryz.prog (tab n) 0 61 (livesOf 150) big rB_C3) (livesOf 150 3) (rB_h3 a0 a1 i_3 i2_3 i3_3) (rB_h3 a0 a1 ((i3_3 : Int) + 1) i2_3 (i3_3 + 1)) := by
  have C1_ : i3_3 < a0.Lemmas.length := by omega
  obtain ⟨EL2, EG2⟩ := List.getElem?_eq_some_iff.1 E2
  have C3_ : (x5.Unit == a1) = true := by rw [C3]; simp
  have C3_n : (x5.Unit != a1) = false := by rw [C3]; simp
  have C5_ : (i_3 == 0) = true := by rw [C5]; simp
  have C5_n : (i_3 != 0) = false := by rw [C5]; simp
  have W6_ : IntKind.i64.wrap ((i3_3 : Int) + 1) = (i3_3 : Int) + 1 := wr64 W6.1 W6.2
  unfold Cont
  simp +decide [rB_h3, loopsOf, Tryz.f150, rB_C3, C1, C1_, EL2, EG2, E2, C3_, C3_n, C4, C5_, C5_n, W6_]
theorem rB_r3_6 {n : Nat} {a0 : TScope} {a1 : Int} {i3_3 : Nat} {x5 : TLemma} {i_3 : Int} {x7 : TLemma} {i2_3 : Int} (C1 : (i3_3 : Int) < (a0.Lemmas.length : Int)) (E2 : a0.Lemmas[i3_3]? = some x5) (C3 : x5.Unit = a1) (C4 : x5.Upper = false) (C5 : ¬ i_3 = 0) (W6 : InI (i_3 - 1)) (E7 : a0.Lemmas[i_3.toNat - 1]? = some x7) (Z7 : 0 ≤ i_3 - 1) (B8a : RawB x5.Value) (B8b : RawB x7.Value) (C9 : 0 < sgR (x5.Value.q - x7.Value.q)) (W10 : InI ((i3_3 : Int) + 1)) :
    Cont 0 (exec Tryz.prog (tab n) 0 61 (livesOf 150) big rB_C3) (livesOf 150 3) (rB_h3 a0 a1 i_3 i2_3 i3_3) (rB_h3 a0 a1 ((i3_3 : Int) + 1) i2_3 (i3_3 + 1)) := by
  have C1_ : i3_3 < a0.Lemmas.length := by omega
  obtain ⟨EL2, EG2⟩ := List.getElem?_eq_some_iff.1 E2
  have C3_ : (x5.Unit == a1) = true := by rw [C3]; simp
  have C3_n : (x5.Unit != a1) = false := by rw [C3]; simp
  have C5_ : (i_3 == 0) = false := by simpa using C5
  have C5_n : (i_3 != 0) = true := by simpa using C5
  have W6_ : IntKind.i64.wrap (i_3 - 1) = i_3 - 1 := wr64 W6.1 W6.2
  obtain ⟨EL7, EG7⟩ := List.getElem?_eq_some_iff.1 E7
  have Z7_0 : 1 ≤ i_3 := by omega
  have K8 := rr_cmp B8a B8b
  have W10_ : IntKind.i64.wrap ((i3_3 : Int) + 1) = (i3_3 : Int) + 1 := wr64 W10.1 W10.2
  unfold Cont
  simp +decide [rB_h3, loopsOf, Tryz.f150, rB_C3, C1, C1_, EL2, EG2, E2, C3_, C3_n, C4, C5_, C5_n, W6_, EL7, EG7, E7, Z7, Z7_0, K8, C9, W10_]
theorem rB_r3_7 {n : Nat} {a0 : TScope} {a1 : Int} {i3_3 : Nat} {x5 : TLemma} {i_3 : Int} {x7 : TLemma} {i2_3 : Int} (C1 : (i3_3 : Int) < (a0.Lemmas.length : Int)) (E2 : a0.Lemmas[i3_3]? = some x5) (C3 : x5.Unit = a1) (C4 : x5.Upper = false) (C5 : ¬ i_3 = 0) (W6 : InI (i_3 - 1)) (E7 : a0.Lemmas[i_3.toNat - 1]? = some x7) (Z7 : 0 ≤ i_3 - 1) (B8a : RawB x5.Value) (B8b : RawB x7.Value) (C9 : ¬ 0 < sgR (x5.Value.q - x7.Value.q)) (W10 : InI ((i3_3 : Int) + 1)) :
    Cont 0 (exec Tryz.prog (tab n) 0 61 (livesOf 150) big rB_C3) (livesOf 150 3) (rB_h3 a0 a1 i_3 i2_3 i3_3) (rB_h3 a0 a1 i_3 i2_3 (i3_3 + 1)) := by
  have C1_ : i3_3 < a0.Lemmas.length := by omega
  obtain ⟨EL2, EG2⟩ := List.getElem?_eq_some_iff.1 E2
  have C3_ : (x5.Unit == a1) = true := by rw [C3]; simp
  have C3_n : (x5.Unit != a1) = false := by rw [C3]; simp
  have C5_ : (i_3 == 0) = false := by simpa using C5
  have C5_n : (i_3 != 0) = true := by simpa using C5
  have W6_ : IntKind.i64.wrap (i_3 - 1) = i_3 - 1 := wr64 W6.1 W6.2
  obtain ⟨EL7, EG7⟩ := List.getElem?_eq_some_iff.1 E7
  have Z7_0 : 1 ≤ i_3 := by omega
  have K8 := rr_cmp B8a B8b
  have W10_ : IntKind.i64.wrap ((i3_3 : Int) + 1) = (i3_3 : Int) + 1 := wr64 W10.1 W10.2
  unfold Cont
  simp +decide [rB_h3, loopsOf, Tryz.f150, rB_C3, C1, C1_, EL2, EG2, E2, C3_, C3_n, C4, C5_, C5_n, W6_, EL7, EG7, E7, Z7, Z7_0, K8, C9, W10_]
theorem rB_x3_1 {n : Nat} {a0 : TScope} {a1 : Int} {i3_3 : Nat} {i_3 : Int} {i2_3 : Int} (C1 : ¬ (i3_3 : Int) < (a0.Lemmas.length : Int)) :
    Leave 0 (exec Tryz.prog (tab n) 0 61 (livesOf 150) big rB_C3) (livesOf 150 (outOf 3)) (rB_h3 a0 a1 i_3 i2_3 i3_3) (.exit 0) (rB_o3a i_3 i2_3) := by
  have C1_ : ¬ i3_3 < a0.Lemmas.length := by omega
  unfold Leave
  simp +decide [rB_h3, loopsOf, Tryz.f150, rB_o3a, rB_C3, C1, C1_]
theorem rB_f1 {n : Nat} {a0 : TScope} {a1 : Int} {i_3 : Int} {i2_3 : Int} (L1 : loopG Tryz.prog (tab n) 0 61 (livesOf 150) 3 rB_C3 (rB_h3 a0 a1 0 0 0) = some (.exit 0, rB_o3a i_3 i2_3)) :
    run n 150 [scopeV a0, .lit (.int .i64 a1)] = some (.tup [.lit (.int .i64 i_3), .lit (.int .i64 i2_3)]) := by
  unfold run fnP
  simp +decide [Tryz.f150]
  rw [loopX_G (C' := rB_C3) (e := (rB_h3 a0 a1 0 0 0)) ?_ ?_, L1]
  rotate_left
  · kernel_rfl
  · simp +decide [rB_h3]
  simp +decide [rB_o3a]
/-! rows.phases, level 6 -/
theorem rph_f1 {n : Nat} {a0 : TScope} {a1 : Int} {a2 : Int} {a3 : Int} {r : Bool} {r2 : Bool} (K1 : run (n + 5) 224 [scopeV a0, .lit (.int .i64 1), .lit (.int .i64 a1)] = some (.lit (.bool r))) (C2 : r = true) (K3 : run (n + 5) 224 [scopeV a0, .lit (.int .i64 2), .lit (.int .i64 a1)] = some (.lit (.bool r2))) (C4 : r2 = true) :
    run (n + 6) 151 [scopeV a0, .lit (.int .i64 a1), .lit (.int .i64 a2), .lit (.int .i64 a3)] = some (.tup [.lit (.bool true), .lit (.bool true)]) := by
  simp only [scopeV] at K1
  simp only [scopeV] at K3
  unfold run fnP
  simp +decide [Tryz.f151, K1, C2, K3, C4]
theorem rph_f2 {n : Nat} {a0 : TScope} {a1 : Int} {a2 : Int} {a3 : Int} {r : Bool} {r2 : Bool} {x2 : TLemma} (K1 : run (n + 5) 224 [scopeV a0, .lit (.int .i64 1), .lit (.int .i64 a1)] = some (.lit (.bool r))) (C2 : r = true) (K3 : run (n + 5) 224 [scopeV a0, .lit (.int .i64 2), .lit (.int .i64 a1)] = some (.lit (.bool r2))) (C4 : r2 = false) (C5 : 0 < a3) (W6 : InI (a3 - 1)) (E7 : a0.Lemmas[a3.toNat - 1]? = some x2) (Z7 : 0 ≤ a3 - 1) (B8a : RawB x2.Value) :
    run (n + 6) 151 [scopeV a0, .lit (.int .i64 a1), .lit (.int .i64 a2), .lit (.int .i64 a3)] = some (.tup [.lit (.bool true), .lit (.bool (decide (sgR x2.Value.q ≤ 0)))]) := by
  simp only [scopeV] at K1
  simp only [scopeV] at K3
  have W6_ : IntKind.i64.wrap (a3 - 1) = a3 - 1 := wr64 W6.1 W6.2
  obtain ⟨EL7, EG7⟩ := List.getElem?_eq_some_iff.1 E7
  have Z7_0 : 1 ≤ a3 := by omega
  have K8 := rr_sign B8a
  unfold run fnP
  simp +decide [Tryz.f151, K1, C2, K3, C4, C5, W6_, EL7, EG7, E7, Z7, Z7_0, K8]
theorem rph_f3 {n : Nat} {a0 : TScope} {a1 : Int} {a2 : Int} {a3 : Int} {r : Bool} {r2 : Bool} (K1 : run (n + 5) 224 [scopeV a0, .lit (.int .i64 1), .lit (.int .i64 a1)] = some (.lit (.bool r))) (C2 : r = true) (K3 : run (n + 5) 224 [scopeV a0, .lit (.int .i64 2), .lit (.int .i64 a1)] = some (.lit (.bool r2))) (C4 : r2 = false) (C5 : ¬ 0 < a3) :
    run (n + 6) 151 [scopeV a0, .lit (.int .i64 a1), .lit (.int .i64 a2), .lit (.int .i64 a3)] = some (.tup [.lit (.bool true), .lit (.bool false)]) := by
  simp only [scopeV] at K1
  simp only [scopeV] at K3
  unfold run fnP
  simp +decide [Tryz.f151, K1, C2, K3, C4, C5]
theorem rph_f4 {n : Nat} {a0 : TScope} {a1 : Int} {a2 : Int} {a3 : Int} {r : Bool} {x : TLemma} {r3 : Bool} (K1 : run (n + 5) 224 [scopeV a0, .lit (.int .i64 1), .lit (.int .i64 a1)] = some (.lit (.bool r))) (C2 : r = false) (C3 : 0 < a2) (W4 : InI (a2 - 1)) (E5 : a0.Lemmas[a2.toNat - 1]? = some x) (Z5 : 0 ≤ a2 - 1) (B6a : RawB x.Value) (K7 : run (n + 5) 224 [scopeV a0, .lit (.int .i64 2), .lit (.int .i64 a1)] = some (.lit (.bool r3))) (C8 : r3 = true) :
    run (n + 6) 151 [scopeV a0, .lit (.int .i64 a1), .lit (.int .i64 a2), .lit (.int .i64 a3)] = some (.tup [.lit (.bool (decide (0 ≤ sgR x.Value.q))), .lit (.bool true)]) := by
  simp only [scopeV] at K1
  have W4_ : IntKind.i64.wrap (a2 - 1) = a2 - 1 := wr64 W4.1 W4.2
  obtain ⟨EL5, EG5⟩ := List.getElem?_eq_some_iff.1 E5
  have Z5_0 : 1 ≤ a2 := by omega
  have K6 := rr_sign B6a
  simp only [scopeV] at K7
  unfold run fnP
  simp +decide [Tryz.f151, K1, C2, C3, W4_, EL5, EG5, E5, Z5, Z5_0, K6, K7, C8]
theorem rph_f5 {n : Nat} {a0 : TScope} {a1 : Int} {a2 : Int} {a3 : Int} {r : Bool} {x : TLemma} {r3 : Bool} {x3 : TLemma} (K1 : run (n + 5) 224 [scopeV a0, .lit (.int .i64 1), .lit (.int .i64 a1)] = some (.lit (.bool r))) (C2 : r = false) (C3 : 0 < a2) (W4 : InI (a2 - 1)) (E5 : a0.Lemmas[a2.toNat - 1]? = some x) (Z5 : 0 ≤ a2 - 1) (B6a : RawB x.Value) (K7 : run (n + 5) 224 [scopeV a0, .lit (.int .i64 2), .lit (.int .i64 a1)] = some (.lit (.bool r3))) (C8 : r3 = false) (C9 : 0 < a3) (W10 : InI (a3 - 1)) (E11 : a0.Lemmas[a3.toNat - 1]? = some x3) (Z11 : 0 ≤ a3 - 1) (B12a : RawB x3.Value) :
    run (n + 6) 151 [scopeV a0, .lit (.int .i64 a1), .lit (.int .i64 a2), .lit (.int .i64 a3)] = some (.tup [.lit (.bool (decide (0 ≤ sgR x.Value.q))), .lit (.bool (decide (sgR x3.Value.q ≤ 0)))]) := by
  simp only [scopeV] at K1
  have W4_ : IntKind.i64.wrap (a2 - 1) = a2 - 1 := wr64 W4.1 W4.2
  obtain ⟨EL5, EG5⟩ := List.getElem?_eq_some_iff.1 E5
  have Z5_0 : 1 ≤ a2 := by omega
  have K6 := rr_sign B6a
  simp only [scopeV] at K7
  have W10_ : IntKind.i64.wrap (a3 - 1) = a3 - 1 := wr64 W10.1 W10.2
  obtain ⟨EL11, EG11⟩ := List.getElem?_eq_some_iff.1 E11
  have Z11_0 : 1 ≤ a3 := by omega
  have K12 := rr_sign B12a
  unfold run fnP
  simp +decide [Tryz.f151, K1, C2, C3, W4_, EL5, EG5, E5, Z5, Z5_0, K6, K7, C8, C9, W10_, EL11, EG11, E11, Z11, Z11_0, K12]
theorem rph_f6 {n : Nat} {a0 : TScope} {a1 : Int} {a2 : Int} {a3 : Int} {r : Bool} {x : TLemma} {r3 : Bool} (K1 : run (n + 5) 224 [scopeV a0, .lit (.int .i64 1), .lit (.int .i64 a1)] = some (.lit (.bool r))) (C2 : r = false) (C3 : 0 < a2) (W4 : InI (a2 - 1)) (E5 : a0.Lemmas[a2.toNat - 1]? = some x) (Z5 : 0 ≤ a2 - 1) (B6a : RawB x.Value) (K7 : run (n + 5) 224 [scopeV a0, .lit (.int .i64 2), .lit (.int .i64 a1)] = some (.lit (.bool r3))) (C8 : r3 = false) (C9 : ¬ 0 < a3) :
    run (n + 6) 151 [scopeV a0, .lit (.int .i64 a1), .lit (.int .i64 a2), .lit (.int .i64 a3)] = some (.tup [.lit (.bool (decide (0 ≤ sgR x.Value.q))), .lit (.bool false)]) := by
  simp only [scopeV] at K1
  have W4_ : IntKind.i64.wrap (a2 - 1) = a2 - 1 := wr64 W4.1 W4.2
  obtain ⟨EL5, EG5⟩ := List.getElem?_eq_some_iff.1 E5
  have Z5_0 : 1 ≤ a2 := by omega
  have K6 := rr_sign B6a
  simp only [scopeV] at K7
  unfold run fnP
  simp +decide [Tryz.f151, K1, C2, C3, W4_, EL5, EG5, E5, Z5, Z5_0, K6, K7, C8, C9]
theorem rph_f7 {n : Nat} {a0 : TScope} {a1 : Int} {a2 : Int} {a3 : Int} {r : Bool} {r4 : Bool} (K1 : run (n + 5) 224 [scopeV a0, .lit (.int .i64 1), .lit (.int .i64 a1)] = some (.lit (.bool r))) (C2 : r = false) (C3 : ¬ 0 < a2) (K4 : run (n + 5) 224 [scopeV a0, .lit (.int .i64 2), .lit (.int .i64 a1)] = some (.lit (.bool r4))) (C5 : r4 = true) :
    run (n + 6) 151 [scopeV a0, .lit (.int .i64 a1), .lit (.int .i64 a2), .lit (.int .i64 a3)] = some (.tup [.lit (.bool false), .lit (.bool true)]) := by
  simp only [scopeV] at K1
  simp only [scopeV] at K4
  unfold run fnP
  simp +decide [Tryz.f151, K1, C2, C3, K4, C5]
theorem rph_f8 {n : Nat} {a0 : TScope} {a1 : Int} {a2 : Int} {a3 : Int} {r : Bool} {r4 : Bool} {x4 : TLemma} (K1 : run (n + 5) 224 [scopeV a0, .lit (.int .i64 1), .lit (.int .i64 a1)] = some (.lit (.bool r))) (C2 : r = false) (C3 : ¬ 0 < a2) (K4 : run (n + 5) 224 [scopeV a0, .lit (.int .i64 2), .lit (.int .i64 a1)] = some (.lit (.bool r4))) (C5 : r4 = false) (C6 : 0 < a3) (W7 : InI (a3 - 1)) (E8 : a0.Lemmas[a3.toNat - 1]? = some x4) (Z8 : 0 ≤ a3 - 1) (B9a : RawB x4.Value) :
    run (n + 6) 151 [scopeV a0, .lit (.int .i64 a1), .lit (.int .i64 a2), .lit (.int .i64 a3)] = some (.tup [.lit (.bool false), .lit (.bool (decide (sgR x4.Value.q ≤ 0)))]) := by
  simp only [scopeV] at K1
  simp only [scopeV] at K4
  have W7_ : IntKind.i64.wrap (a3 - 1) = a3 - 1 := wr64 W7.1 W7.2
  obtain ⟨EL8, EG8⟩ := List.getElem?_eq_some_iff.1 E8
  have Z8_0 : 1 ≤ a3 := by omega
  have K9 := rr_sign B9a
  unfold run fnP
  simp +decide [Tryz.f151, K1, C2, C3, K4, C5, C6, W7_, EL8, EG8, E8, Z8, Z8_0, K9]
theorem rph_f9 {n : Nat} {a0 : TScope} {a1 : Int} {a2 : Int} {a3 : Int} {r : Bool} {r4 : Bool} (K1 : run (n + 5) 224 [scopeV a0, .lit (.int .i64 1), .lit (.int .i64 a1)] = some (.lit (.bool r))) (C2 : r = false) (C3 : ¬ 0 < a2) (K4 : run (n + 5) 224 [scopeV a0, .lit (.int .i64 2), .lit (.int .i64 a1)] = some (.lit (.bool r4))) (C5 : r4 = false) (C6 : ¬ 0 < a3) :
    run (n + 6) 151 [scopeV a0, .lit (.int .i64 a1), .lit (.int .i64 a2), .lit (.int .i64 a3)] = some (.tup [.lit (.bool false), .lit (.bool false)]) := by
  simp only [scopeV] at K1
  simp only [scopeV] at K4
  unfold run fnP
  simp +decide [Tryz.f151, K1, C2, C3, K4, C5, C6]
/-! rows.Phase, level 7 -/
theorem rP_f4 {n : Nat} {a0 : TScope} {a1 : Int} {r : Bool} {r2 : Int} {r3 : Int} {r4 : Bool} {r5 : Bool} (K1 : run (n + 6) 64 [queryV a0.Query] = some (.lit (.bool r))) (C2 : r = true) (C3 : ¬ a1 < 0) (C4 : ¬ (a0.Query.Graph.Units.length : Int) ≤ a1) (K5 : run (n + 6) 150 [scopeV a0, .lit (.int .i64 a1)] = some (.tup [.lit (.int .i64 r2), .lit (.int .i64 r3)])) (K6 : run (n + 6) 151 [scopeV a0, .lit (.int .i64 a1), .lit (.int .i64 r2), .lit (.int .i64 r3)] = some (.tup [.lit (.bool r4), .lit (.bool r5)])) (C7 : r4 = true) :
    run (n + 7) 65 [scopeV a0, .lit (.int .i64 a1)] = some (.lit (.int .i64 1)) := by
  simp only [queryV] at K1
  simp only [scopeV] at K5
  simp only [scopeV] at K6
  unfold run fnP
  simp +decide [Tryz.f65, K1, C2, C3, C4, K5, K6, C7]
theorem rP_f5 {n : Nat} {a0 : TScope} {a1 : Int} {r : Bool} {r2 : Int} {r3 : Int} {r4 : Bool} {r5 : Bool} (K1 : run (n + 6) 64 [queryV a0.Query] = some (.lit (.bool r))) (C2 : r = true) (C3 : ¬ a1 < 0) (C4 : ¬ (a0.Query.Graph.Units.length : Int) ≤ a1) (K5 : run (n + 6) 150 [scopeV a0, .lit (.int .i64 a1)] = some (.tup [.lit (.int .i64 r2), .lit (.int .i64 r3)])) (K6 : run (n + 6) 151 [scopeV a0, .lit (.int .i64 a1), .lit (.int .i64 r2), .lit (.int .i64 r3)] = some (.tup [.lit (.bool r4), .lit (.bool r5)])) (C7 : r4 = false) (C8 : r5 = true) :
    run (n + 7) 65 [scopeV a0, .lit (.int .i64 a1)] = some (.lit (.int .i64 2)) := by
  simp only [queryV] at K1
  simp only [scopeV] at K5
  simp only [scopeV] at K6
  unfold run fnP
  simp +decide [Tryz.f65, K1, C2, C3, C4, K5, K6, C7, C8]
theorem rP_f6 {n : Nat} {a0 : TScope} {a1 : Int} {r : Bool} {r2 : Int} {r3 : Int} {r4 : Bool} {r5 : Bool} (K1 : run (n + 6) 64 [queryV a0.Query] = some (.lit (.bool r))) (C2 : r = true) (C3 : ¬ a1 < 0) (C4 : ¬ (a0.Query.Graph.Units.length : Int) ≤ a1) (K5 : run (n + 6) 150 [scopeV a0, .lit (.int .i64 a1)] = some (.tup [.lit (.int .i64 r2), .lit (.int .i64 r3)])) (K6 : run (n + 6) 151 [scopeV a0, .lit (.int .i64 a1), .lit (.int .i64 r2), .lit (.int .i64 r3)] = some (.tup [.lit (.bool r4), .lit (.bool r5)])) (C7 : r4 = false) (C8 : r5 = false) :
    run (n + 7) 65 [scopeV a0, .lit (.int .i64 a1)] = some (.lit (.int .i64 0)) := by
  simp only [queryV] at K1
  simp only [scopeV] at K5
  simp only [scopeV] at K6
  unfold run fnP
  simp +decide [Tryz.f65, K1, C2, C3, C4, K5, K6, C7, C8]
/-! phase.Of, level 8 -/
noncomputable def pOf_C5 : Code := (loopsOf (bodyOf Tryz.f17)).getD 0 .skip
def pOf_h5 (a0 : TScope) (out_5 : List Int) (i_5 : Nat) : St :=
  ⟨[(1, .ptr 0 0), (3, .own 1 out_5.length), (16, .lit (.int .i64 (a0.Query.Graph.Units.length : Int))), (17, .lit (.int .i64 (i_5 : Int)))],
   [(0, some (.box 48 [.lit (.int .i64 (a0.Query.Graph.Inputs)), .sl 4 (a0.Query.Graph.Units.map formC), .sl 4 (a0.Query.Graph.Outputs.map formC), .sl 3 (a0.Query.Region.Lo.map ratC), .sl 3 (a0.Query.Region.Hi.map ratC), .sl 4 (a0.Query.Region.Rows.map formC), .sl 4 (a0.Query.Goal.1.map termC), .lit (.bool (rawQ a0.Query.Goal.2).s), natA (rawQ a0.Query.Goal.2).l1, natA (rawQ a0.Query.Goal.2).l2, .sl 5 (a0.Path.map decisionC), .sl 6 (a0.Lemmas.map lemmaC)] false)),
    (1, some (.row 3 1 (out_5.map intI64C) 0))], 2⟩
def pOf_o5a (out_5 : List Int) : St :=
  ⟨[(3, .own 0 out_5.length)],
   [(0, some (.row 3 1 (out_5.map intI64C) 0))], 1⟩
theorem pOf_r5_1 {n : Nat} {a0 : TScope} {i_5 : Nat} {r4 : Int} {out_5 : List Int} (C1 : (i_5 : Int) < (a0.Query.Graph.Units.length : Int)) (K2 : run (n + 7) 65 [scopeV a0, .lit (.int .i64 (i_5 : Int))] = some (.lit (.int .i64 r4))) (G3 : i_5 < out_5.length) (W5 : InI ((i_5 : Int) + 1)) :
    Cont 0 (exec Tryz.prog (tab (n + 8)) 0 28 (livesOf 17) big pOf_C5) (livesOf 17 5) (pOf_h5 a0 out_5 i_5) (pOf_h5 a0 (out_5.set i_5 r4) (i_5 + 1)) := by
  have C1_ : i_5 < a0.Query.Graph.Units.length := by omega
  simp only [scopeV] at K2
  have W5_ : IntKind.i64.wrap ((i_5 : Int) + 1) = (i_5 : Int) + 1 := wr64 W5.1 W5.2
  unfold Cont
  simp +decide [pOf_h5, loopsOf, Tryz.f17, pOf_C5, C1, C1_, K2, G3, W5_]
theorem pOf_x5_1 {n : Nat} {a0 : TScope} {i_5 : Nat} {out_5 : List Int} (C1 : ¬ (i_5 : Int) < (a0.Query.Graph.Units.length : Int)) :
    Leave 0 (exec Tryz.prog (tab (n + 8)) 0 28 (livesOf 17) big pOf_C5) (livesOf 17 (outOf 5)) (pOf_h5 a0 out_5 i_5) (.exit 0) (pOf_o5a out_5) := by
  have C1_ : ¬ i_5 < a0.Query.Graph.Units.length := by omega
  unfold Leave
  simp +decide [pOf_h5, loopsOf, Tryz.f17, pOf_o5a, pOf_C5, C1, C1_]
theorem pOf_f1 {n : Nat} {a0 : TScope} {r : Bool} (K1 : run (n + 7) 64 [queryV a0.Query] = some (.lit (.bool r))) (C2 : r = false) :
    run (n + 8) 17 [scopeV a0] = some (.sl 1 []) := by
  simp only [queryV] at K1
  unfold run fnP
  simp +decide [Tryz.f17, K1, C2]
theorem pOf_f2 {n : Nat} {a0 : TScope} {r : Bool} {out_5 : List Int} (K1 : run (n + 7) 64 [queryV a0.Query] = some (.lit (.bool r))) (C2 : r = true) (M3 : a0.Query.Graph.Units.length ≤ 100000000) (L4 : loopG Tryz.prog (tab (n + 8)) 0 28 (livesOf 17) 5 pOf_C5 (pOf_h5 a0 (List.replicate a0.Query.Graph.Units.length 0) 0) = some (.exit 0, pOf_o5a out_5)) :
    run (n + 8) 17 [scopeV a0] = some (.sl 1 (out_5.map intI64C)) := by
  simp only [queryV] at K1
  have M3_ : ∀ b, b ≤ 10000 → roomy (a0.Query.Graph.Units.length) b = true := fun b hb => roomy_s M3 hb
  unfold run fnP
  simp +decide [Tryz.f17, K1, C2, M3_]
  rw [loopX_G (C' := pOf_C5) (e := (pOf_h5 a0 (List.replicate a0.Query.Graph.Units.length 0) 0)) ?_ ?_, L4]
  rotate_left
  · kernel_rfl
  · simp +decide [pOf_h5, K1, C2, M3_]
  simp +decide [pOf_o5a, K1, C2, M3_]
end Go.Proofs.YtkakmdadnhjphaaGreatDoor
