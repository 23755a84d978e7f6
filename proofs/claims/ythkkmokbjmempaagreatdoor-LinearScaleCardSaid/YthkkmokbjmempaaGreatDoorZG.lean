/- Limbs that are looked at one by one. Walks: slices.Equal[api.Nat,uint32]. -/
import Derived.Test.YthkkmokbjmempaaGreatDoorUe
set_option linter.all false
set_option linter.all false
namespace Go.Proofs.YthkkmokbjmempaaGreatDoor
open Go.RowKit
@[simp ↓] theorem natA_ixT (P : Program) (t : TypeId) (l : List Nat) (i : AV) (nx : Nat) : ixT P t (natA l) i nx = match idx i with
    | some z => if 0 ≤ z then (match elOf P t with
      | some (_, _, k, _, _) => if k = 1 then (match l[z.toNat]? with | some x => .done (.mem [.lit (.int .u32 (x : Int))]) [] nx | none => .fail) else .fail
      | none => .fail) else .fail
    | none => .fail := by
  unfold ixT natA
  cases idx i with
  | none => rfl
  | some z =>
    dsimp only
    by_cases h0 : 0 ≤ z
    · rw [if_pos h0, if_pos h0]
      cases elOf P t with
      | none =>
        dsimp only
        cases arOf P t with
        | none => rfl
        | some x => rfl
      | some x =>
        obtain ⟨e1, e2, k, e4, e5⟩ := x
        dsimp only
        by_cases hk : k = 1
        · rw [if_pos hk, if_pos hk, List.getElem?_map]
          cases l[z.toNat]? <;> rfl
        · rw [if_neg hk, if_neg hk]
    · rw [if_neg h0, if_neg h0]
end Go.Proofs.YthkkmokbjmempaaGreatDoor
set_option linter.all false
set_option maxRecDepth 100000
set_option maxHeartbeats 6400000
namespace Go.Proofs.YthkkmokbjmempaaGreatDoor
open Go.RowKit

/-! slices.Equal[api.Nat,uint32], level 0 -/
noncomputable def seq_C4 : Code := (loopsOf (bodyOf Tryz.f128)).getD 0 .skip
def seq_h4 (a0 : List Nat) (a1 : List Nat) (i_4 : Nat) : St :=
  ⟨[(0, natA a0), (1, natA a1), (12, .lit (.int .i64 (a0.length : Int))), (13, .lit (.int .i64 (i_4 : Int)))],
   [], 0⟩
def seq_o4a  : St :=
  ⟨[(4, .lit (.bool false))],
   [], 0⟩
def seq_o4b  : St :=
  ⟨[(4, .any)],
   [], 0⟩
theorem seq_r4_1 {n : Nat} {a0 : List Nat} {a1 : List Nat} {i_4 : Nat} {x5 : Nat} {x6 : Nat} (C1 : (i_4 : Int) < (a0.length : Int)) (E2 : a0[i_4]? = some x5) (E3 : a1[i_4]? = some x6) (C4 : (x5 : Int) = (x6 : Int)) (W5 : InI ((i_4 : Int) + 1)) :
    Cont 0 (exec Tryz.prog (tab n) 0 26 (livesOf 128) big seq_C4) (livesOf 128 4) (seq_h4 a0 a1 i_4) (seq_h4 a0 a1 (i_4 + 1)) := by
  have C1_ : i_4 < a0.length := by omega
  obtain ⟨EL2, EG2⟩ := List.getElem?_eq_some_iff.1 E2
  obtain ⟨EL3, EG3⟩ := List.getElem?_eq_some_iff.1 E3
  have C4_ : ((x5 : Int) == (x6 : Int)) = true := by rw [C4]; simp
  have C4_n : ((x5 : Int) != (x6 : Int)) = false := by rw [C4]; simp
  have W5_ : IntKind.i64.wrap ((i_4 : Int) + 1) = (i_4 : Int) + 1 := wr64 W5.1 W5.2
  unfold Cont
  simp +decide [seq_h4, loopsOf, Tryz.f128, seq_C4, natA, C1, C1_, EL2, EG2, E2, EL3, EG3, E3, C4_, C4_n, W5_]
theorem seq_x4_1 {n : Nat} {a0 : List Nat} {a1 : List Nat} {i_4 : Nat} {x5 : Nat} {x6 : Nat} (C1 : (i_4 : Int) < (a0.length : Int)) (E2 : a0[i_4]? = some x5) (E3 : a1[i_4]? = some x6) (C4 : ¬ (x5 : Int) = (x6 : Int)) :
    Leave 0 (exec Tryz.prog (tab n) 0 26 (livesOf 128) big seq_C4) (livesOf 128 (outOf 4)) (seq_h4 a0 a1 i_4) (.ret) (seq_o4a ) := by
  have C1_ : i_4 < a0.length := by omega
  obtain ⟨EL2, EG2⟩ := List.getElem?_eq_some_iff.1 E2
  obtain ⟨EL3, EG3⟩ := List.getElem?_eq_some_iff.1 E3
  have C4_ : ((x5 : Int) == (x6 : Int)) = false := by simpa using C4
  have C4_n : ((x5 : Int) != (x6 : Int)) = true := by simpa using C4
  unfold Leave
  simp +decide [seq_h4, loopsOf, Tryz.f128, seq_o4a, seq_C4, natA, C1, C1_, EL2, EG2, E2, EL3, EG3, E3, C4_, C4_n]
theorem seq_x4_2 {n : Nat} {a0 : List Nat} {a1 : List Nat} {i_4 : Nat} (C1 : ¬ (i_4 : Int) < (a0.length : Int)) :
    Leave 0 (exec Tryz.prog (tab n) 0 26 (livesOf 128) big seq_C4) (livesOf 128 (outOf 4)) (seq_h4 a0 a1 i_4) (.exit 0) (seq_o4b ) := by
  have C1_ : ¬ i_4 < a0.length := by omega
  unfold Leave
  simp +decide [seq_h4, loopsOf, Tryz.f128, seq_o4b, seq_C4, natA, C1, C1_]
theorem seq_f1 {n : Nat} {a0 : List Nat} {a1 : List Nat} (C1 : ¬ (a0.length : Int) = (a1.length : Int)) :
    run n 128 [natA a0, natA a1] = some (.lit (.bool false)) := by
  have C1_ : ((a0.length : Int) == (a1.length : Int)) = false := by simpa using C1
  have C1_n : ((a0.length : Int) != (a1.length : Int)) = true := by simpa using C1
  unfold run fnP
  simp +decide [Tryz.f128, natA, C1_, C1_n]
theorem seq_f2 {n : Nat} {a0 : List Nat} {a1 : List Nat} (C1 : (a0.length : Int) = (a1.length : Int)) (L2 : loopG Tryz.prog (tab n) 0 26 (livesOf 128) 4 seq_C4 (seq_h4 a0 a1 0) = some (.ret, seq_o4a )) :
    run n 128 [natA a0, natA a1] = some (.lit (.bool false)) := by
  have C1_ : ((a0.length : Int) == (a1.length : Int)) = true := by rw [C1]; simp
  have C1_n : ((a0.length : Int) != (a1.length : Int)) = false := by rw [C1]; simp
  unfold run fnP
  simp +decide [Tryz.f128, natA, C1_, C1_n]
  rw [loopX_G (C' := seq_C4) (e := (seq_h4 a0 a1 0)) ?_ ?_, L2]
  rotate_left
  · kernel_rfl
  · simp +decide [seq_h4, natA, C1_, C1_n]
  simp +decide [seq_o4a, natA, C1_, C1_n]
theorem seq_f3 {n : Nat} {a0 : List Nat} {a1 : List Nat} (C1 : (a0.length : Int) = (a1.length : Int)) (L2 : loopG Tryz.prog (tab n) 0 26 (livesOf 128) 4 seq_C4 (seq_h4 a0 a1 0) = some (.exit 0, seq_o4b )) :
    run n 128 [natA a0, natA a1] = some (.lit (.bool true)) := by
  have C1_ : ((a0.length : Int) == (a1.length : Int)) = true := by rw [C1]; simp
  have C1_n : ((a0.length : Int) != (a1.length : Int)) = false := by rw [C1]; simp
  unfold run fnP
  simp +decide [Tryz.f128, natA, C1_, C1_n]
  rw [loopX_G (C' := seq_C4) (e := (seq_h4 a0 a1 0)) ?_ ?_, L2]
  rotate_left
  · kernel_rfl
  · simp +decide [seq_h4, natA, C1_, C1_n]
  simp +decide [seq_o4b, natA, C1_, C1_n]
end Go.Proofs.YthkkmokbjmempaaGreatDoor
