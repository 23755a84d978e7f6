/- Limbs that are looked at one by one. Walks: slices.Equal[api.Nat,uint32]. -/
import Derived.Test.YthkkmokbjmempaaGreatDoorUe
set_option linter.all false
set_option linter.all false
namespace Go.Proofs.YthkkmokbjmempaaGreatDoor
open Go.RowKit
@[simp ↓] theorem natA_ixT (P : Program) (t : TypeId) (l : List Nat) (i : AV) (nx : Nat) : ixT P t (natA l) i nx = match idx i with
    | some z => if 0 ≤ z then (match elOf P t with
      | some (_, _, k, _, _) => if k = 1 then (match l[z.toNat]? with | some x => .done (.mem [.lit (.int .u32 (x : Int))]) [] nx | none => .fail) else .fail
      | none => .fail) else .fail
    | none => .fail := by
  unfold ixT natA
  cases idx i with
  | none => rfl
  | some z =>
    dsimp only
    by_cases h0 : 0 ≤ z
    · rw [if_pos h0, if_pos h0]
      cases elOf P t with
      | none =>
        dsimp only
        cases arOf P t with
        | none => rfl
        | some x => rfl
      | some x =>
        obtain ⟨e1, e2, k, e4, e5⟩ := x
        dsimp only
        by_cases hk : k = 1
        · rw [if_pos hk, if_pos hk, List.getElem?_map]
          cases l[z.toNat]? <;> rfl
        · rw [if_neg hk, if_neg hk]
    · rw [if_neg h0, if_neg h0]
end Go.Proofs.YthkkmokbjmempaaGreatDoor
set_option linter.all false
set_option maxRecDepth 100000
set_option maxHeartbeats 6400000
namespace Go.Proofs.YthkkmokbjmempaaGreatDoor
open Go.RowKit

/-! slices.Equal[api.Nat,uint32], level 0 -/
end Go.Proofs.YthkkmokbjmempaaGreatDoor
