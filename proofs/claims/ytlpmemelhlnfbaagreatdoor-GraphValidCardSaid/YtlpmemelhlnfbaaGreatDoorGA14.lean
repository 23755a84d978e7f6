import Derived.Test.YtlpmemelhlnfbaaGreatDoorGA8
import Derived.Test.YtlpmemelhlnfbaaGreatDoorGA13
import Derived.Test.YtlpmemelhlnfbaaGreatDoorGA5
import Derived.Test.YtlpmemelhlnfbaaGreatDoorGA7
set_option linter.all false
set_option maxRecDepth 100000
set_option maxHeartbeats 6400000
namespace Go.Proofs.YtlpmemelhlnfbaaGreatDoor
open Go.RowKit
attribute [local irreducible] run runL loopG exec
end Go.Proofs.YtlpmemelhlnfbaaGreatDoor
set_option linter.all false
set_option maxRecDepth 100000
set_option maxHeartbeats 6400000
namespace Go.Proofs.YtlpmemelhlnfbaaGreatDoor
open Go.RowKit
end Go.Proofs.YtlpmemelhlnfbaaGreatDoor
set_option linter.all false
set_option maxRecDepth 100000
set_option maxHeartbeats 6400000
namespace Go.Proofs.YtlpmemelhlnfbaaGreatDoor
open Go.RowKit
attribute [local irreducible] run runL loopG exec
end Go.Proofs.YtlpmemelhlnfbaaGreatDoor
set_option linter.all false
set_option maxRecDepth 100000
set_option maxHeartbeats 6400000
namespace Go.Proofs.YtlpmemelhlnfbaaGreatDoor
open Go.RowKit
end Go.Proofs.YtlpmemelhlnfbaaGreatDoor
set_option linter.all false
set_option maxRecDepth 100000
set_option maxHeartbeats 6400000
namespace Go.Proofs.YtlpmemelhlnfbaaGreatDoor
open Go.RowKit
attribute [local irreducible] run runL loopG exec
end Go.Proofs.YtlpmemelhlnfbaaGreatDoor
set_option linter.all false
namespace Go.Proofs.YtlpmemelhlnfbaaGreatDoor
open Go.RowKit
def InR (k : Nat) (F : List (Int × Rat)) : Prop := ∀ t ∈ F, 0 ≤ t.1 ∧ t.1 < (k : Int)
theorem InR.app {k : Nat} {F G : List (Int × Rat)} (h : InR k F) (g : InR k G) : InR k (F ++ G) := fun t ht => (List.mem_append.1 ht).elim (h t) (g t)
theorem InR.put {k : Nat} {v : Int} {q : Rat} (h : 0 ≤ v ∧ v < (k : Int)) : InR k (put1 v q) := fun t ht => by
  obtain ⟨rfl, _⟩ := put1_mem ht
  exact h
theorem InR.plus {k : Nat} {v : Int} {c : Rat} (hv : 0 ≤ v ∧ v < (k : Int)) : ∀ {d : Bool} {F : List (Int × Rat)}, InR k F → InR k (plusV d F v c)
  | d, [], _ => by
    rw [plusV]
    split
    · exact fun t ht => by cases ht
    · exact InR.put hv
  | d, t :: F, h => by
    have ht : 0 ≤ t.1 ∧ t.1 < (k : Int) := h t (by simp)
    have hF : InR k F := fun u hu => h u (by simp [hu])
    rw [plusV]
    split
    · exact (InR.put ht).app (InR.plus hv hF)
    · split
      · exact (InR.put hv).app ((InR.put ht).app (InR.plus hv hF))
      · exact (InR.put ht).app (InR.plus hv hF)
theorem InR.add {k : Nat} : ∀ {G F : List (Int × Rat)}, InR k F → InR k G → InR k (addV F G)
  | [], F, h, _ => h
  | t :: G, F, h, g => by
    have e : addV F (t :: G) = addV (plusV false F t.1 t.2) G := rfl
    rw [e]
    exact InR.add (InR.plus (g t (by simp)) h) fun u hu => g u (by simp [hu])
theorem TmB.add {b : Nat} : ∀ {G F : List (Int × Rat)} {m : Nat}, TmB m F → TmB b G → TmB (m + (b + 1) * G.length) (addV F G)
  | [], F, m, h, _ => h
  | t :: G, F, m, h, g => by
    have e : addV F (t :: G) = addV (plusV false F t.1 t.2) G := rfl
    rw [e]
    refine (TmB.add (TmB.plus (g t (by simp)).2 h) fun u hu => g u (by simp [hu])).mono ?_
    rw [List.length_cons, Nat.mul_add]
    omega
theorem TmB.bd {m : Nat} {f : Form} (h : TmB m f.1) (hl : f.1.length ≤ 100000000) (hk : H f.2 ≤ m) : BdF m f := ⟨hl, fun t ht => (h t ht).2, hk⟩
end Go.Proofs.YtlpmemelhlnfbaaGreatDoor
