import Derived.Test.YtlpmemelhlnfbaaGreatDoorGA5
import Derived.Test.YtlpmemelhlnfbaaGreatDoorGA14
set_option linter.all false
set_option maxRecDepth 100000
set_option maxHeartbeats 6400000
namespace Go.Proofs.YtlpmemelhlnfbaaGreatDoor
open Go.RowKit
end Go.Proofs.YtlpmemelhlnfbaaGreatDoor
set_option linter.all false
set_option maxRecDepth 100000
set_option maxHeartbeats 6400000
namespace Go.Proofs.YtlpmemelhlnfbaaGreatDoor
open Go.RowKit
attribute [local irreducible] run runL loopG exec
def Back (k : Nat) (U : List Form) : Prop := ∀ i f, U[i]? = some f → InR (k + i) f.1
theorem Back.tail {k : Nat} {f : Form} {U : List Form} (h : Back k (f :: U)) : Back (k + 1) U := fun i g hg => by
  have := h (i + 1) g (by simpa using hg)
  rwa [show k + (i + 1) = k + 1 + i from by omega] at this
theorem Back.head {k : Nat} {f : Form} {U : List Form} (h : Back k (f :: U)) : InR k f.1 := h 0 f rfl
theorem OkGr.back {g : TGraph} {X : List Rat} (h : OkGr g) (hX : (X.length : Int) = g.Inputs) : Back X.length g.Units := fun i f hf t ht => by
  have hlt := (List.getElem?_eq_some_iff.1 hf).1
  obtain ⟨j, hj⟩ := List.mem_iff_getElem?.1 ht
  have := h.un i hlt f hf j (List.getElem?_eq_some_iff.1 hj).1 t.1 t.2 hj
  exact ⟨this.1, by omega⟩
theorem OkGr.out {g : TGraph} (h : OkGr g) {f : Form} (hf : f ∈ g.Outputs) : ∀ t ∈ f.1, 0 ≤ t.1 ∧ t.1 < g.Inputs + (g.Units.length : Int) := fun t ht => by
  obtain ⟨j, hj⟩ := List.mem_iff_getElem?.1 ht
  have := h.ou f hf j (List.getElem?_eq_some_iff.1 hj).1 t.1 t.2 hj
  exact ⟨this.1, this.2.1⟩
theorem GrOk.lu {g : TGraph} (h : GrOk g) : ∀ f ∈ g.Units, f.1.length ≤ 7 := fun f hf => by
  obtain ⟨i, hi⟩ := List.mem_iff_getElem?.1 hf
  have hlt := (List.getElem?_eq_some_iff.1 hi).1
  have := (h.un i f hi).l.len
  have := h.i1
  have := h.u
  omega
theorem GrOk.lo {g : TGraph} (h : GrOk g) : ∀ f ∈ g.Outputs, f.1.length ≤ 7 := fun f hf => by
  have := (h.ou f hf).l.len
  have := h.i1
  have := h.u
  omega
end Go.Proofs.YtlpmemelhlnfbaaGreatDoor
set_option linter.all false
set_option maxRecDepth 100000
set_option maxHeartbeats 6400000
namespace Go.Proofs.YtlpmemelhlnfbaaGreatDoor
open Go.RowKit
end Go.Proofs.YtlpmemelhlnfbaaGreatDoor
set_option linter.all false
set_option maxRecDepth 100000
set_option maxHeartbeats 6400000
namespace Go.Proofs.YtlpmemelhlnfbaaGreatDoor
open Go.RowKit
end Go.Proofs.YtlpmemelhlnfbaaGreatDoor
set_option linter.all false
set_option maxRecDepth 100000
set_option maxHeartbeats 6400000
namespace Go.Proofs.YtlpmemelhlnfbaaGreatDoor
open Go.RowKit
attribute [local irreducible] run runL loopG exec
structure MgS where
  l : List (Int × Rat)
  m : List (Int × Rat)
  out : List (Int × Rat)
end Go.Proofs.YtlpmemelhlnfbaaGreatDoor
set_option linter.all false
set_option maxRecDepth 100000
set_option maxHeartbeats 6400000
namespace Go.Proofs.YtlpmemelhlnfbaaGreatDoor
open Go.RowKit
end Go.Proofs.YtlpmemelhlnfbaaGreatDoor
