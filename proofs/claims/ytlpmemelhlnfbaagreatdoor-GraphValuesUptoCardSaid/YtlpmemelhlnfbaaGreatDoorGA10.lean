/- Walks: rational.Max, graph.run, graph.Values, graph.Pre, graph.Outputs. -/
import Derived.Test.YtlpmemelhlnfbaaGreatDoorGA5
set_option linter.all false
set_option linter.all false
set_option maxRecDepth 100000
set_option maxHeartbeats 6400000
namespace Go.Proofs.YtlpmemelhlnfbaaGreatDoor
open Go.RowKit

/-! rational.Max, level 0 -/
theorem pmx_f1 {n : Nat} {a0 : Rat} {a1 : Rat} (B1a : H a0 ≤ 17179869184) (B1b : H a1 ≤ 17179869184) (C2 : 0 ≤ sgR (a0 - a1)) :
    run n 165 [ratV a0, ratV a1] = some (ratV a0) := by
  have K1 := r_cmp (p := a0) (q := a1) B1a B1b
  have K3 := r_canon (p := a0) B1a
  unfold run fnP
  simp +decide [Tryz.f165, K1, C2, K3]
theorem pmx_f2 {n : Nat} {a0 : Rat} {a1 : Rat} (B1a : H a0 ≤ 17179869184) (B1b : H a1 ≤ 17179869184) (C2 : ¬ 0 ≤ sgR (a0 - a1)) :
    run n 165 [ratV a0, ratV a1] = some (ratV a1) := by
  have K1 := r_cmp (p := a0) (q := a1) B1a B1b
  have K3 := r_canon (p := a1) B1b
  unfold run fnP
  simp +decide [Tryz.f165, K1, C2, K3]
/-! graph.run, level 6 -/
/-! graph.Values, level 7 -/
/-! graph.Pre, level 7 -/
/-! graph.Outputs, level 7 -/
end Go.Proofs.YtlpmemelhlnfbaaGreatDoor
