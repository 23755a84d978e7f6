/- Walks: relucertlaw07.copied, linear.same, linear.Equal. -/
import Derived.Test.YthkkmokbjmempaaGreatDoorUe
set_option linter.all false
set_option linter.all false
set_option maxRecDepth 100000
set_option maxHeartbeats 6400000
namespace Go.Proofs.YthkkmokbjmempaaGreatDoor
open Go.RowKit

/-! relucertlaw07.copied, level 0 -/
theorem lc7_f1 {n : Nat} {a0 : Form} (M1 : a0.1.length ≤ 100000000) :
    run n 26 [formV a0] = some (formV a0) := by
  have M1_ : ∀ b, b ≤ 10000 → roomy (a0.1.length) b = true := fun b hb => roomy_s M1 hb
  unfold run fnP
  simp +decide [Tryz.f26, M1_]
/-! linear.same, level 1 -/
/-! linear.Equal, level 2 -/
end Go.Proofs.YthkkmokbjmempaaGreatDoor
