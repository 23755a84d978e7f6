/- The examples of the document of layer 7, run. -/
import Derived.Test.YthkkmokbjmempaaGreatDoorUe
set_option linter.all false
set_option linter.all false
set_option maxRecDepth 100000
namespace Go.Proofs.YthkkmokbjmempaaGreatDoor
open Go.RowKit
theorem awake_c {n : Nat} : run 12 16 [] = some (.lit (.bool true)) := by kernel_rfl
end Go.Proofs.YthkkmokbjmempaaGreatDoor
