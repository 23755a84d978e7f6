/- Walks: relucertref07.Valid. -/
import Derived.Test.YthkkmokbjmempaaGreatDoorUe
set_option linter.all false
set_option linter.all false
set_option maxRecDepth 100000
set_option maxHeartbeats 6400000
namespace Go.Proofs.YthkkmokbjmempaaGreatDoor
open Go.RowKit

/-! relucertref07.Valid, level 0 -/
end Go.Proofs.YthkkmokbjmempaaGreatDoor
