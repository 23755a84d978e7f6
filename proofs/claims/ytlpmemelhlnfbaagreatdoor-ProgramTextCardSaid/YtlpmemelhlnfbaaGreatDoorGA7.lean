/- Walks: relucertref15.Feed.Next, relucertref15.Feed.Number, relucertref07.Var, relucertref03.Max, relucertref07.Eval. Walks: relucertref07.plus. Walks: relucertref07.Add, relucertref07.Scale. Walks: relucertref07.Valid, relucertref07.ValidAll. -/
import Derived.Test.YtlpmemelhlnfbaaGreatDoorGA5
set_option linter.all false
set_option linter.all false
set_option maxRecDepth 100000
set_option maxHeartbeats 6400000
namespace Go.Proofs.YtlpmemelhlnfbaaGreatDoor
open Go.RowKit

/-! (*relucertref15.Feed).Next, level 0 -/
/-! (*relucertref15.Feed).Number, level 1 -/
/-! relucertref07.Var, level 0 -/
/-! relucertref03.Max, level 0 -/
/-! relucertref07.Eval, level 0 -/
end Go.Proofs.YtlpmemelhlnfbaaGreatDoor
set_option linter.all false
set_option maxRecDepth 100000
set_option maxHeartbeats 6400000
namespace Go.Proofs.YtlpmemelhlnfbaaGreatDoor
open Go.RowKit

/-! relucertref07.plus, level 1 -/
end Go.Proofs.YtlpmemelhlnfbaaGreatDoor
set_option linter.all false
set_option maxRecDepth 100000
set_option maxHeartbeats 6400000
namespace Go.Proofs.YtlpmemelhlnfbaaGreatDoor
open Go.RowKit

/-! relucertref07.Add, level 2 -/
/-! relucertref07.Scale, level 1 -/
end Go.Proofs.YtlpmemelhlnfbaaGreatDoor
set_option linter.all false
set_option maxRecDepth 100000
set_option maxHeartbeats 6400000
namespace Go.Proofs.YtlpmemelhlnfbaaGreatDoor
open Go.RowKit

/-! relucertref07.Valid, level 0 -/
/-! relucertref07.ValidAll, level 1 -/
end Go.Proofs.YtlpmemelhlnfbaaGreatDoor
