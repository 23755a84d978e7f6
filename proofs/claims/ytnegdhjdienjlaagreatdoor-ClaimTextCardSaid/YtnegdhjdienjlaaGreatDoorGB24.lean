import Derived.Test.YtnegdhjdienjlaaGreatDoorGB16
import Derived.Test.YtnegdhjdienjlaaGreatDoorGB17
import Derived.Test.YtnegdhjdienjlaaGreatDoorGB20
import Derived.Test.YtnegdhjdienjlaaGreatDoorGB23
import Derived.Test.YtnegdhjdienjlaaGreatDoorGB21
set_option exponentiation.threshold 400
set_option linter.all false
set_option maxHeartbeats 6400000
set_option maxRecDepth 100000
namespace Go.Proofs.YtnegdhjdienjlaaGreatDoor
section
open Go.RowKit
end
section
open Go.RowKit
end
section
open Go.RowKit
end
section
open Go.RowKit
end
section
open Go.RowKit
attribute [local irreducible] run runL loopG exec
section
variable {n k : Nat} {L l : List UInt8} {f : Form} {neg : Bool}
end
end
section
open Go.RowKit
end
end Go.Proofs.YtnegdhjdienjlaaGreatDoor
