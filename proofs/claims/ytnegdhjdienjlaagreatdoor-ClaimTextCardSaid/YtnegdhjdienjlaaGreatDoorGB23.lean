import Derived.Test.YtnegdhjdienjlaaGreatDoorGB16
import Derived.Test.YtnegdhjdienjlaaGreatDoorGB17
import Derived.Test.YtnegdhjdienjlaaGreatDoorGB20
import Derived.Test.YtnegdhjdienjlaaGreatDoorGB22
set_option exponentiation.threshold 400
set_option linter.all false
set_option maxHeartbeats 6400000
set_option maxRecDepth 100000
namespace Go.Proofs.YtnegdhjdienjlaaGreatDoor
section
open Go.RowKit
end
section
open Go.RowKit
attribute [local irreducible] run runL loopG exec
def hd:List UInt8→Int
 | []=>0
 | c::_=>(c.toNat:Int)
section
variable {n : Nat} {L l : List UInt8} {bad : Bool}
end
end
end Go.Proofs.YtnegdhjdienjlaaGreatDoor
