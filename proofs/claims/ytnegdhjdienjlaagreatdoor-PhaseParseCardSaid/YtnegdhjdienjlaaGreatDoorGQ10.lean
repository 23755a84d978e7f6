import Derived.KernelRfl
set_option linter.all false
namespace Go.Proofs.YtnegdhjdienjlaaGreatDoor
def put1(v:Int)(q:Rat):List (Int × Rat):=if q=0 then [] else [(v,q)]
end Go.Proofs.YtnegdhjdienjlaaGreatDoor
