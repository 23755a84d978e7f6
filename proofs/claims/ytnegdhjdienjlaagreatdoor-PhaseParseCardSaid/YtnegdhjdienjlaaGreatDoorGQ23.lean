import Derived.Test.YtnegdhjdienjlaaGreatDoorGQ22
import Derived.Test.YtnegdhjdienjlaaGreatDoorGQ20
import Derived.Test.YtnegdhjdienjlaaGreatDoorGQ21
set_option linter.all false
set_option maxHeartbeats 6400000
set_option maxRecDepth 100000
namespace Go.Proofs.YtnegdhjdienjlaaGreatDoor
section
open Go.RowKit
open Lib (decDigits)
attribute [local irreducible] run runL loopG exec
theorem dd0_10{k:Nat}(h:0<k):dd0 k=dd0 (k / 10)++[dig (k % 10)]:=by
 unfold dd0
 rw [if_neg (by omega)]
 by_cases h1:k<10
 ·rw [if_pos (by omega),dd_lt h1,Nat.mod_eq_of_lt h1];rfl
 ·rw [if_neg (by omega),dd_ge h1]
theorem oneB_dig(d:Nat):oneB (48+(d:Int))=bs [dig d]:=by
 unfold oneB bs dig
 have e:(48+(d:Int)).toNat=48+d:=by omega
 rw [e]
theorem bs_ne{l:List UInt8}(h:l≠[]):¬bs l=(⟨#[]⟩:ByteArray):=fun e=>h (bs_inj e)
def absT(q:Rat):List UInt8:=decDigits q.num.natAbs++if q.den=1 then [] else 47::decDigits q.den
theorem rawQ_parts(q:Rat):(rawQ q).l1=lmb q.num.natAbs∧(rawQ q).l2=(if q.den=1 then [] else lmb q.den)∧(rawQ q).s=decide (q.num<0):=⟨rfl,rfl,rfl⟩
theorem den_pos(q:Rat):0<(lmb q.den).length:=by rw [lmb_pos q.den_pos];simp
end
section
open Go.RowKit
end
section
open Go.RowKit
end
section
open Go.RowKit
end
section
open Go.RowKit
end
section
open Go.RowKit
end
end Go.Proofs.YtnegdhjdienjlaaGreatDoor
