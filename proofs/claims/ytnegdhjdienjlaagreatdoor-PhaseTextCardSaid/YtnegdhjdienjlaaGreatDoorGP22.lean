import Derived.Test.YtnegdhjdienjlaaGreatDoorGP20
import Derived.Test.YtnegdhjdienjlaaGreatDoorGP21
set_option linter.all false
set_option maxHeartbeats 6400000
set_option maxRecDepth 100000
namespace Go.Proofs.YtnegdhjdienjlaaGreatDoor
section
open Go.RowKit
end
section
open Go.RowKit
end
section
open Go.RowKit
open Lib (decDigits)
attribute [local irreducible] run runL loopG exec
theorem dd0_10{k:Nat}(h:0<k):dd0 k=dd0 (k / 10)++[dig (k % 10)]:=by
 unfold dd0
 rw [if_neg (by omega)]
 by_cases h1:k<10
 ·rw [if_pos (by omega),dd_lt h1,Nat.mod_eq_of_lt h1];rfl
 ·rw [if_neg (by omega),dd_ge h1]
theorem oneB_dig(d:Nat):oneB (48+(d:Int))=bs [dig d]:=by
 unfold oneB bs dig
 have e:(48+(d:Int)).toNat=48+d:=by omega
 rw [e]
theorem bs_ne{l:List UInt8}(h:l≠[]):¬bs l=(⟨#[]⟩:ByteArray):=fun e=>h (bs_inj e)
def absT(q:Rat):List UInt8:=decDigits q.num.natAbs++if q.den=1 then [] else 47::decDigits q.den
theorem rawQ_parts(q:Rat):(rawQ q).l1=lmb q.num.natAbs∧(rawQ q).l2=(if q.den=1 then [] else lmb q.den)∧(rawQ q).s=decide (q.num<0):=⟨rfl,rfl,rfl⟩
theorem den_pos(q:Rat):0<(lmb q.den).length:=by rw [lmb_pos q.den_pos];simp
end
section
open Go.RowKit
end
section
open Go.RowKit
end
section
open Go.RowKit
end
section
open Go.RowKit
end
section
open Go.RowKit
end
section
open Go.RowKit
open Lib (decDigits)
attribute [local irreducible] run runL loopG exec
def ngT(q:Rat):Bool:=(rawQ q).s
structure TxB (f:Form):Prop where
 l:f.1.length≤100
 t:∀t∈f.1,H t.2≤100∧0≤t.1∧t.1<9223372036854775808
 k:H f.2≤100
theorem bs_eq{a b:List UInt8}:bs a=bs b↔a=b:=⟨bs_inj,fun h=>by rw [h]⟩
section
variable {n : Nat}
theorem k_itoa{v:Int}(h0:0≤v)(h1:v<9223372036854775808):oItoa [.lit (.int .i64 v)]=some (.lit (.string (bs (decDigits v.toNat)))):=by
 simp only [oItoa]
 rw [if_pos ⟨by omega,by omega⟩]
 have e:Lib.itoa v=decDigits v.toNat:=by
  unfold Lib.itoa
  rw [if_neg (by omega)]
 rw [e]
 rfl
end
end
section
open Go.RowKit
def Srt(F:List (Int × Rat)):Prop:=F.Pairwise (fun a b=>a.1<b.1)∧∀t∈F,t.2≠0
def LBd(k:Int)(F:List (Int × Rat)):Prop:=∀t∈F,k<t.1
theorem Srt.nil:Srt []:=⟨List.Pairwise.nil,fun t ht=>by cases ht⟩
theorem Srt.tail{t:Int × Rat}{F:List (Int × Rat)}(h:Srt (t::F)):Srt F:=⟨(List.pairwise_cons.1 h.1).2,fun u hu=>h.2 u (by simp [hu])⟩
theorem Srt.head{t:Int × Rat}{F:List (Int × Rat)}(h:Srt (t::F)):LBd t.1 F:=fun u hu=>(List.pairwise_cons.1 h.1).1 u hu
theorem Srt.nz{t:Int × Rat}{F:List (Int × Rat)}(h:Srt (t::F)):t.2≠0:=h.2 t (by simp)
theorem LBd.mono{F:List (Int × Rat)}{k j:Int}(h:LBd k F)(hj:j≤k):LBd j F:=fun t ht=>by have:=h t ht;omega
end
end Go.Proofs.YtnegdhjdienjlaaGreatDoor
