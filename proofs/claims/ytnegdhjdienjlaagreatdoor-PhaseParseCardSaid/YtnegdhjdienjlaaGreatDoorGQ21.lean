import Derived.Test.YtnegdhjdienjlaaGreatDoorGQ20
import Derived.Lib.ItoaNum
import Derived.Lib.Repeat
import Derived.Lib.Join
set_option linter.all false
set_option maxHeartbeats 6400000
set_option maxRecDepth 100000
namespace Go.Proofs.YtnegdhjdienjlaaGreatDoor
section
open Go.RowKit
theorem ba_loop(a:ByteArray):∀(k i:Nat) (r:List UInt8),k+i=a.size→ByteArray.toList.loop a i r=r.reverse++a.data.toList.drop i
 | 0,i,r,h=>by
   rw [ByteArray.toList.loop,if_neg (by omega),List.drop_eq_nil_of_le (by have e:a.data.toList.length=a.size:=Array.length_toList;omega),List.append_nil]
 | k+1,i,r,h=>by
   have hi:i<a.data.toList.length:=by have e:a.data.toList.length=a.size:=Array.length_toList;omega
   rw [ByteArray.toList.loop,if_pos (by omega),ba_loop a k (i+1) _ (by omega),List.drop_eq_getElem_cons hi]
   have e:a.get! i=a.data.toList[i]:=by
    unfold ByteArray.get!
    rw [Array.getElem_toList]
    exact getElem!_pos a.data i (by simpa using hi)
   rw [e]
   simp
theorem ba_toList(a:ByteArray):a.toList=a.data.toList:=by
 unfold ByteArray.toList
 rw [ba_loop a a.size 0 [] (by omega)]
 simp
theorem ba_ext{a b:ByteArray}(h:a.data.toList=b.data.toList):a=b:=by
 obtain ⟨x⟩:=a
 obtain ⟨y⟩:=b
 congr 1
 exact Array.toList_inj.1 h
theorem ba_inj{a b:ByteArray}(h:a.toList=b.toList):a=b:=ba_ext (by rw [←ba_toList,←ba_toList,h])
def oneB(z:Int):ByteArray:=⟨#[UInt8.ofNat z.toNat]⟩
theorem strOf_one{z:Int}(h0:0≤z)(h1:z<256):strOf [[.lit (.int .u8 z)]]=some (oneB z):=by
 unfold strOf
 simp only [bytesL]
 rw [if_pos ⟨h0,h1⟩]
 rfl
theorem cat_r{a b x:ByteArray}(h:a.size+b.size≤9000000000000000000)(d:x=a++b):(if ((a.size+b.size:Nat):Int)≤9223372036854775807 then some (Value.string (a++b)) else none)=some (Value.string x):=by
 rw [if_pos (by omega),d]
theorem cat_q{a b x:ByteArray}(h:a.size+b.size≤9000000000000000000)(d:x=a++b):(if ((a.size:Nat):Int)+((b.size:Nat):Int)≤9223372036854775807 then some (Value.string (a++b)) else none)=some (Value.string x):=by
 rw [if_pos (by omega),d]
def bs(l:List UInt8):ByteArray:=⟨l.toArray⟩
theorem bs_data(l:List UInt8):(bs l).data.toList=l:=by simp [bs]
theorem bs_size(l:List UInt8):(bs l).size=l.length:=by
 show (bs l).data.size=_
 simp [bs]
theorem bs_app(l m:List UInt8):bs l++bs m=bs (l++m):=ba_ext (by simp [bs])
theorem bs_inj{l m:List UInt8}(h:bs l=bs m):l=m:=by
 have:=congrArg (fun a:ByteArray=>a.data.toList) h
 simpa [bs] using this
theorem bs_self(a:ByteArray):bs a.data.toList=a:=ba_ext (bs_data _)
def byL(s:ByteArray):List Int:=s.data.toList.map fun b=>(b.toNat:Int)
theorem strEls_by(s:ByteArray):strEls s=(byL s).map intU8C:=by
 unfold strEls byL
 rw [List.map_map]
 rfl
end
section
open Go.RowKit
open Lib (decDigits)
def dig(k:Nat):UInt8:=UInt8.ofNat (48+k)
theorem dd_lt{u:Nat}(h:u<10):decDigits u=[dig u]:=by rw [decDigits,dif_pos h];rfl
theorem dd_ge{u:Nat}(h:¬u<10):decDigits u=decDigits (u / 10)++[dig (u % 10)]:=by rw [decDigits,dif_neg h];rfl
theorem dd_ne(k:Nat):decDigits k≠[]:=by
 by_cases h:k<10
 ·rw [dd_lt h];simp
 ·rw [dd_ge h];simp
theorem dd_pos(k:Nat):0<(decDigits k).length:=List.length_pos_iff.2 (dd_ne k)
theorem repL(c:Nat):Lib.repeatL [48] c=List.replicate c 48:=by
 induction c with
 | zero=>rfl
 | succ c ih=>rw [Lib.repeatL,ih,List.replicate_succ];rfl
def dd0(k:Nat):List UInt8:=if k=0 then [] else decDigits k
end
section
open Go.RowKit
end
section
open Go.RowKit
end
section
open Go.RowKit
end
section
open Go.RowKit
end
end Go.Proofs.YtnegdhjdienjlaaGreatDoor
