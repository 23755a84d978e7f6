import Derived.Test.YtnegdhjdienjlaaGreatDoorGQ23
import Derived.Test.YtnegdhjdienjlaaGreatDoorGQ22
set_option linter.all false
set_option maxHeartbeats 6400000
set_option maxRecDepth 100000
namespace Go.Proofs.YtnegdhjdienjlaaGreatDoor
section
open Go.RowKit
open Lib (decDigits)
attribute [local irreducible] run runL loopG exec
def ngT(q:Rat):Bool:=(rawQ q).s
structure TxB (f:Form):Prop where
 l:f.1.length≤100
 t:∀t∈f.1,H t.2≤100∧0≤t.1∧t.1<9223372036854775808
 k:H f.2≤100
theorem bs_eq{a b:List UInt8}:bs a=bs b↔a=b:=⟨bs_inj,fun h=>by rw [h]⟩
section
variable {n : Nat}
theorem k_itoa{v:Int}(h0:0≤v)(h1:v<9223372036854775808):oItoa [.lit (.int .i64 v)]=some (.lit (.string (bs (decDigits v.toNat)))):=by
 simp only [oItoa]
 rw [if_pos ⟨by omega,by omega⟩]
 have e:Lib.itoa v=decDigits v.toNat:=by
  unfold Lib.itoa
  rw [if_neg (by omega)]
 rw [e]
 rfl
end
end
section
open Go.RowKit
def Srt(F:List (Int × Rat)):Prop:=F.Pairwise (fun a b=>a.1<b.1)∧∀t∈F,t.2≠0
def LBd(k:Int)(F:List (Int × Rat)):Prop:=∀t∈F,k<t.1
theorem Srt.nil:Srt []:=⟨List.Pairwise.nil,fun t ht=>by cases ht⟩
theorem Srt.tail{t:Int × Rat}{F:List (Int × Rat)}(h:Srt (t::F)):Srt F:=⟨(List.pairwise_cons.1 h.1).2,fun u hu=>h.2 u (by simp [hu])⟩
theorem Srt.head{t:Int × Rat}{F:List (Int × Rat)}(h:Srt (t::F)):LBd t.1 F:=fun u hu=>(List.pairwise_cons.1 h.1).1 u hu
theorem Srt.nz{t:Int × Rat}{F:List (Int × Rat)}(h:Srt (t::F)):t.2≠0:=h.2 t (by simp)
theorem LBd.mono{F:List (Int × Rat)}{k j:Int}(h:LBd k F)(hj:j≤k):LBd j F:=fun t ht=>by have:=h t ht;omega
end
section
open Go.RowKit
open Lib (decDigits)
def isD(c:UInt8):Bool:=decide (48≤c.toNat∧c.toNat≤57)
def qv(neg:Bool)(a d:Nat):Rat:=mkRat (sgi neg a) d
def dgV(D:List UInt8)(n:Nat):Nat:=D.foldl (fun n c=>n*10+(c.toNat-48)) n
theorem dig_nat{k:Nat}(h:k<10):(dig k).toNat=48+k:=by
 unfold dig
 rw [UInt8.toNat_ofNat']
 omega
theorem dig_d{k:Nat}(h:k<10):isD (dig k)=true:=by
 unfold isD
 rw [dig_nat h]
 simp;omega
theorem dd_d:∀(m u:Nat),u≤m→(∀c∈decDigits u,isD c=true)∧dgV (decDigits u) 0=u∧(0<u→∃c r,decDigits u=c::r∧c≠48)
 | m,u,hm=>by
   by_cases h:u<10
   ·rw [dd_lt h]
    refine ⟨fun c hc=>by rw [List.mem_singleton.1 hc];exact dig_d h,?_,fun h0=>⟨dig u,[],rfl,fun e=>?_⟩⟩
    ·show 0*10+((dig u).toNat-48)=u
     rw [dig_nat h];omega
    ·have:=dig_nat h
     rw [e] at this
     have e2:(48:UInt8).toNat=48:=rfl
     omega
   ·cases m with
    | zero=>omega
    | succ m=>
      obtain ⟨a1,a2,a3⟩:=dd_d m (u / 10) (by omega)
      obtain ⟨c,r,e,hc⟩:=a3 (by omega)
      rw [dd_ge h]
      have hr:u % 10<10:=Nat.mod_lt _ (by omega)
      refine ⟨fun c hc=>?_,?_,fun _=>⟨c,r++[dig (u % 10)],by rw [e];rfl,hc⟩⟩
      ·rcases List.mem_append.1 hc with h1|h1
       ·exact a1 c h1
       ·rw [List.mem_singleton.1 h1];exact dig_d hr
      ·unfold dgV at a2 ⊢
       rw [List.foldl_append,a2]
       show u / 10*10+((dig (u % 10)).toNat-48)=u
       rw [dig_nat hr];omega
theorem qv_of(q:Rat):qv (ngT q) q.num.natAbs q.den=q:=by
 unfold qv ngT
 rw [(rawQ_parts q).2.2]
 exact rat_back q
structure NB (q:Rat):Prop where
 n:(decDigits q.num.natAbs).length≤200
 d:(decDigits q.den).length≤200
theorem absT_hd(q:Rat)(r:List UInt8):∃c l,absT q++r=c::l∧isD c=true:=by
 unfold absT
 cases e:decDigits q.num.natAbs with
 | nil=>exact absurd e (dd_ne _)
 | cons c D=>
   have:=(dd_d q.num.natAbs q.num.natAbs (Nat.le_refl _)).1 c (by rw [e];simp)
   exact ⟨c,_,rfl,this⟩
theorem isD_ne{c d:UInt8}(h:isD c=true)(hd:isD d=false):c≠d:=fun e=>by rw [e,hd] at h;cases h
structure TmN (t:Int × Rat):Prop where
 q:NB t.2
 v0:0≤t.1
 v:(decDigits t.1.toNat).length≤9
end
end Go.Proofs.YtnegdhjdienjlaaGreatDoor
