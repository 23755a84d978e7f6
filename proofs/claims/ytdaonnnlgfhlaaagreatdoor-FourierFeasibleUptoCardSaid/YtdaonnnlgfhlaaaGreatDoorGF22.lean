import Derived.Test.YtdaonnnlgfhlaaaGreatDoorGF21
import Derived.Test.YtdaonnnlgfhlaaaGreatDoorGF19
import Derived.Test.YtdaonnnlgfhlaaaGreatDoorGF16
set_option linter.all false
set_option maxHeartbeats 6400000
set_option maxRecDepth 100000
namespace Go.Proofs.YtdaonnnlgfhlaaaGreatDoor
section
open Go.RowKit
open Lib (decDigits)
attribute [local irreducible] run runL loopG exec
theorem few_lmb{k:Nat}(h:(lmb k).length≤1000000):fewN (lmb k)=true:=Nat.ble_eq_true_of_le (by omega)
theorem k_div{k m:Nat}(hk:(lmb k).length≤1000000)(hm:(lmb m).length≤1000000)(h0:0<m):(oND fun x y=>.tup [natA (lmb (val x / val y)),natA (lmb (val x % val y)),.lit (.int .i64 0)]) [natA (lmb k),natA (lmb m)]=some (.tup [natA (lmb (k / m)),natA (lmb (k % m)),.lit (.int .i64 0)]):=by
 have hb:Nat.blt 0 m=true:=Nat.ble_eq_true_of_le h0
 simp only [oND,decN_nat (lim_lmb _),few_lmb hk,few_lmb hm,val_lmb,hb,Bool.and_self,if_true]
theorem k_uint{k:Nat}(h:k<18446744073709551616):(oN1 u64N fun x=>.tup [.lit (.int .u64 (val x:Nat)),.lit (.bool true)]) [natA (lmb k)]=some (.tup [.lit (.int .u64 (k:Int)),.lit (.bool true)]):=by
 have hl:(lmb k).length≤2:=lmb_len_le (by simpa using h)
 have h64:u64N (lmb k)=true:=by
  unfold u64N
  rw [val_lmb]
  exact Nat.ble_eq_true_of_le h
 simp only [oN1,decN_nat (lim_lmb _),few_lmb (show (lmb k).length≤1000000 by omega),h64,Bool.and_self,if_true,val_lmb]
theorem k_ofu{z:Int}(h0:0≤z)(h1:z<18446744073709551616):(oU fun k=>natA (lmb k)) [.lit (.int .u64 z)]=some (natA (lmb z.toNat)):=if_pos ⟨h0,h1⟩
theorem k_fu{d:Nat}(h:d<18446744073709551616):oFU [.lit (.int .u64 (d:Int)),.lit (.int .i64 10)]=some (.lit (.string (bs (decDigits d)))):=by
 have h1:(0:Int)≤(d:Int)∧(d:Int)<18446744073709551616:=⟨by omega,by omega⟩
 simp only [oFU]
 rw [if_pos h1,Int.toNat_natCast]
 rfl
theorem k_rep{l:List UInt8}(h:l.length≤9):oRepeat [.lit (.string (⟨#[48]⟩:ByteArray)),.lit (.int .i64 (9-((bs l).size:Int)))]=some (.lit (.string (bs (List.replicate (9-l.length) 48)))):=by
 have e:(9-((bs l).size:Int)).toNat=9-l.length:=by rw [bs_size];omega
 have e2:(⟨#[48]⟩:ByteArray).size=1:=rfl
 unfold oRepeat
 dsimp only
 rw [if_pos ⟨by rw [bs_size];omega,by rw [bs_size];omega,by rw [e,e2];omega⟩,e]
 rw [repL]
 rfl
theorem strsL_map(l:List ByteArray):strsL (l.map strC)=some l:=by
 induction l with
 | nil=>rfl
 | cons a l ih=>simp [strsL,ih]
theorem k_join{P:List (List UInt8)}(h1:P.length≤100000000)(h2:P.flatten.length≤100000000):oJoin [.sl 1 ((P.map bs).map strC),.lit (.string (⟨#[]⟩:ByteArray))]=some (.lit (.string (bs P.flatten))):=by
 have e:(P.map bs).map (fun (a:ByteArray)=>a.data.toList)=P:=by
  rw [List.map_map]
  conv=>rhs;rw [←List.map_id P]
  apply List.map_congr_left
  intro x _
  exact bs_data x
 have e2:(⟨#[]⟩:ByteArray).data.toList=[]:=rfl
 simp only [oJoin,strsL_map,e2,e,joinL]
 rw [if_pos ⟨by rw [List.length_map];omega,by omega⟩]
 rfl
def rv(L:List ByteArray)(i:Nat):List ByteArray:=(List.range L.length).map fun t=>if t<i∨L.length≤t+i then L.getD (L.length-1-t) ByteArray.empty else L.getD t ByteArray.empty
theorem rv_len(L:List ByteArray)(i:Nat):(rv L i).length=L.length:=by
 unfold rv
 rw [List.length_map,List.length_range]
theorem rv_get{L:List ByteArray}{i t:Nat}(ht:t<L.length):(rv L i)[t]?=some (if t<i∨L.length≤t+i then L.getD (L.length-1-t) ByteArray.empty else L.getD t ByteArray.empty):=by
 unfold rv
 rw [List.getElem?_map,List.getElem?_range ht]
 rfl
theorem rv_zero(L:List ByteArray):rv L 0=L:=by
 apply List.ext_getElem?
 intro t
 rcases Nat.lt_or_ge t L.length with ht|ht
 ·rw [rv_get ht,if_neg (by omega),List.getD_eq_getElem?_getD,List.getElem?_eq_getElem ht];rfl
 ·rw [List.getElem?_eq_none (by rw [rv_len];exact ht),List.getElem?_eq_none ht]
theorem rv_full{L:List ByteArray}{i:Nat}(h:L.length≤2*i+1):rv L i=L.reverse:=by
 apply List.ext_getElem?
 intro t
 rcases Nat.lt_or_ge t L.length with ht|ht
 ·have e:L.reverse[t]?=some (L.getD (L.length-1-t) ByteArray.empty):=by
   rw [List.getElem?_reverse ht,List.getD_eq_getElem?_getD,List.getElem?_eq_getElem (show L.length-1-t<L.length by omega)];rfl
  rw [rv_get ht,e]
  split
  ·rfl
  ·rename_i h1
   have:L.length-1-t=t:=by omega
   rw [this]
 ·rw [List.getElem?_eq_none (by rw [rv_len];exact ht),List.getElem?_eq_none (by rw [List.length_reverse];exact ht)]
theorem rv_step{L:List ByteArray}{i:Nat}(h:i+i+1<L.length):((rv L i).set i (L.getD (L.length-1-i) ByteArray.empty)).set (L.length-1-i) (L.getD i ByteArray.empty)=rv L (i+1):=by
 apply List.ext_getElem?
 intro t
 rcases Nat.lt_or_ge t L.length with ht|ht
 ·rw [rv_get ht]
  by_cases h1:t=L.length-1-i
  ·subst h1
   rw [List.getElem?_set_self (by rw [List.length_set,rv_len];exact ht),if_pos (.inr (by omega))]
   congr 2
   omega
  ·rw [List.getElem?_set_ne (fun e=>h1 e.symm)]
   by_cases h2:t=i
   ·subst h2
    rw [List.getElem?_set_self (by rw [rv_len];exact ht),if_pos (.inl (by omega))]
   ·rw [List.getElem?_set_ne (fun e=>h2 e.symm),rv_get ht]
    by_cases h3:t<i∨L.length≤t+i
    ·rw [if_pos h3,if_pos (by omega)]
    ·rw [if_neg h3,if_neg (by omega)]
 ·rw [List.getElem?_eq_none (by rw [List.length_set,List.length_set,rv_len];exact ht),List.getElem?_eq_none (by rw [rv_len];exact ht)]
theorem srv_c{n:Nat}{L:List ByteArray}(hl:L.length≤100000000):runL n 148 [.own 0 L.length] [.row 9 1 (L.map strC) 0]=some (.tup [],[(0,.row 9 1 (L.reverse.map strC) 0)]):=by
 obtain ⟨b,hL,hI⟩:=loopG_R (O:=tab n) (P:= Tryz.prog) (m:=1) (N:=28) (lives:=livesOf 148) (r:=1) (C:=srv_C1) (exN:=.exit 0) (M:=L.length / 2) (enc:=fun i (_:Unit)=>srv_h1 (rv L i) i ((L.length:Int)-1-(i:Int))) (out:=fun _=>srv_o1a L.reverse)
  (fun i _=>i≤L.length / 2) () (by omega) (by omega) (fun h=>by cases h)
  (fun i _ hi hI=>by
   have e:((L.length:Int)-1-(i:Int)).toNat=L.length-1-i:=by omega
   have h1:(rv L i)[((L.length:Int)-1-(i:Int)).toNat]?=some (L.getD (L.length-1-i) ByteArray.empty):=by
    rw [e,rv_get (by omega),if_neg (by omega)]
   have h2:(rv L i)[i]?=some (L.getD i ByteArray.empty):=by rw [rv_get (by omega),if_neg (by omega)]
   have R:=srv_r1_1 (n:=n) (i_1:=i) (i2_1:=(L.length:Int)-1-(i:Int)) (out_1:=rv L i) (by omega) (by rw [rv_len];omega) (by omega) h1 (by omega) (by rw [rv_len];omega) h2 ⟨by omega,by omega⟩ ⟨by omega,by omega⟩
   rw [e,rv_step (by omega)] at R
   have e2:(L.length:Int)-1-(i:Int)-1=(L.length:Int)-1-((i+1:Nat):Int):=by omega
   rw [e2] at R
   exact ⟨(),R,by omega⟩)
  (fun _ _=>by
   have R:=srv_x1_1 (n:=n) (i_1:=L.length / 2) (i2_1:=(L.length:Int)-1-((L.length / 2:Nat):Int)) (out_1:=rv L (L.length / 2)) (by omega)
   have e:srv_o1a (rv L (L.length / 2))=srv_o1a L.reverse:=by rw [rv_full (by omega)]
   rw [e] at R
   exact R)
 rw [rv_zero] at hL
 have e:(L.length:Int)-1-((0:Nat):Int)=(L.length:Int)-1:=by omega
 rw [e] at hL
 exact srv_f1 ⟨by omega,by omega⟩ hL
theorem ldc_c{n K:Nat}(hK:(lmb K).length≤100000):run (n+5) 141 [natA (lmb K)]=some (.lit (.string (bs (decDigits K)))):=by
 by_cases h0:K=0
 ·subst h0
  have e:bs (decDigits 0)=(⟨#[48]⟩:ByteArray):=by rw [dd_lt (by omega)];rfl
  rw [e]
  exact ldc_f1 (by rw [lmb_zero];rfl)
 have h9:(lmb 1000000000).length≤1000000:=by decide+kernel
 have hbits:K<2 ^ (32*(lmb K).length):=by
  have:=val_lt (lim_lmb K)
  rw [val_lmb] at this
  rwa [Nat.pow_mul]
 have hM:=rnd_le (32*(lmb K).length) K
 have hdd:=dd_bits _ K hbits
 obtain ⟨s,hL,hI⟩:=loopG_R (O:=tab (n+5)) (P:= Tryz.prog) (m:=0) (N:=50) (lives:=livesOf 141) (r:=5) (C:=ldc_C5) (exN:=.exit 0) (M:=rnd (32*(lmb K).length) K) (enc:=fun i (s:Nat × List (List UInt8))=>ldc_h5 (lmb s.1) (lmb 1000000000) (s.2.map bs)) (out:=fun s=>ldc_o5a (s.2.map bs))
  (fun i s=>s.1≤K∧rnd (32*(lmb K).length) s.1+i=rnd (32*(lmb K).length) K∧s.2.length=i∧dd0 s.1++s.2.reverse.flatten=dd0 K) (K,[]) ⟨Nat.le_refl _,rfl,rfl,by simp⟩ (by omega) (fun h=>by cases h)
  (fun i s hi hI=>by
   obtain ⟨k,parts⟩:=s
   obtain ⟨i1,i2,i3,i4⟩:=hI
   dsimp only at i1 i2 i3 i4 ⊢
   have hk0:0<k:=by
    rcases Nat.eq_zero_or_pos k with h|h
    ·subst h;rw [rnd_zero] at i2;omega
    ·exact h
   have hkl:(lmb k).length≤(lmb K).length:=lmb_len_mono i1
   have hp:0<(lmb k).length:=by rw [lmb_pos hk0];simp
   have hlim:k<2 ^ (32*(lmb K).length):=Nat.lt_of_le_of_lt i1 hbits
   have hr:rnd (32*(lmb K).length) k=rnd (32*(lmb K).length) (k / 1000000000)+1:=by
    obtain ⟨f,hf⟩:∃f,32*(lmb K).length=f+1:=⟨32*(lmb K).length-1,by omega⟩
    rw [hf] at hlim ⊢
    rw [rnd,if_neg (by omega)]
    congr 1
    rw [Nat.pow_succ] at hlim
    exact rnd_enough f (f+1) _ (by omega) (by rw [Nat.pow_succ];omega)
   obtain ⟨d1,d2⟩:=dd0_step hk0
   have K2:=k_div (k:=k) (m:=1000000000) (by omega) h9 (by omega)
   have hrm:k % 1000000000<18446744073709551616:=by omega
   have K3:=k_uint hrm
   have K4:=k_fu hrm
   by_cases hq:0<k / 1000000000
   ·rw [if_pos hq] at d1
    have hql:0<(lmb (k / 1000000000)).length:=by rw [lmb_pos hq];simp
    refine ⟨(k / 1000000000,parts++[List.replicate (9-(decDigits (k % 1000000000)).length) 48++decDigits (k % 1000000000)]),?_,Nat.le_trans (Nat.div_le_self _ _) i1,by dsimp only;omega,by simp [i3],?_⟩
    ·have R:=ldc_r5_1 (n:=n) (out_5:=parts.map bs) (by omega) K2 K3 K4 (by omega) ⟨by rw [bs_size];omega,by rw [bs_size];omega⟩ (k_rep d2) (by rw [bs_size,bs_size,List.length_replicate];omega) (bs_app _ _).symm (by rw [List.length_map];omega)
     have e:parts.map bs++[bs (List.replicate (9-(decDigits (k % 1000000000)).length) 48++decDigits (k % 1000000000))]=(parts++[List.replicate (9-(decDigits (k % 1000000000)).length) 48++decDigits (k % 1000000000)]).map bs:=by simp
     rw [e] at R
     exact R
    ·dsimp only
     rw [List.reverse_append,List.reverse_singleton,List.singleton_append,List.flatten_cons,←List.append_assoc,←d1]
     exact i4
   ·rw [if_neg hq] at d1
    have hq0:k / 1000000000=0:=by omega
    refine ⟨(k / 1000000000,parts++[decDigits (k % 1000000000)]),?_,Nat.le_trans (Nat.div_le_self _ _) i1,by dsimp only;omega,by simp [i3],?_⟩
    ·have R:=ldc_r5_2 (n:=n) (out_5:=parts.map bs) (by omega) K2 K3 K4 (by rw [hq0,lmb_zero];simp) (by rw [List.length_map];omega)
     have e:parts.map bs++[bs (decDigits (k % 1000000000))]=(parts++[decDigits (k % 1000000000)]).map bs:=by simp
     rw [e] at R
     exact R
    ·dsimp only
     rw [List.reverse_append,List.reverse_singleton,List.singleton_append,List.flatten_cons,←List.append_assoc,←d1]
     exact i4)
  (fun s hI=>by
   obtain ⟨k,parts⟩:=s
   obtain ⟨i1,i2,i3,i4⟩:=hI
   dsimp only at i1 i2 i3 i4 ⊢
   have hk0:k=0:=by
    rcases Nat.eq_zero_or_pos k with h|h
    ·exact h
    ·exfalso
     have hp:0<32*(lmb K).length:=by
      have hkl:(lmb k).length≤(lmb K).length:=lmb_len_mono i1
      have:0<(lmb k).length:=by rw [lmb_pos h];simp
      omega
     obtain ⟨f,hf⟩:∃f,32*(lmb K).length=f+1:=⟨32*(lmb K).length-1,by omega⟩
     rw [hf,rnd,if_neg (by omega)] at i2
     omega
   subst hk0
   exact ldc_x5_1 (by rw [lmb_zero];simp))
 obtain ⟨k,parts⟩:=s
 obtain ⟨i1,i2,i3,i4⟩:=hI
 dsimp only at i1 i2 i3 i4 hL
 have hk0:k=0:=by
  rcases Nat.eq_zero_or_pos k with h|h
  ·exact h
  ·exfalso
   have hp:0<32*(lmb K).length:=by
    have hkl:(lmb k).length≤(lmb K).length:=lmb_len_mono i1
    have:0<(lmb k).length:=by rw [lmb_pos h];simp
    omega
   obtain ⟨f,hf⟩:∃f,32*(lmb K).length=f+1:=⟨32*(lmb K).length-1,by omega⟩
   rw [hf] at i2
   have e:rnd (f+1) k=rnd f (k / 1000000000)+1:=by rw [rnd,if_neg (by omega)]
   omega
 subst hk0
 have e0:dd0 0=[]:=rfl
 have e1:dd0 K=decDigits K:=if_neg h0
 rw [e0,List.nil_append,e1] at i4
 have V:=srv_c (n:=n+4) (L:=parts.map bs) (by rw [List.length_map];omega)
 have J:=k_join (P:=parts.reverse) (by rw [List.length_reverse];omega) (by rw [i4];omega)
 rw [i4,List.map_reverse] at J
 exact ldc_f2 (by have:0<(lmb K).length:=by rw [lmb_pos (by omega)];simp
                  omega) (HR:=by rw [List.length_reverse]) (k_ofu (z:=1000000000) (by omega) (by omega)) hL V J
end
section
open Go.RowKit
section
variable {a0 : Rat} {cat2 : ByteArray} {r2 : ByteArray} {r : ByteArray} {cat : ByteArray} {n : Nat}
theorem lsz_f1(K1:run (n+5) 141 [natA (rawQ a0).l1]=some (.lit (.string r)))(C2:0<((rawQ a0).l2.length:Int))(K3:run (n+5) 141 [natA (rawQ a0).l2]=some (.lit (.string r2)))(S4:(⟨#[47]⟩:ByteArray).size+r2.size≤9000000000000000000)(D4:cat=(⟨#[47]⟩:ByteArray)++r2)(S5:r.size+cat.size≤9000000000000000000)(D5:cat2=r++cat):
  run (n+6) 119 [ratV a0]=some (.lit (.string cat2)):=by
 have C2_:0<(rawQ a0).l2.length:=by omega
 have S4_q:=cat_q S4 D4
 have S5_q:=cat_q S5 D5
 unfold run fnP
 simp+decide [Tryz.f119,K1,C2_,K3,S4_q,S5_q]
theorem lsz_f2(K1:run (n+5) 141 [natA (rawQ a0).l1]=some (.lit (.string r)))(C2:¬0<((rawQ a0).l2.length:Int)):
  run (n+6) 119 [ratV a0]=some (.lit (.string r)):=by
 have C2_:¬0<(rawQ a0).l2.length:=by omega
 unfold run fnP
 simp+decide [Tryz.f119,K1,C2_]
end
end
section
open Go.RowKit
end
section
open Go.RowKit
end
section
open Go.RowKit
end
section
open Go.RowKit
open Lib (decDigits)
attribute [local irreducible] run runL loopG exec
def absT(q:Rat):List UInt8:=decDigits q.num.natAbs++if q.den=1 then [] else 47::decDigits q.den
theorem absT_len{q:Rat}(h:H q≤100000):(absT q).length≤7000000:=by
 have bits:∀K:Nat,K<2 ^ (32*(lmb K).length):=fun K=>by
  have:=val_lt (lim_lmb K)
  rw [val_lmb] at this
  rwa [Nat.pow_mul]
 have h1:=dd_bits _ _ (bits q.num.natAbs)
 have h2:=dd_bits _ _ (bits q.den)
 have a1:(lmb q.num.natAbs).length≤H q:=Nat.le_max_left _ _
 have a2:(lmb q.den).length≤H q:=Nat.le_max_right _ _
 unfold absT
 rw [List.length_append]
 split
 ·simp;omega
 ·simp;omega
theorem rawQ_parts(q:Rat):(rawQ q).l1=lmb q.num.natAbs∧(rawQ q).l2=(if q.den=1 then [] else lmb q.den)∧(rawQ q).s=decide (q.num<0):=⟨rfl,rfl,rfl⟩
theorem den_pos(q:Rat):0<(lmb q.den).length:=by rw [lmb_pos q.den_pos];simp
theorem lsz_c{n:Nat}{q:Rat}(hq:H q≤100000):run (n+6) 119 [ratV q]=some (.lit (.string (bs (absT q)))):=by
 have a1:(lmb q.num.natAbs).length≤H q:=Nat.le_max_left _ _
 have a2:(lmb q.den).length≤H q:=Nat.le_max_right _ _
 have ht:=absT_len hq
 have K1:=ldc_c (n:=n) (K:=q.num.natAbs) (by omega)
 by_cases h:q.den=1
 ·have e:absT q=decDigits q.num.natAbs:=by unfold absT;rw [if_pos h,List.append_nil]
  rw [e]
  exact lsz_f2 K1 (by rw [(rawQ_parts q).2.1,if_pos h];simp)
 ·have e:bs (absT q)=bs (decDigits q.num.natAbs)++((⟨#[47]⟩:ByteArray)++bs (decDigits q.den)):=by
   unfold absT
   rw [if_neg h]
   have e2:(⟨#[47]⟩:ByteArray)=bs [47]:=rfl
   rw [e2,bs_app,bs_app];rfl
  have el:(rawQ q).l2=lmb q.den:=by rw [(rawQ_parts q).2.1,if_neg h]
  have K3:=ldc_c (n:=n) (K:=q.den) (by omega)
  rw [←el] at K3
  have hd:=den_pos q
  unfold absT at ht
  rw [if_neg h,List.length_append,List.length_cons] at ht
  have s1:(⟨#[47]⟩:ByteArray).size+(bs (decDigits q.den)).size≤9000000000000000000:=by rw [bs_size];show 1+_≤_;omega
  have s2:(bs (decDigits q.num.natAbs)).size+((⟨#[47]⟩:ByteArray)++bs (decDigits q.den)).size≤9000000000000000000:=by
   have e2:(⟨#[47]⟩:ByteArray)=bs [47]:=rfl
   rw [e2,bs_app,bs_size,bs_size];simp;omega
  exact lsz_f1 K1 (by rw [el];omega) K3 s1 rfl s2 e
def jn(a:List UInt8)(neg:Bool)(p:List UInt8):List UInt8:=if a=[] then (if neg=true then 45::p else p) else a++((if neg=true then [32,45,32] else [32,43,32])++p)
theorem jn_len(a:List UInt8)(neg:Bool)(p:List UInt8):(jn a neg p).length≤a.length+p.length+3:=by
 unfold jn
 split
 ·split
  ·rw [List.length_cons];omega
  ·omega
 ·rw [List.length_append,List.length_append]
  split <;>simp <;>omega
end
section
open Go.RowKit
noncomputable def ltx_C4:Code:=(loopsOf (bodyOf Tryz.f84)).getD 0 .skip
def ltx_h4(a0:Form)(i_4:Nat):St:=
 ⟨[(1,.ptr 0 0),(3,.ptr 1 0),(4,.clo 115 [.ptr 1 0]),(11,.sl 4 (a0.1.map termC)),(12,.lit (.int .i64 (a0.1.length:Int))),(13,.lit (.int .i64 (i_4:Int)))],
  [(0,some (.box 28 [.sl 4 (a0.1.map termC),.lit (.bool (rawQ a0.2).s),natA (rawQ a0.2).l1,natA (rawQ a0.2).l2] false)),
   (1,some (.box 137 [(.lit (.pointer none)),.nl 1] false))],2⟩
def ltx_o4a(a0:Form):St:=
 ⟨[(1,.ptr 0 0),(3,.ptr 1 0),(4,.clo 115 [.ptr 1 0])],
  [(0,some (.box 28 [.sl 4 (a0.1.map termC),.lit (.bool (rawQ a0.2).s),natA (rawQ a0.2).l1,natA (rawQ a0.2).l2] false)),
   (1,some (.box 137 [(.lit (.pointer none)),.nl 1] false))],2⟩
theorem ltx_x4_1{n:Nat}{a0:Form}{i_4:Nat}(C1:¬(i_4:Int)<(a0.1.length:Int)):
  Leave 0 (exec Tryz.prog (tab (n+7)) 0 55 (livesOf 84) big ltx_C4) (livesOf 84 (outOf 4)) (ltx_h4 a0 i_4) (.exit 0) (ltx_o4a a0):=by
 unfold Leave
 simp+decide [ltx_h4,loopsOf, Tryz.f84,ltx_o4a,ltx_C4,C1]
end
section
open Go.RowKit
def ltx_hN(a0:Form)(i_4:Nat)(ab:ByteArray):St:=
 ⟨[(1,.ptr 0 0),(3,.ptr 1 0),(4,.clo 115 [.ptr 1 0]),(11,.sl 4 (a0.1.map termC)),(12,.lit (.int .i64 (a0.1.length:Int))),(13,.lit (.int .i64 (i_4:Int)))],
  [(0,some (.box 28 [.sl 4 (a0.1.map termC),.lit (.bool (rawQ a0.2).s),natA (rawQ a0.2).l1,natA (rawQ a0.2).l2] false)),
   (1,some (.box 137 [.ptr 1 0,.own 2 ab.size] false)),
   (2,some (.row 5 1 (strEls ab) 0))],3⟩
def ltx_oN(a0:Form)(ab:ByteArray):St:=
 ⟨[(1,.ptr 0 0),(3,.ptr 1 0),(4,.clo 115 [.ptr 1 0])],
  [(0,some (.box 28 [.sl 4 (a0.1.map termC),.lit (.bool (rawQ a0.2).s),natA (rawQ a0.2).l1,natA (rawQ a0.2).l2] false)),
   (1,some (.box 137 [.ptr 1 0,.own 2 ab.size] false)),
   (2,some (.row 5 1 (strEls ab) 0))],3⟩
theorem ltE1_1{n:Nat}{rb:ByteArray}{a0:Form}{i_4:Nat}{v3:Int}{q3:Rat}{r5:ByteArray}{cat7:ByteArray}{r6:ByteArray}{cat8:ByteArray}{cat9:ByteArray}(C1:(i_4:Int)<(a0.1.length:Int))(E2:a0.1[i_4]?=some (v3,q3))(K3:(oItoa) [.lit (.int .i64 v3)]=some (.lit (.string r5)))(S4:(⟨#[120]⟩:ByteArray).size+r5.size≤9000000000000000000)(D4:cat7=(⟨#[120]⟩:ByteArray)++r5)(K5:run (n+6) 119 [ratV q3]=some (.lit (.string r6)))(C6:¬r6=(⟨#[49]⟩:ByteArray))(S7:r6.size+(⟨#[42]⟩:ByteArray).size≤9000000000000000000)(D7:cat8=r6++(⟨#[42]⟩:ByteArray))(S8:cat8.size+cat7.size≤9000000000000000000)(D8:cat9=cat8++cat7)(K9:runL (n+6) 115 [.lit (.bool (rawQ q3).s),.lit (.string cat9),.ptr 0 0] [.box 137 [(.lit (.pointer none)),.nl 1] false]=some (.tup [],[(0,.box 137 [.ptr 0 0,.own 1 rb.size] false),(1,.row 5 1 (strEls rb) 0)]))(W10:InI ((i_4:Int)+1)):
  Cont 0 (exec Tryz.prog (tab (n+7)) 0 55 (livesOf 84) big ltx_C4) (livesOf 84 4) (ltx_h4 a0 i_4) (ltx_hN a0 (i_4+1) rb):=by
 obtain ⟨ks0,hks0⟩:∃k:ByteArray,(⟨#[42]⟩:ByteArray)=k:=⟨_,rfl⟩
 rw [hks0] at S7 D7
 have C1_:i_4<a0.1.length:=by omega
 obtain ⟨EL2,EG2⟩:=List.getElem?_eq_some_iff.1 E2
 have S4_q:=cat_q S4 D4
 simp only [ratV] at K5
 have C6_:(r6.toList==(⟨#[49]⟩:ByteArray).toList)=false:=by rw [beq_eq_false_iff_ne];exact fun h=>C6 (ba_inj h)
 have C6_k:(r6.toList==([49]:List UInt8))=false:=by rw [show ([49]:List UInt8)=(⟨#[49]⟩:ByteArray).toList by rw [ba_toList]];exact C6_
 have S7_q:=cat_q S7 D7
 have S8_q:=cat_q S8 D8
 have W10_:IntKind.i64.wrap ((i_4:Int)+1)=(i_4:Int)+1:=wr64 W10.1 W10.2
 unfold Cont
 simp+decide [ltx_h4,ltx_hN,loopsOf, Tryz.f84,ltx_C4,C1,C1_,EG2,K3,S4_q,K5,C6_k,S7_q,S8_q,K9,W10_,hks0]
theorem ltE2_1{n:Nat}{rb:ByteArray}{a0:Form}{i_4:Nat}{v3:Int}{q3:Rat}{r5:ByteArray}{cat7:ByteArray}{r6:ByteArray}{cat8:ByteArray}{cat9:ByteArray}(C1:(i_4:Int)<(a0.1.length:Int))(E2:a0.1[i_4]?=some (v3,q3))(K3:(oItoa) [.lit (.int .i64 v3)]=some (.lit (.string r5)))(S4:(⟨#[120]⟩:ByteArray).size+r5.size≤9000000000000000000)(D4:cat7=(⟨#[120]⟩:ByteArray)++r5)(K5:run (n+6) 119 [ratV q3]=some (.lit (.string r6)))(C6:¬r6=(⟨#[49]⟩:ByteArray))(S7:r6.size+(⟨#[42]⟩:ByteArray).size≤9000000000000000000)(D7:cat8=r6++(⟨#[42]⟩:ByteArray))(S8:cat8.size+cat7.size≤9000000000000000000)(D8:cat9=cat8++cat7)(K9:runL (n+6) 115 [.lit (.bool (rawQ q3).s),.lit (.string cat9),.ptr 0 0] [.box 137 [(.lit (.pointer none)),.nl 1] false]=some (.tup [],[(0,.box 137 [.ptr 0 0,.own 2 rb.size] false),(2,.row 5 1 (strEls rb) 0)]))(W10:InI ((i_4:Int)+1)):
  Cont 0 (exec Tryz.prog (tab (n+7)) 0 55 (livesOf 84) big ltx_C4) (livesOf 84 4) (ltx_h4 a0 i_4) (ltx_hN a0 (i_4+1) rb):=by
 obtain ⟨ks0,hks0⟩:∃k:ByteArray,(⟨#[42]⟩:ByteArray)=k:=⟨_,rfl⟩
 rw [hks0] at S7 D7
 have C1_:i_4<a0.1.length:=by omega
 obtain ⟨EL2,EG2⟩:=List.getElem?_eq_some_iff.1 E2
 have S4_q:=cat_q S4 D4
 simp only [ratV] at K5
 have C6_:(r6.toList==(⟨#[49]⟩:ByteArray).toList)=false:=by rw [beq_eq_false_iff_ne];exact fun h=>C6 (ba_inj h)
 have C6_k:(r6.toList==([49]:List UInt8))=false:=by rw [show ([49]:List UInt8)=(⟨#[49]⟩:ByteArray).toList by rw [ba_toList]];exact C6_
 have S7_q:=cat_q S7 D7
 have S8_q:=cat_q S8 D8
 have W10_:IntKind.i64.wrap ((i_4:Int)+1)=(i_4:Int)+1:=wr64 W10.1 W10.2
 unfold Cont
 simp+decide [ltx_h4,ltx_hN,loopsOf, Tryz.f84,ltx_C4,C1,C1_,EG2,K3,S4_q,K5,C6_k,S7_q,S8_q,K9,W10_,hks0]
theorem ltN_1{n:Nat}{ab rb:ByteArray}{a0:Form}{i_4:Nat}{v3:Int}{q3:Rat}{r5:ByteArray}{cat7:ByteArray}{r6:ByteArray}{cat8:ByteArray}{cat9:ByteArray}(C1:(i_4:Int)<(a0.1.length:Int))(E2:a0.1[i_4]?=some (v3,q3))(K3:(oItoa) [.lit (.int .i64 v3)]=some (.lit (.string r5)))(S4:(⟨#[120]⟩:ByteArray).size+r5.size≤9000000000000000000)(D4:cat7=(⟨#[120]⟩:ByteArray)++r5)(K5:run (n+6) 119 [ratV q3]=some (.lit (.string r6)))(C6:¬r6=(⟨#[49]⟩:ByteArray))(S7:r6.size+(⟨#[42]⟩:ByteArray).size≤9000000000000000000)(D7:cat8=r6++(⟨#[42]⟩:ByteArray))(S8:cat8.size+cat7.size≤9000000000000000000)(D8:cat9=cat8++cat7)(K9:runL (n+6) 115 [.lit (.bool (rawQ q3).s),.lit (.string cat9),.ptr 0 0] [.box 137 [.ptr 0 0,.own 1 ab.size] false,.row 5 1 (strEls ab) 0]=some (.tup [],[(0,.box 137 [.ptr 0 0,.own 3 rb.size] false),(3,.row 5 1 (strEls rb) 0)]))(W10:InI ((i_4:Int)+1)):
  Cont 0 (exec Tryz.prog (tab (n+7)) 0 55 (livesOf 84) big ltx_C4) (livesOf 84 4) (ltx_hN a0 i_4 ab) (ltx_hN a0 (i_4+1) rb):=by
 obtain ⟨ks0,hks0⟩:∃k:ByteArray,(⟨#[42]⟩:ByteArray)=k:=⟨_,rfl⟩
 rw [hks0] at S7 D7
 have C1_:i_4<a0.1.length:=by omega
 obtain ⟨EL2,EG2⟩:=List.getElem?_eq_some_iff.1 E2
 have S4_q:=cat_q S4 D4
 simp only [ratV] at K5
 have C6_:(r6.toList==(⟨#[49]⟩:ByteArray).toList)=false:=by rw [beq_eq_false_iff_ne];exact fun h=>C6 (ba_inj h)
 have C6_k:(r6.toList==([49]:List UInt8))=false:=by rw [show ([49]:List UInt8)=(⟨#[49]⟩:ByteArray).toList by rw [ba_toList]];exact C6_
 have S7_q:=cat_q S7 D7
 have S8_q:=cat_q S8 D8
 have W10_:IntKind.i64.wrap ((i_4:Int)+1)=(i_4:Int)+1:=wr64 W10.1 W10.2
 unfold Cont
 simp+decide [ltx_hN,loopsOf, Tryz.f84,ltx_C4,C1,C1_,EG2,K3,S4_q,K5,C6_k,S7_q,S8_q,K9,W10_,hks0]
theorem ltE1_2{n:Nat}{rb:ByteArray}{a0:Form}{i_4:Nat}{v3:Int}{q3:Rat}{r5:ByteArray}{cat7:ByteArray}{r6:ByteArray}(C1:(i_4:Int)<(a0.1.length:Int))(E2:a0.1[i_4]?=some (v3,q3))(K3:(oItoa) [.lit (.int .i64 v3)]=some (.lit (.string r5)))(S4:(⟨#[120]⟩:ByteArray).size+r5.size≤9000000000000000000)(D4:cat7=(⟨#[120]⟩:ByteArray)++r5)(K5:run (n+6) 119 [ratV q3]=some (.lit (.string r6)))(C6:r6=(⟨#[49]⟩:ByteArray))(K7:runL (n+6) 115 [.lit (.bool (rawQ q3).s),.lit (.string cat7),.ptr 0 0] [.box 137 [(.lit (.pointer none)),.nl 1] false]=some (.tup [],[(0,.box 137 [.ptr 0 0,.own 1 rb.size] false),(1,.row 5 1 (strEls rb) 0)]))(W8:InI ((i_4:Int)+1)):
  Cont 0 (exec Tryz.prog (tab (n+7)) 0 55 (livesOf 84) big ltx_C4) (livesOf 84 4) (ltx_h4 a0 i_4) (ltx_hN a0 (i_4+1) rb):=by
 have C1_:i_4<a0.1.length:=by omega
 obtain ⟨EL2,EG2⟩:=List.getElem?_eq_some_iff.1 E2
 have S4_q:=cat_q S4 D4
 simp only [ratV] at K5
 have C6_:(r6.toList==(⟨#[49]⟩:ByteArray).toList)=true:=by rw [C6];simp
 have C6_k:(r6.toList==([49]:List UInt8))=true:=by rw [show ([49]:List UInt8)=(⟨#[49]⟩:ByteArray).toList by rw [ba_toList]];exact C6_
 have W8_:IntKind.i64.wrap ((i_4:Int)+1)=(i_4:Int)+1:=wr64 W8.1 W8.2
 unfold Cont
 simp+decide [ltx_h4,ltx_hN,loopsOf, Tryz.f84,ltx_C4,C1,C1_,EG2,K3,S4_q,K5,C6_k,K7,W8_]
theorem ltE2_2{n:Nat}{rb:ByteArray}{a0:Form}{i_4:Nat}{v3:Int}{q3:Rat}{r5:ByteArray}{cat7:ByteArray}{r6:ByteArray}(C1:(i_4:Int)<(a0.1.length:Int))(E2:a0.1[i_4]?=some (v3,q3))(K3:(oItoa) [.lit (.int .i64 v3)]=some (.lit (.string r5)))(S4:(⟨#[120]⟩:ByteArray).size+r5.size≤9000000000000000000)(D4:cat7=(⟨#[120]⟩:ByteArray)++r5)(K5:run (n+6) 119 [ratV q3]=some (.lit (.string r6)))(C6:r6=(⟨#[49]⟩:ByteArray))(K7:runL (n+6) 115 [.lit (.bool (rawQ q3).s),.lit (.string cat7),.ptr 0 0] [.box 137 [(.lit (.pointer none)),.nl 1] false]=some (.tup [],[(0,.box 137 [.ptr 0 0,.own 2 rb.size] false),(2,.row 5 1 (strEls rb) 0)]))(W8:InI ((i_4:Int)+1)):
  Cont 0 (exec Tryz.prog (tab (n+7)) 0 55 (livesOf 84) big ltx_C4) (livesOf 84 4) (ltx_h4 a0 i_4) (ltx_hN a0 (i_4+1) rb):=by
 have C1_:i_4<a0.1.length:=by omega
 obtain ⟨EL2,EG2⟩:=List.getElem?_eq_some_iff.1 E2
 have S4_q:=cat_q S4 D4
 simp only [ratV] at K5
 have C6_:(r6.toList==(⟨#[49]⟩:ByteArray).toList)=true:=by rw [C6];simp
 have C6_k:(r6.toList==([49]:List UInt8))=true:=by rw [show ([49]:List UInt8)=(⟨#[49]⟩:ByteArray).toList by rw [ba_toList]];exact C6_
 have W8_:IntKind.i64.wrap ((i_4:Int)+1)=(i_4:Int)+1:=wr64 W8.1 W8.2
 unfold Cont
 simp+decide [ltx_h4,ltx_hN,loopsOf, Tryz.f84,ltx_C4,C1,C1_,EG2,K3,S4_q,K5,C6_k,K7,W8_]
theorem ltN_2{n:Nat}{ab rb:ByteArray}{a0:Form}{i_4:Nat}{v3:Int}{q3:Rat}{r5:ByteArray}{cat7:ByteArray}{r6:ByteArray}(C1:(i_4:Int)<(a0.1.length:Int))(E2:a0.1[i_4]?=some (v3,q3))(K3:(oItoa) [.lit (.int .i64 v3)]=some (.lit (.string r5)))(S4:(⟨#[120]⟩:ByteArray).size+r5.size≤9000000000000000000)(D4:cat7=(⟨#[120]⟩:ByteArray)++r5)(K5:run (n+6) 119 [ratV q3]=some (.lit (.string r6)))(C6:r6=(⟨#[49]⟩:ByteArray))(K7:runL (n+6) 115 [.lit (.bool (rawQ q3).s),.lit (.string cat7),.ptr 0 0] [.box 137 [.ptr 0 0,.own 1 ab.size] false,.row 5 1 (strEls ab) 0]=some (.tup [],[(0,.box 137 [.ptr 0 0,.own 3 rb.size] false),(3,.row 5 1 (strEls rb) 0)]))(W8:InI ((i_4:Int)+1)):
  Cont 0 (exec Tryz.prog (tab (n+7)) 0 55 (livesOf 84) big ltx_C4) (livesOf 84 4) (ltx_hN a0 i_4 ab) (ltx_hN a0 (i_4+1) rb):=by
 have C1_:i_4<a0.1.length:=by omega
 obtain ⟨EL2,EG2⟩:=List.getElem?_eq_some_iff.1 E2
 have S4_q:=cat_q S4 D4
 simp only [ratV] at K5
 have C6_:(r6.toList==(⟨#[49]⟩:ByteArray).toList)=true:=by rw [C6];simp
 have C6_k:(r6.toList==([49]:List UInt8))=true:=by rw [show ([49]:List UInt8)=(⟨#[49]⟩:ByteArray).toList by rw [ba_toList]];exact C6_
 have W8_:IntKind.i64.wrap ((i_4:Int)+1)=(i_4:Int)+1:=wr64 W8.1 W8.2
 unfold Cont
 simp+decide [ltx_hN,loopsOf, Tryz.f84,ltx_C4,C1,C1_,EG2,K3,S4_q,K5,C6_k,K7,W8_]
theorem ltN_x{n:Nat}{ab:ByteArray}{a0:Form}{i_4:Nat}(C1:¬(i_4:Int)<(a0.1.length:Int)):
  Leave 0 (exec Tryz.prog (tab (n+7)) 0 55 (livesOf 84) big ltx_C4) (livesOf 84 (outOf 4)) (ltx_hN a0 i_4 ab) (.exit 0) (ltx_oN a0 ab):=by
 unfold Leave
 simp+decide [ltx_hN,loopsOf, Tryz.f84,ltx_oN,ltx_C4,C1]
theorem ltFE1{n:Nat}{rb:ByteArray}{a0:Form}{r8:ByteArray}{r10:ByteArray}(L1:loopG Tryz.prog (tab (n+7)) 0 55 (livesOf 84) 4 ltx_C4 (ltx_h4 a0 0)=some (.exit 0,ltx_o4a a0))(C2:0<((rawQ a0.2).l1.length:Int))(K3:run (n+6) 119 [ratV a0.2]=some (.lit (.string r8)))(K4:runL (n+6) 115 [.lit (.bool (rawQ a0.2).s),.lit (.string r8),.ptr 0 0] [.box 137 [(.lit (.pointer none)),.nl 1] false]=some (.tup [],[(0,.box 137 [.ptr 0 0,.own 1 rb.size] false),(1,.row 5 1 (strEls rb) 0)]))(K5:runL (n+6) 120 [.ptr 0 0] [.box 137 [.ptr 0 0,.own 1 rb.size] false,.row 5 1 (strEls rb) 0]=some (.lit (.string r10),[(0,.box 137 [.ptr 0 0,.own 1 rb.size] false)])):
  run (n+7) 84 [formV a0]=some (.lit (.string r10)):=by
 have C2_:0<(rawQ a0.2).l1.length:=by omega
 simp only [ratV] at K3
 unfold run fnP
 simp+decide [Tryz.f84]
 rw [loopX_G (C':=ltx_C4) (e:=(ltx_h4 a0 0)) ?_ ?_,L1]
 rotate_left
 ·kernel_rfl
 ·simp+decide [ltx_h4]
 simp+decide [ltx_o4a,C2_,K3,K4,K5]
theorem ltFE2{n:Nat}{rb:ByteArray}{a0:Form}{r8:ByteArray}{r10:ByteArray}(L1:loopG Tryz.prog (tab (n+7)) 0 55 (livesOf 84) 4 ltx_C4 (ltx_h4 a0 0)=some (.exit 0,ltx_o4a a0))(C2:0<((rawQ a0.2).l1.length:Int))(K3:run (n+6) 119 [ratV a0.2]=some (.lit (.string r8)))(K4:runL (n+6) 115 [.lit (.bool (rawQ a0.2).s),.lit (.string r8),.ptr 0 0] [.box 137 [(.lit (.pointer none)),.nl 1] false]=some (.tup [],[(0,.box 137 [.ptr 0 0,.own 2 rb.size] false),(2,.row 5 1 (strEls rb) 0)]))(K5:runL (n+6) 120 [.ptr 0 0] [.box 137 [.ptr 0 0,.own 1 rb.size] false,.row 5 1 (strEls rb) 0]=some (.lit (.string r10),[(0,.box 137 [.ptr 0 0,.own 1 rb.size] false)])):
  run (n+7) 84 [formV a0]=some (.lit (.string r10)):=by
 have C2_:0<(rawQ a0.2).l1.length:=by omega
 simp only [ratV] at K3
 unfold run fnP
 simp+decide [Tryz.f84]
 rw [loopX_G (C':=ltx_C4) (e:=(ltx_h4 a0 0)) ?_ ?_,L1]
 rotate_left
 ·kernel_rfl
 ·simp+decide [ltx_h4]
 simp+decide [ltx_o4a,C2_,K3,K4,K5]
theorem ltFE3{n:Nat}{rb:ByteArray}{a0:Form}{r7:Int}{r9:ByteArray}{r11:ByteArray}(L1:loopG Tryz.prog (tab (n+7)) 0 55 (livesOf 84) 4 ltx_C4 (ltx_h4 a0 0)=some (.exit 0,ltx_o4a a0))(C2:¬0<((rawQ a0.2).l1.length:Int))(K3:runL (n+6) 116 [.ptr 0 0] [.box 137 [(.lit (.pointer none)),.nl 1] false]=some (.lit (.int .i64 r7),[(0,.box 137 [(.lit (.pointer none)),.nl 1] false)]))(C4:r7=0)(K5:run (n+6) 119 [ratV a0.2]=some (.lit (.string r9)))(K6:runL (n+6) 115 [.lit (.bool (rawQ a0.2).s),.lit (.string r9),.ptr 0 0] [.box 137 [(.lit (.pointer none)),.nl 1] false]=some (.tup [],[(0,.box 137 [.ptr 0 0,.own 1 rb.size] false),(1,.row 5 1 (strEls rb) 0)]))(K7:runL (n+6) 120 [.ptr 0 0] [.box 137 [.ptr 0 0,.own 1 rb.size] false,.row 5 1 (strEls rb) 0]=some (.lit (.string r11),[(0,.box 137 [.ptr 0 0,.own 1 rb.size] false)])):
  run (n+7) 84 [formV a0]=some (.lit (.string r11)):=by
 have C2_:¬0<(rawQ a0.2).l1.length:=by omega
 have C4_:(r7==0)=true:=by rw [C4];simp
 simp only [ratV] at K5
 unfold run fnP
 simp+decide [Tryz.f84]
 rw [loopX_G (C':=ltx_C4) (e:=(ltx_h4 a0 0)) ?_ ?_,L1]
 rotate_left
 ·kernel_rfl
 ·simp+decide [ltx_h4]
 simp+decide [ltx_o4a,C2_,K3,C4_,K5,K6,K7]
theorem ltFN1{n:Nat}{ab rb:ByteArray}{a0:Form}{r8:ByteArray}{r10:ByteArray}(L1:loopG Tryz.prog (tab (n+7)) 0 55 (livesOf 84) 4 ltx_C4 (ltx_h4 a0 0)=some (.exit 0,ltx_oN a0 ab))(C2:0<((rawQ a0.2).l1.length:Int))(K3:run (n+6) 119 [ratV a0.2]=some (.lit (.string r8)))(K4:runL (n+6) 115 [.lit (.bool (rawQ a0.2).s),.lit (.string r8),.ptr 0 0] [.box 137 [.ptr 0 0,.own 1 ab.size] false,.row 5 1 (strEls ab) 0]=some (.tup [],[(0,.box 137 [.ptr 0 0,.own 3 rb.size] false),(3,.row 5 1 (strEls rb) 0)]))(K5:runL (n+6) 120 [.ptr 0 0] [.box 137 [.ptr 0 0,.own 1 rb.size] false,.row 5 1 (strEls rb) 0]=some (.lit (.string r10),[(0,.box 137 [.ptr 0 0,.own 1 rb.size] false)])):
  run (n+7) 84 [formV a0]=some (.lit (.string r10)):=by
 have C2_:0<(rawQ a0.2).l1.length:=by omega
 simp only [ratV] at K3
 unfold run fnP
 simp+decide [Tryz.f84]
 rw [loopX_G (C':=ltx_C4) (e:=(ltx_h4 a0 0)) ?_ ?_,L1]
 rotate_left
 ·kernel_rfl
 ·simp+decide [ltx_h4]
 simp+decide [ltx_oN,C2_,K3,K4,K5]
theorem ltFN2{n:Nat}{ab:ByteArray}{a0:Form}{r7:Int}{r12:ByteArray}(L1:loopG Tryz.prog (tab (n+7)) 0 55 (livesOf 84) 4 ltx_C4 (ltx_h4 a0 0)=some (.exit 0,ltx_oN a0 ab))(C2:¬0<((rawQ a0.2).l1.length:Int))(K3:runL (n+6) 116 [.ptr 0 0] [.box 137 [.ptr 0 0,.own 1 ab.size] false,.row 5 1 (strEls ab) 0]=some (.lit (.int .i64 r7),[(0,.box 137 [.ptr 0 0,.own 1 ab.size] false),(1,.row 5 1 (strEls ab) 0)]))(C4:¬r7=0)(K5:runL (n+6) 120 [.ptr 0 0] [.box 137 [.ptr 0 0,.own 1 ab.size] false,.row 5 1 (strEls ab) 0]=some (.lit (.string r12),[(0,.box 137 [.ptr 0 0,.own 1 ab.size] false)])):
  run (n+7) 84 [formV a0]=some (.lit (.string r12)):=by
 have C2_:¬0<(rawQ a0.2).l1.length:=by omega
 have C4_:(r7==0)=false:=by simpa using C4
 unfold run fnP
 simp+decide [Tryz.f84]
 rw [loopX_G (C':=ltx_C4) (e:=(ltx_h4 a0 0)) ?_ ?_,L1]
 rotate_left
 ·kernel_rfl
 ·simp+decide [ltx_h4]
 simp+decide [ltx_oN,C2_,K3,C4_,K5]
end
section
open Go.RowKit
theorem blen_0{n:Nat}:runL n 116 [.ptr 0 0] [.box 137 [.lit (.pointer none),.nl 1] false]=some (.lit (.int .i64 0),[(0,.box 137 [.lit (.pointer none),.nl 1] false)]):=by
 unfold runL fnL
 simp+decide [Tryz.f116]
theorem blen_1{n:Nat}{k:Nat}{es:List (List AV)}:runL n 116 [.ptr 0 0] [.box 137 [.ptr 0 0,.own 1 k] false,.row 5 1 es 0]=some (.lit (.int .i64 k),[(0,.box 137 [.ptr 0 0,.own 1 k] false),(1,.row 5 1 es 0)]):=by
 unfold runL fnL
 simp+decide [Tryz.f116]
theorem bws_0{n:Nat}{s:ByteArray}(h:roomy s.size 1=true):runL (n+1) 117 [.ptr 0 0,.lit (.string s)] [.box 137 [.lit (.pointer none),.nl 1] false]=some (.tup [.lit (.int .i64 s.size),.lit .nilIface],[(0,.box 137 [.ptr 0 0,.own 1 s.size] false),(1,.row 5 1 (strEls s) 0)]):=by
 unfold runL fnL
 simp+decide [Tryz.f117,ccG,isSelf,enumB,apS,isNil,h]
theorem bws_1{n:Nat}{a s:ByteArray}(h:roomy (a.size+s.size) 1=true):runL (n+1) 117 [.ptr 0 0,.lit (.string s)] [.box 137 [.ptr 0 0,.own 1 a.size] false,.row 5 1 (strEls a) 0]=some (.tup [.lit (.int .i64 s.size),.lit .nilIface],[(0,.box 137 [.ptr 0 0,.own 2 (a.size+s.size)] false),(2,.row 5 1 (strEls (a++s)) 0)]):=by
 unfold runL fnL
 simp+decide [Tryz.f117,ccG,isSelf,enumB,apS,isNil,h]
theorem bstr_1{n:Nat}{a:ByteArray}(h0:0<a.size)(h:(a.size:Int)≤9223372036854775807):runL n 120 [.ptr 0 0] [.box 137 [.ptr 0 0,.own 1 a.size] false,.row 5 1 (strEls a) 0]=some (.lit (.string a),[(0,.box 137 [.ptr 0 0,.own 1 a.size] false)]):=by
 unfold runL fnL
 simp+decide [Tryz.f120,usdT,usT,h0,h]
theorem bpart_0{n:Nat}{s:ByteArray}(h:roomy s.size 1=true):runL (n+2) 115 [.lit (.bool false),.lit (.string s),.ptr 0 0] [.box 137 [.lit (.pointer none),.nl 1] false]=some (.tup [],[(0,.box 137 [.ptr 0 0,.own 1 s.size] false),(1,.row 5 1 (strEls s) 0)]):=by
 have K:=bws_0 (n:=n) h
 unfold runL fnL
 simp+decide [Tryz.f115,blen_0,K]
end
section
open Go.RowKit
theorem bpart_1{n:Nat}{s:ByteArray}(h0:roomy 1 1=true)(h:roomy (1+s.size) 1=true):runL (n+2) 115 [.lit (.bool true),.lit (.string s),.ptr 0 0] [.box 137 [.lit (.pointer none),.nl 1] false]=some (.tup [],[(0,.box 137 [.ptr 0 0,.own 2 (1+s.size)] false),(2,.row 5 1 (strEls ((⟨#[45]⟩:ByteArray)++s)) 0)]):=by
 have K1:=bws_0 (n:=n) (s:=(⟨#[45]⟩:ByteArray)) h0
 have K2:=bws_1 (n:=n) (a:=(⟨#[45]⟩:ByteArray)) (s:=s) h
 unfold runL fnL
 simp+decide [Tryz.f115,blen_0,K1,K2]
theorem bpart_2{n:Nat}{a s:ByteArray}(ha:0<a.size)(h0:roomy (a.size+3) 1=true)(h:roomy (a.size+3+s.size) 1=true):runL (n+2) 115 [.lit (.bool false),.lit (.string s),.ptr 0 0] [.box 137 [.ptr 0 0,.own 1 a.size] false,.row 5 1 (strEls a) 0]=some (.tup [],[(0,.box 137 [.ptr 0 0,.own 3 (a.size+3+s.size)] false),(3,.row 5 1 (strEls (a++(⟨#[32,43,32]⟩:ByteArray)++s)) 0)]):=by
 have K1:=bws_1 (n:=n) (a:=a) (s:=(⟨#[32,43,32]⟩:ByteArray)) h0
 have K2:=bws_1 (n:=n) (a:=a++(⟨#[32,43,32]⟩:ByteArray)) (s:=s) (by rw [ByteArray.size_append];exact h)
 rw [ByteArray.size_append] at K2
 have e1:((a.size:Int)==0)=false:=by rw [beq_eq_false_iff_ne];omega
 unfold runL fnL
 simp+decide [Tryz.f115,blen_1,K1,K2,e1,ha]
theorem bpart_3{n:Nat}{a s:ByteArray}(ha:0<a.size)(h0:roomy (a.size+3) 1=true)(h:roomy (a.size+3+s.size) 1=true):runL (n+2) 115 [.lit (.bool true),.lit (.string s),.ptr 0 0] [.box 137 [.ptr 0 0,.own 1 a.size] false,.row 5 1 (strEls a) 0]=some (.tup [],[(0,.box 137 [.ptr 0 0,.own 3 (a.size+3+s.size)] false),(3,.row 5 1 (strEls (a++(⟨#[32,45,32]⟩:ByteArray)++s)) 0)]):=by
 have K1:=bws_1 (n:=n) (a:=a) (s:=(⟨#[32,45,32]⟩:ByteArray)) h0
 have K2:=bws_1 (n:=n) (a:=a++(⟨#[32,45,32]⟩:ByteArray)) (s:=s) (by rw [ByteArray.size_append];exact h)
 rw [ByteArray.size_append] at K2
 have e1:((a.size:Int)==0)=false:=by rw [beq_eq_false_iff_ne];omega
 unfold runL fnL
 simp+decide [Tryz.f115,blen_1,K1,K2,e1,ha]
end
section
open Go.RowKit
end
end Go.Proofs.YtdaonnnlgfhlaaaGreatDoor
