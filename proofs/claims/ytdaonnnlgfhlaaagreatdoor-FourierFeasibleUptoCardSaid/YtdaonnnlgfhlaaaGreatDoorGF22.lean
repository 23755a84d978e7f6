import Derived.Test.YtdaonnnlgfhlaaaGreatDoorGF21
import Derived.Test.YtdaonnnlgfhlaaaGreatDoorGF19
import Derived.Test.YtdaonnnlgfhlaaaGreatDoorGF16
set_option linter.all false
set_option maxHeartbeats 6400000
set_option maxRecDepth 100000
namespace Go.Proofs.YtdaonnnlgfhlaaaGreatDoor
section
open Go.RowKit
open Lib (decDigits)
attribute [local irreducible] run Zp Zk exec
theorem Zev{k:Nat}(h:(lmb k).length≤1000000):Xv (lmb k)=true:=Nat.ble_eq_true_of_le (by omega)
theorem ZyN{k m:Nat}(hk:(lmb k).length≤1000000)(hm:(lmb m).length≤1000000)(h0:0<m):(oND fun x y=>.tup [Zc (lmb (val x / val y)),Zc (lmb (val x % val y)),.lit (.int .i64 0)]) [Zc (lmb k),Zc (lmb m)]=some (.tup [Zc (lmb (k / m)),Zc (lmb (k % m)),.lit (.int .i64 0)]):=by
 have hb:Nat.blt 0 m=true:=Nat.ble_eq_true_of_le h0
 simp only [oND,Y0 (Yk _),Zev hk,Zev hm,Zg,hb,Bool.and_self,if_true]
theorem Zvn{k:Nat}(h:k<18446744073709551616):(oN1 Zds fun x=>.tup [.lit (.int .u64 (val x:Nat)),.lit (.bool true)]) [Zc (lmb k)]=some (.tup [.lit (.int .u64 (k:Int)),.lit (.bool true)]):=by
 have hl:(lmb k).length≤2:=Yc (by simpa using h)
 have h64:Zds (lmb k)=true:=by
  unfold Zds
  rw [Zg]
  exact Nat.ble_eq_true_of_le h
 simp only [oN1,Y0 (Yk _),Zev (show (lmb k).length≤1000000 by omega),h64,Bool.and_self,if_true,Zg]
theorem ZyW{z:Int}(h0:0≤z)(h1:z<18446744073709551616):(oU fun k=>Zc (lmb k)) [.lit (.int .u64 z)]=some (Zc (lmb z.toNat)):=if_pos ⟨h0,h1⟩
theorem ZA1{d:Nat}(h:d<18446744073709551616):oFU [.lit (.int .u64 (d:Int)),.lit (.int .i64 10)]=some (.lit (.string (bs (decDigits d)))):=by
 have h1:(0:Int)≤(d:Int)∧(d:Int)<18446744073709551616:=⟨by omega,by omega⟩
 simp only [oFU]
 rw [if_pos h1,Int.toNat_natCast]
 rfl
theorem Zxh{l:List UInt8}(h:l.length≤9):UB [.lit (.string (⟨#[48]⟩:ByteArray)),.lit (.int .i64 (9-((bs l).size:Int)))]=some (.lit (.string (bs (List.replicate (9-l.length) 48)))):=by
 have e:(9-((bs l).size:Int)).toNat=9-l.length:=by rw [ZS];omega
 have e2:(⟨#[48]⟩:ByteArray).size=1:=rfl
 unfold UB
 dsimp only
 rw [if_pos ⟨by rw [ZS];omega,by rw [ZS];omega,by rw [e,e2];omega⟩,e]
 rw [ZAm]
 rfl
theorem Zk6(l:List ByteArray):Zef (l.map Jm)=some l:=by
 induction l with
 | nil=>rfl
 | cons a l ih=>simp [Zef,ih]
theorem Zwo{P:List (List UInt8)}(h1:P.length≤100000000)(h2:P.flatten.length≤100000000):Zcs [.sl 1 ((P.map bs).map Jm),.lit (.string (⟨#[]⟩:ByteArray))]=some (.lit (.string (bs P.flatten))):=by
 have e:(P.map bs).map (fun (a:ByteArray)=>a.data.toList)=P:=by
  rw [List.map_map]
  conv=>rhs;rw [←List.map_id P]
  apply List.map_congr_left
  intro x _
  exact ZsQ x
 have e2:(⟨#[]⟩:ByteArray).data.toList=[]:=rfl
 simp only [Zcs,Zk6,e2,e,Zw9]
 rw [if_pos ⟨by rw [List.length_map];omega,by omega⟩]
 rfl
def rv(L:List ByteArray)(i:Nat):List ByteArray:=(List.range L.length).map fun t=>if t<i∨L.length≤t+i then L.getD (L.length-1-t) ByteArray.empty else L.getD t ByteArray.empty
theorem Kw(L:List ByteArray)(i:Nat):(rv L i).length=L.length:=by
 unfold rv
 rw [List.length_map,List.length_range]
theorem Zbk{L:List ByteArray}{i t:Nat}(ht:t<L.length):(rv L i)[t]?=some (if t<i∨L.length≤t+i then L.getD (L.length-1-t) ByteArray.empty else L.getD t ByteArray.empty):=by
 unfold rv
 rw [List.getElem?_map,List.getElem?_range ht]
 rfl
theorem Zrv(L:List ByteArray):rv L 0=L:=by
 apply List.ext_getElem?
 intro t
 rcases Nat.lt_or_ge t L.length with ht|ht
 ·rw [Zbk ht,if_neg (by omega),List.getD_eq_getElem?_getD,List.getElem?_eq_getElem ht];rfl
 ·rw [List.getElem?_eq_none (by rw [Kw];exact ht),List.getElem?_eq_none ht]
theorem Zsr{L:List ByteArray}{i:Nat}(h:L.length≤2*i+1):rv L i=L.reverse:=by
 apply List.ext_getElem?
 intro t
 rcases Nat.lt_or_ge t L.length with ht|ht
 ·have e:L.reverse[t]?=some (L.getD (L.length-1-t) ByteArray.empty):=by
   rw [List.getElem?_reverse ht,List.getD_eq_getElem?_getD,List.getElem?_eq_getElem (show L.length-1-t<L.length by omega)];rfl
  rw [Zbk ht,e]
  split
  ·rfl
  ·rename_i h1
   have:L.length-1-t=t:=by omega
   rw [this]
 ·rw [List.getElem?_eq_none (by rw [Kw];exact ht),List.getElem?_eq_none (by rw [List.length_reverse];exact ht)]
theorem Zr8{L:List ByteArray}{i:Nat}(h:i+i+1<L.length):((rv L i).set i (L.getD (L.length-1-i) ByteArray.empty)).set (L.length-1-i) (L.getD i ByteArray.empty)=rv L (i+1):=by
 apply List.ext_getElem?
 intro t
 rcases Nat.lt_or_ge t L.length with ht|ht
 ·rw [Zbk ht]
  by_cases h1:t=L.length-1-i
  ·subst h1
   rw [List.getElem?_set_self (by rw [List.length_set,Kw];exact ht),if_pos (.inr (by omega))]
   congr 2
   omega
  ·rw [List.getElem?_set_ne (fun e=>h1 e.symm)]
   by_cases h2:t=i
   ·subst h2
    rw [List.getElem?_set_self (by rw [Kw];exact ht),if_pos (.inl (by omega))]
   ·rw [List.getElem?_set_ne (fun e=>h2 e.symm),Zbk ht]
    by_cases h3:t<i∨L.length≤t+i
    ·rw [if_pos h3,if_pos (by omega)]
    ·rw [if_neg h3,if_neg (by omega)]
 ·rw [List.getElem?_eq_none (by rw [List.length_set,List.length_set,Kw];exact ht),List.getElem?_eq_none (by rw [Kw];exact ht)]
theorem ZxC{n:Nat}{L:List ByteArray}(hl:L.length≤100000000):Zp n 148 [.own 0 L.length] [.row 9 1 (L.map Jm) 0]=some (.tup [],[(0,.row 9 1 (L.reverse.map Jm) 0)]):=by
 obtain ⟨b,hL,hI⟩:=QJ (O:=tab n) (P:= Tryz.prog) (m:=1) (N:=28) (lives:=Za 148) (r:=1) (C:=JK) (exN:=.exit 0) (M:=L.length / 2) (enc:=fun i (_:Unit)=>UG (rv L i) i ((L.length:Int)-1-(i:Int))) (out:=fun _=>UK L.reverse)
  (fun i _=>i≤L.length / 2) () (by omega) (by omega) (fun h=>by cases h)
  (fun i _ hi hI=>by
   have e:((L.length:Int)-1-(i:Int)).toNat=L.length-1-i:=by omega
   have h1:(rv L i)[((L.length:Int)-1-(i:Int)).toNat]?=some (L.getD (L.length-1-i) ByteArray.empty):=by
    rw [e,Zbk (by omega),if_neg (by omega)]
   have h2:(rv L i)[i]?=some (L.getD i ByteArray.empty):=by rw [Zbk (by omega),if_neg (by omega)]
   have R:=ZpB (n:=n) (i_1:=i) (i2_1:=(L.length:Int)-1-(i:Int)) (out_1:=rv L i) (by omega) (by rw [Kw];omega) (by omega) h1 (by omega) (by rw [Kw];omega) h2 ⟨by omega,by omega⟩ ⟨by omega,by omega⟩
   rw [e,Zr8 (by omega)] at R
   have e2:(L.length:Int)-1-(i:Int)-1=(L.length:Int)-1-((i+1:Nat):Int):=by omega
   rw [e2] at R
   exact ⟨(),R,by omega⟩)
  (fun _ _=>by
   have R:=ZnM (n:=n) (i_1:=L.length / 2) (i2_1:=(L.length:Int)-1-((L.length / 2:Nat):Int)) (out_1:=rv L (L.length / 2)) (by omega)
   have e:UK (rv L (L.length / 2))=UK L.reverse:=by rw [Zsr (by omega)]
   rw [e] at R
   exact R)
 rw [Zrv] at hL
 have e:(L.length:Int)-1-((0:Nat):Int)=(L.length:Int)-1:=by omega
 rw [e] at hL
 exact Zu9 ⟨by omega,by omega⟩ hL
theorem Ztp{n K:Nat}(hK:(lmb K).length≤100000):run (n+5) 141 [Zc (lmb K)]=some (.lit (.string (bs (decDigits K)))):=by
 by_cases h0:K=0
 ·subst h0
  have e:bs (decDigits 0)=(⟨#[48]⟩:ByteArray):=by rw [ZcX (by omega)];rfl
  rw [e]
  exact Zuq (by rw [JU];rfl)
 have h9:(lmb 1000000000).length≤1000000:=by decide+kernel
 have hbits:K<2 ^ (32*(lmb K).length):=by
  have:=Xy (Yk K)
  rw [Zg] at this
  rwa [Nat.pow_mul]
 have hM:=Zl1 (32*(lmb K).length) K
 have hdd:=Za0 _ K hbits
 obtain ⟨s,hL,hI⟩:=QJ (O:=tab (n+5)) (P:= Tryz.prog) (m:=0) (N:=50) (lives:=Za 141) (r:=5) (C:=UA) (exN:=.exit 0) (M:=rnd (32*(lmb K).length) K) (enc:=fun i (s:Nat × List (List UInt8))=>WU (lmb s.1) (lmb 1000000000) (s.2.map bs)) (out:=fun s=>J2 (s.2.map bs))
  (fun i s=>s.1≤K∧rnd (32*(lmb K).length) s.1+i=rnd (32*(lmb K).length) K∧s.2.length=i∧dd0 s.1++s.2.reverse.flatten=dd0 K) (K,[]) ⟨Nat.le_refl _,rfl,rfl,by simp⟩ (by omega) (fun h=>by cases h)
  (fun i s hi hI=>by
   obtain ⟨k,parts⟩:=s
   obtain ⟨i1,i2,i3,i4⟩:=hI
   dsimp only at i1 i2 i3 i4 ⊢
   have hk0:0<k:=by
    rcases Nat.eq_zero_or_pos k with h|h
    ·subst h;rw [Kn] at i2;omega
    ·exact h
   have hkl:(lmb k).length≤(lmb K).length:=Zt i1
   have hp:0<(lmb k).length:=by rw [Qw hk0];simp
   have hlim:k<2 ^ (32*(lmb K).length):=Nat.lt_of_le_of_lt i1 hbits
   have hr:rnd (32*(lmb K).length) k=rnd (32*(lmb K).length) (k / 1000000000)+1:=by
    obtain ⟨f,hf⟩:∃f,32*(lmb K).length=f+1:=⟨32*(lmb K).length-1,by omega⟩
    rw [hf] at hlim ⊢
    rw [rnd,if_neg (by omega)]
    congr 1
    rw [Nat.pow_succ] at hlim
    exact Zb5 f (f+1) _ (by omega) (by rw [Nat.pow_succ];omega)
   obtain ⟨d1,d2⟩:=Zmr hk0
   have K2:=ZyN (k:=k) (m:=1000000000) (by omega) h9 (by omega)
   have hrm:k % 1000000000<18446744073709551616:=by omega
   have K3:=Zvn hrm
   have K4:=ZA1 hrm
   by_cases hq:0<k / 1000000000
   ·rw [if_pos hq] at d1
    have hql:0<(lmb (k / 1000000000)).length:=by rw [Qw hq];simp
    refine ⟨(k / 1000000000,parts++[List.replicate (9-(decDigits (k % 1000000000)).length) 48++decDigits (k % 1000000000)]),?_,Nat.le_trans (Nat.div_le_self _ _) i1,by dsimp only;omega,by simp [i3],?_⟩
    ·have R:=Zl8 (n:=n) (out_5:=parts.map bs) (by omega) K2 K3 K4 (by omega) ⟨by rw [ZS];omega,by rw [ZS];omega⟩ (Zxh d2) (by rw [ZS,ZS,List.length_replicate];omega) (Xw _ _).symm (by rw [List.length_map];omega)
     have e:parts.map bs++[bs (List.replicate (9-(decDigits (k % 1000000000)).length) 48++decDigits (k % 1000000000))]=(parts++[List.replicate (9-(decDigits (k % 1000000000)).length) 48++decDigits (k % 1000000000)]).map bs:=by simp
     rw [e] at R
     exact R
    ·dsimp only
     rw [List.reverse_append,List.reverse_singleton,List.singleton_append,List.flatten_cons,←List.append_assoc,←d1]
     exact i4
   ·rw [if_neg hq] at d1
    have hq0:k / 1000000000=0:=by omega
    refine ⟨(k / 1000000000,parts++[decDigits (k % 1000000000)]),?_,Nat.le_trans (Nat.div_le_self _ _) i1,by dsimp only;omega,by simp [i3],?_⟩
    ·have R:=ZnW (n:=n) (out_5:=parts.map bs) (by omega) K2 K3 K4 (by rw [hq0,JU];simp) (by rw [List.length_map];omega)
     have e:parts.map bs++[bs (decDigits (k % 1000000000))]=(parts++[decDigits (k % 1000000000)]).map bs:=by simp
     rw [e] at R
     exact R
    ·dsimp only
     rw [List.reverse_append,List.reverse_singleton,List.singleton_append,List.flatten_cons,←List.append_assoc,←d1]
     exact i4)
  (fun s hI=>by
   obtain ⟨k,parts⟩:=s
   obtain ⟨i1,i2,i3,i4⟩:=hI
   dsimp only at i1 i2 i3 i4 ⊢
   have hk0:k=0:=by
    rcases Nat.eq_zero_or_pos k with h|h
    ·exact h
    ·exfalso
     have hp:0<32*(lmb K).length:=by
      have hkl:(lmb k).length≤(lmb K).length:=Zt i1
      have:0<(lmb k).length:=by rw [Qw h];simp
      omega
     obtain ⟨f,hf⟩:∃f,32*(lmb K).length=f+1:=⟨32*(lmb K).length-1,by omega⟩
     rw [hf,rnd,if_neg (by omega)] at i2
     omega
   subst hk0
   exact Znb (by rw [JU];simp))
 obtain ⟨k,parts⟩:=s
 obtain ⟨i1,i2,i3,i4⟩:=hI
 dsimp only at i1 i2 i3 i4 hL
 have hk0:k=0:=by
  rcases Nat.eq_zero_or_pos k with h|h
  ·exact h
  ·exfalso
   have hp:0<32*(lmb K).length:=by
    have hkl:(lmb k).length≤(lmb K).length:=Zt i1
    have:0<(lmb k).length:=by rw [Qw h];simp
    omega
   obtain ⟨f,hf⟩:∃f,32*(lmb K).length=f+1:=⟨32*(lmb K).length-1,by omega⟩
   rw [hf] at i2
   have e:rnd (f+1) k=rnd f (k / 1000000000)+1:=by rw [rnd,if_neg (by omega)]
   omega
 subst hk0
 have e0:dd0 0=[]:=rfl
 have e1:dd0 K=decDigits K:=if_neg h0
 rw [e0,List.nil_append,e1] at i4
 have V:=ZxC (n:=n+4) (L:=parts.map bs) (by rw [List.length_map];omega)
 have J:=Zwo (P:=parts.reverse) (by rw [List.length_reverse];omega) (by rw [i4];omega)
 rw [i4,List.map_reverse] at J
 exact ZuM (by have:0<(lmb K).length:=(by rw [Qw (by omega)];simp);omega) (HR:=by rw [List.length_reverse]) (ZyW (z:=1000000000) (by omega) (by omega)) hL V J
end
section
open Go.RowKit
section
variable {r : ByteArray} {a0 : Rat} {cat2 : ByteArray} {r2 : ByteArray} {n : Nat} {cat : ByteArray}
theorem ZtV(K1:run (n+5) 141 [Zc (Zd a0).l1]=some (.lit (.string r)))(C2:0<((Zd a0).l2.length:Int))(K3:run (n+5) 141 [Zc (Zd a0).l2]=some (.lit (.string r2)))(S4:(⟨#[47]⟩:ByteArray).size+r2.size≤9000000000000000000)(D4:cat=(⟨#[47]⟩:ByteArray)++r2)(S5:r.size+cat.size≤9000000000000000000)(D5:cat2=r++cat):
  run (n+6) 119 [Zn a0]=some (.lit (.string cat2)):=by
 have C2_:0<(Zd a0).l2.length:=by omega
 have S4_q:=Vm S4 D4
 have S5_q:=Vm S5 D5
 unfold run fnP
 simp+decide [Tryz.f119,K1,C2_,K3,S4_q,S5_q]
theorem ZvW(K1:run (n+5) 141 [Zc (Zd a0).l1]=some (.lit (.string r)))(C2:¬0<((Zd a0).l2.length:Int)):
  run (n+6) 119 [Zn a0]=some (.lit (.string r)):=by
 have C2_:¬0<(Zd a0).l2.length:=by omega
 unfold run fnP
 simp+decide [Tryz.f119,K1,C2_]
end
end
section
open Go.RowKit
end
section
open Go.RowKit
end
section
open Go.RowKit
end
section
open Go.RowKit
open Lib (decDigits)
attribute [local irreducible] run Zp Zk exec
def YX(q:Rat):List UInt8:=decDigits q.num.natAbs++if q.den=1 then [] else 47::decDigits q.den
theorem ZmG{q:Rat}(h:H q≤100000):(YX q).length≤7000000:=by
 have bits:∀K:Nat,K<2 ^ (32*(lmb K).length):=fun K=>by
  have:=Xy (Yk K)
  rw [Zg] at this
  rwa [Nat.pow_mul]
 have h1:=Za0 _ _ (bits q.num.natAbs)
 have h2:=Za0 _ _ (bits q.den)
 have a1:(lmb q.num.natAbs).length≤H q:=Nat.le_max_left _ _
 have a2:(lmb q.den).length≤H q:=Nat.le_max_right _ _
 unfold YX
 rw [List.length_append]
 split
 ·simp;omega
 ·simp;omega
theorem Zcd(q:Rat):(Zd q).l1=lmb q.num.natAbs∧(Zd q).l2=(if q.den=1 then [] else lmb q.den)∧(Zd q).s=decide (q.num<0):=⟨rfl,rfl,rfl⟩
theorem den_pos(q:Rat):0<(lmb q.den).length:=by rw [Qw q.den_pos];simp
theorem ZtO{n:Nat}{q:Rat}(hq:H q≤100000):run (n+6) 119 [Zn q]=some (.lit (.string (bs (YX q)))):=by
 have a1:(lmb q.num.natAbs).length≤H q:=Nat.le_max_left _ _
 have a2:(lmb q.den).length≤H q:=Nat.le_max_right _ _
 have ht:=ZmG hq
 have K1:=Ztp (n:=n) (K:=q.num.natAbs) (by omega)
 by_cases h:q.den=1
 ·have e:YX q=decDigits q.num.natAbs:=by unfold YX;rw [if_pos h,List.append_nil]
  rw [e]
  exact ZvW K1 (by rw [(Zcd q).2.1,if_pos h];simp)
 ·have e:bs (YX q)=bs (decDigits q.num.natAbs)++((⟨#[47]⟩:ByteArray)++bs (decDigits q.den)):=by
   unfold YX
   rw [if_neg h]
   have e2:(⟨#[47]⟩:ByteArray)=bs [47]:=rfl
   rw [e2,Xw,Xw];rfl
  have el:(Zd q).l2=lmb q.den:=by rw [(Zcd q).2.1,if_neg h]
  have K3:=Ztp (n:=n) (K:=q.den) (by omega)
  rw [←el] at K3
  have hd:=den_pos q
  unfold YX at ht
  rw [if_neg h,List.length_append,List.length_cons] at ht
  have s1:(⟨#[47]⟩:ByteArray).size+(bs (decDigits q.den)).size≤9000000000000000000:=by rw [ZS];show 1+_≤_;omega
  have s2:(bs (decDigits q.num.natAbs)).size+((⟨#[47]⟩:ByteArray)++bs (decDigits q.den)).size≤9000000000000000000:=by
   have e2:(⟨#[47]⟩:ByteArray)=bs [47]:=rfl
   rw [e2,Xw,ZS,ZS];simp;omega
  exact ZtV K1 (by rw [el];omega) K3 s1 rfl s2 e
def jn(a:List UInt8)(neg:Bool)(p:List UInt8):List UInt8:=if a=[] then (if neg=true then 45::p else p) else a++((if neg=true then [32,45,32] else [32,43,32])++p)
theorem ZoE(a:List UInt8)(neg:Bool)(p:List UInt8):(jn a neg p).length≤a.length+p.length+3:=by
 unfold jn
 split
 ·split
  ·rw [List.length_cons];omega
  ·omega
 ·rw [List.length_append,List.length_append]
  split <;>simp <;>omega
end
section
open Go.RowKit
noncomputable def YA:Code:=(Zb (ZP Tryz.f84)).getD 0 .skip
def YE(a0:Zf)(i_4:Nat):St:=
 ⟨[(1,.ptr 0 0),(3,.ptr 1 0),(4,.clo 115 [.ptr 1 0]),(11,.sl 4 (a0.1.map Zr)),(12,.lit (.int .i64 (a0.1.length:Int))),(13,.lit (.int .i64 (i_4:Int)))],
  [(0,some (.box 28 [.sl 4 (a0.1.map Zr),.lit (.bool (Zd a0.2).s),Zc (Zd a0.2).l1,Zc (Zd a0.2).l2] false)),
   (1,some (.box 137 [(.lit (.pointer none)),.nl 1] false))],2⟩
def WX(a0:Zf):St:=
 ⟨[(1,.ptr 0 0),(3,.ptr 1 0),(4,.clo 115 [.ptr 1 0])],
  [(0,some (.box 28 [.sl 4 (a0.1.map Zr),.lit (.bool (Zd a0.2).s),Zc (Zd a0.2).l1,Zc (Zd a0.2).l2] false)),
   (1,some (.box 137 [(.lit (.pointer none)),.nl 1] false))],2⟩
theorem ZmM{n:Nat}{a0:Zf}{i_4:Nat}(C1:¬(i_4:Int)<(a0.1.length:Int)):
  Zj 0 (exec Tryz.prog (tab (n+7)) 0 55 (Za 84) big YA) (Za 84 (Zo 4)) (YE a0 i_4) (.exit 0) (WX a0):=by
 unfold Zj
 simp+decide [YE,Zb, Tryz.f84,WX,YA,C1]
end
section
open Go.RowKit
def QO(a0:Zf)(i_4:Nat)(ab:ByteArray):St:=
 ⟨[(1,.ptr 0 0),(3,.ptr 1 0),(4,.clo 115 [.ptr 1 0]),(11,.sl 4 (a0.1.map Zr)),(12,.lit (.int .i64 (a0.1.length:Int))),(13,.lit (.int .i64 (i_4:Int)))],
  [(0,some (.box 28 [.sl 4 (a0.1.map Zr),.lit (.bool (Zd a0.2).s),Zc (Zd a0.2).l1,Zc (Zd a0.2).l2] false)),
   (1,some (.box 137 [.ptr 1 0,.own 2 ab.size] false)),
   (2,some (.row 5 1 (Zv ab) 0))],3⟩
def Jx(a0:Zf)(ab:ByteArray):St:=
 ⟨[(1,.ptr 0 0),(3,.ptr 1 0),(4,.clo 115 [.ptr 1 0])],
  [(0,some (.box 28 [.sl 4 (a0.1.map Zr),.lit (.bool (Zd a0.2).s),Zc (Zd a0.2).l1,Zc (Zd a0.2).l2] false)),
   (1,some (.box 137 [.ptr 1 0,.own 2 ab.size] false)),
   (2,some (.row 5 1 (Zv ab) 0))],3⟩
theorem ZvR{n:Nat}{rb:ByteArray}{a0:Zf}{i_4:Nat}{v3:Int}{q3:Rat}{r5:ByteArray}{cat7:ByteArray}{r6:ByteArray}{cat8:ByteArray}{cat9:ByteArray}(C1:(i_4:Int)<(a0.1.length:Int))(E2:a0.1[i_4]?=some (v3,q3))(K3:(UW) [.lit (.int .i64 v3)]=some (.lit (.string r5)))(S4:(⟨#[120]⟩:ByteArray).size+r5.size≤9000000000000000000)(D4:cat7=(⟨#[120]⟩:ByteArray)++r5)(K5:run (n+6) 119 [Zn q3]=some (.lit (.string r6)))(C6:¬r6=(⟨#[49]⟩:ByteArray))(S7:r6.size+(⟨#[42]⟩:ByteArray).size≤9000000000000000000)(D7:cat8=r6++(⟨#[42]⟩:ByteArray))(S8:cat8.size+cat7.size≤9000000000000000000)(D8:cat9=cat8++cat7)(K9:Zp (n+6) 115 [.lit (.bool (Zd q3).s),.lit (.string cat9),.ptr 0 0] [.box 137 [(.lit (.pointer none)),.nl 1] false]=some (.tup [],[(0,.box 137 [.ptr 0 0,.own 1 rb.size] false),(1,.row 5 1 (Zv rb) 0)]))(W10:InI ((i_4:Int)+1)):
  Zm 0 (exec Tryz.prog (tab (n+7)) 0 55 (Za 84) big YA) (Za 84 4) (YE a0 i_4) (QO a0 (i_4+1) rb):=by
 obtain ⟨ks0,hks0⟩:∃k:ByteArray,(⟨#[42]⟩:ByteArray)=k:=⟨_,rfl⟩
 rw [hks0] at S7 D7
 have C1_:i_4<a0.1.length:=by omega
 obtain ⟨EL2,EG2⟩:=List.getElem?_eq_some_iff.1 E2
 have S4_q:=Vm S4 D4
 simp only [Zn] at K5
 have C6_:(r6.toList==(⟨#[49]⟩:ByteArray).toList)=false:=by rw [beq_eq_false_iff_ne];exact fun h=>C6 (Zhz h)
 have C6_k:(r6.toList==([49]:List UInt8))=false:=by rw [show ([49]:List UInt8)=(⟨#[49]⟩:ByteArray).toList by rw [XA]];exact C6_
 have S7_q:=Vm S7 D7
 have S8_q:=Vm S8 D8
 have W10_:IntKind.i64.wrap ((i_4:Int)+1)=(i_4:Int)+1:=Zq W10.1 W10.2
 unfold Zm
 simp+decide [YE,QO,Zb, Tryz.f84,YA,C1,C1_,EG2,K3,S4_q,K5,C6_k,S7_q,S8_q,K9,W10_,hks0]
theorem Zuf{n:Nat}{rb:ByteArray}{a0:Zf}{i_4:Nat}{v3:Int}{q3:Rat}{r5:ByteArray}{cat7:ByteArray}{r6:ByteArray}{cat8:ByteArray}{cat9:ByteArray}(C1:(i_4:Int)<(a0.1.length:Int))(E2:a0.1[i_4]?=some (v3,q3))(K3:(UW) [.lit (.int .i64 v3)]=some (.lit (.string r5)))(S4:(⟨#[120]⟩:ByteArray).size+r5.size≤9000000000000000000)(D4:cat7=(⟨#[120]⟩:ByteArray)++r5)(K5:run (n+6) 119 [Zn q3]=some (.lit (.string r6)))(C6:¬r6=(⟨#[49]⟩:ByteArray))(S7:r6.size+(⟨#[42]⟩:ByteArray).size≤9000000000000000000)(D7:cat8=r6++(⟨#[42]⟩:ByteArray))(S8:cat8.size+cat7.size≤9000000000000000000)(D8:cat9=cat8++cat7)(K9:Zp (n+6) 115 [.lit (.bool (Zd q3).s),.lit (.string cat9),.ptr 0 0] [.box 137 [(.lit (.pointer none)),.nl 1] false]=some (.tup [],[(0,.box 137 [.ptr 0 0,.own 2 rb.size] false),(2,.row 5 1 (Zv rb) 0)]))(W10:InI ((i_4:Int)+1)):
  Zm 0 (exec Tryz.prog (tab (n+7)) 0 55 (Za 84) big YA) (Za 84 4) (YE a0 i_4) (QO a0 (i_4+1) rb):=by
 obtain ⟨ks0,hks0⟩:∃k:ByteArray,(⟨#[42]⟩:ByteArray)=k:=⟨_,rfl⟩
 rw [hks0] at S7 D7
 have C1_:i_4<a0.1.length:=by omega
 obtain ⟨EL2,EG2⟩:=List.getElem?_eq_some_iff.1 E2
 have S4_q:=Vm S4 D4
 simp only [Zn] at K5
 have C6_:(r6.toList==(⟨#[49]⟩:ByteArray).toList)=false:=by rw [beq_eq_false_iff_ne];exact fun h=>C6 (Zhz h)
 have C6_k:(r6.toList==([49]:List UInt8))=false:=by rw [show ([49]:List UInt8)=(⟨#[49]⟩:ByteArray).toList by rw [XA]];exact C6_
 have S7_q:=Vm S7 D7
 have S8_q:=Vm S8 D8
 have W10_:IntKind.i64.wrap ((i_4:Int)+1)=(i_4:Int)+1:=Zq W10.1 W10.2
 unfold Zm
 simp+decide [YE,QO,Zb, Tryz.f84,YA,C1,C1_,EG2,K3,S4_q,K5,C6_k,S7_q,S8_q,K9,W10_,hks0]
theorem Zw3{n:Nat}{ab rb:ByteArray}{a0:Zf}{i_4:Nat}{v3:Int}{q3:Rat}{r5:ByteArray}{cat7:ByteArray}{r6:ByteArray}{cat8:ByteArray}{cat9:ByteArray}(C1:(i_4:Int)<(a0.1.length:Int))(E2:a0.1[i_4]?=some (v3,q3))(K3:(UW) [.lit (.int .i64 v3)]=some (.lit (.string r5)))(S4:(⟨#[120]⟩:ByteArray).size+r5.size≤9000000000000000000)(D4:cat7=(⟨#[120]⟩:ByteArray)++r5)(K5:run (n+6) 119 [Zn q3]=some (.lit (.string r6)))(C6:¬r6=(⟨#[49]⟩:ByteArray))(S7:r6.size+(⟨#[42]⟩:ByteArray).size≤9000000000000000000)(D7:cat8=r6++(⟨#[42]⟩:ByteArray))(S8:cat8.size+cat7.size≤9000000000000000000)(D8:cat9=cat8++cat7)(K9:Zp (n+6) 115 [.lit (.bool (Zd q3).s),.lit (.string cat9),.ptr 0 0] [.box 137 [.ptr 0 0,.own 1 ab.size] false,.row 5 1 (Zv ab) 0]=some (.tup [],[(0,.box 137 [.ptr 0 0,.own 3 rb.size] false),(3,.row 5 1 (Zv rb) 0)]))(W10:InI ((i_4:Int)+1)):
  Zm 0 (exec Tryz.prog (tab (n+7)) 0 55 (Za 84) big YA) (Za 84 4) (QO a0 i_4 ab) (QO a0 (i_4+1) rb):=by
 obtain ⟨ks0,hks0⟩:∃k:ByteArray,(⟨#[42]⟩:ByteArray)=k:=⟨_,rfl⟩
 rw [hks0] at S7 D7
 have C1_:i_4<a0.1.length:=by omega
 obtain ⟨EL2,EG2⟩:=List.getElem?_eq_some_iff.1 E2
 have S4_q:=Vm S4 D4
 simp only [Zn] at K5
 have C6_:(r6.toList==(⟨#[49]⟩:ByteArray).toList)=false:=by rw [beq_eq_false_iff_ne];exact fun h=>C6 (Zhz h)
 have C6_k:(r6.toList==([49]:List UInt8))=false:=by rw [show ([49]:List UInt8)=(⟨#[49]⟩:ByteArray).toList by rw [XA]];exact C6_
 have S7_q:=Vm S7 D7
 have S8_q:=Vm S8 D8
 have W10_:IntKind.i64.wrap ((i_4:Int)+1)=(i_4:Int)+1:=Zq W10.1 W10.2
 unfold Zm
 simp+decide [QO,Zb, Tryz.f84,YA,C1,C1_,EG2,K3,S4_q,K5,C6_k,S7_q,S8_q,K9,W10_,hks0]
theorem ZuC{n:Nat}{rb:ByteArray}{a0:Zf}{i_4:Nat}{v3:Int}{q3:Rat}{r5:ByteArray}{cat7:ByteArray}{r6:ByteArray}(C1:(i_4:Int)<(a0.1.length:Int))(E2:a0.1[i_4]?=some (v3,q3))(K3:(UW) [.lit (.int .i64 v3)]=some (.lit (.string r5)))(S4:(⟨#[120]⟩:ByteArray).size+r5.size≤9000000000000000000)(D4:cat7=(⟨#[120]⟩:ByteArray)++r5)(K5:run (n+6) 119 [Zn q3]=some (.lit (.string r6)))(C6:r6=(⟨#[49]⟩:ByteArray))(K7:Zp (n+6) 115 [.lit (.bool (Zd q3).s),.lit (.string cat7),.ptr 0 0] [.box 137 [(.lit (.pointer none)),.nl 1] false]=some (.tup [],[(0,.box 137 [.ptr 0 0,.own 1 rb.size] false),(1,.row 5 1 (Zv rb) 0)]))(W8:InI ((i_4:Int)+1)):
  Zm 0 (exec Tryz.prog (tab (n+7)) 0 55 (Za 84) big YA) (Za 84 4) (YE a0 i_4) (QO a0 (i_4+1) rb):=by
 have C1_:i_4<a0.1.length:=by omega
 obtain ⟨EL2,EG2⟩:=List.getElem?_eq_some_iff.1 E2
 have S4_q:=Vm S4 D4
 simp only [Zn] at K5
 have C6_:(r6.toList==(⟨#[49]⟩:ByteArray).toList)=true:=by rw [C6];simp
 have C6_k:(r6.toList==([49]:List UInt8))=true:=by rw [show ([49]:List UInt8)=(⟨#[49]⟩:ByteArray).toList by rw [XA]];exact C6_
 have W8_:IntKind.i64.wrap ((i_4:Int)+1)=(i_4:Int)+1:=Zq W8.1 W8.2
 unfold Zm
 simp+decide [YE,QO,Zb, Tryz.f84,YA,C1,C1_,EG2,K3,S4_q,K5,C6_k,K7,W8_]
theorem Zuk{n:Nat}{rb:ByteArray}{a0:Zf}{i_4:Nat}{v3:Int}{q3:Rat}{r5:ByteArray}{cat7:ByteArray}{r6:ByteArray}(C1:(i_4:Int)<(a0.1.length:Int))(E2:a0.1[i_4]?=some (v3,q3))(K3:(UW) [.lit (.int .i64 v3)]=some (.lit (.string r5)))(S4:(⟨#[120]⟩:ByteArray).size+r5.size≤9000000000000000000)(D4:cat7=(⟨#[120]⟩:ByteArray)++r5)(K5:run (n+6) 119 [Zn q3]=some (.lit (.string r6)))(C6:r6=(⟨#[49]⟩:ByteArray))(K7:Zp (n+6) 115 [.lit (.bool (Zd q3).s),.lit (.string cat7),.ptr 0 0] [.box 137 [(.lit (.pointer none)),.nl 1] false]=some (.tup [],[(0,.box 137 [.ptr 0 0,.own 2 rb.size] false),(2,.row 5 1 (Zv rb) 0)]))(W8:InI ((i_4:Int)+1)):
  Zm 0 (exec Tryz.prog (tab (n+7)) 0 55 (Za 84) big YA) (Za 84 4) (YE a0 i_4) (QO a0 (i_4+1) rb):=by
 have C1_:i_4<a0.1.length:=by omega
 obtain ⟨EL2,EG2⟩:=List.getElem?_eq_some_iff.1 E2
 have S4_q:=Vm S4 D4
 simp only [Zn] at K5
 have C6_:(r6.toList==(⟨#[49]⟩:ByteArray).toList)=true:=by rw [C6];simp
 have C6_k:(r6.toList==([49]:List UInt8))=true:=by rw [show ([49]:List UInt8)=(⟨#[49]⟩:ByteArray).toList by rw [XA]];exact C6_
 have W8_:IntKind.i64.wrap ((i_4:Int)+1)=(i_4:Int)+1:=Zq W8.1 W8.2
 unfold Zm
 simp+decide [YE,QO,Zb, Tryz.f84,YA,C1,C1_,EG2,K3,S4_q,K5,C6_k,K7,W8_]
theorem Zx3{n:Nat}{ab rb:ByteArray}{a0:Zf}{i_4:Nat}{v3:Int}{q3:Rat}{r5:ByteArray}{cat7:ByteArray}{r6:ByteArray}(C1:(i_4:Int)<(a0.1.length:Int))(E2:a0.1[i_4]?=some (v3,q3))(K3:(UW) [.lit (.int .i64 v3)]=some (.lit (.string r5)))(S4:(⟨#[120]⟩:ByteArray).size+r5.size≤9000000000000000000)(D4:cat7=(⟨#[120]⟩:ByteArray)++r5)(K5:run (n+6) 119 [Zn q3]=some (.lit (.string r6)))(C6:r6=(⟨#[49]⟩:ByteArray))(K7:Zp (n+6) 115 [.lit (.bool (Zd q3).s),.lit (.string cat7),.ptr 0 0] [.box 137 [.ptr 0 0,.own 1 ab.size] false,.row 5 1 (Zv ab) 0]=some (.tup [],[(0,.box 137 [.ptr 0 0,.own 3 rb.size] false),(3,.row 5 1 (Zv rb) 0)]))(W8:InI ((i_4:Int)+1)):
  Zm 0 (exec Tryz.prog (tab (n+7)) 0 55 (Za 84) big YA) (Za 84 4) (QO a0 i_4 ab) (QO a0 (i_4+1) rb):=by
 have C1_:i_4<a0.1.length:=by omega
 obtain ⟨EL2,EG2⟩:=List.getElem?_eq_some_iff.1 E2
 have S4_q:=Vm S4 D4
 simp only [Zn] at K5
 have C6_:(r6.toList==(⟨#[49]⟩:ByteArray).toList)=true:=by rw [C6];simp
 have C6_k:(r6.toList==([49]:List UInt8))=true:=by rw [show ([49]:List UInt8)=(⟨#[49]⟩:ByteArray).toList by rw [XA]];exact C6_
 have W8_:IntKind.i64.wrap ((i_4:Int)+1)=(i_4:Int)+1:=Zq W8.1 W8.2
 unfold Zm
 simp+decide [QO,Zb, Tryz.f84,YA,C1,C1_,EG2,K3,S4_q,K5,C6_k,K7,W8_]
theorem ZyI{n:Nat}{ab:ByteArray}{a0:Zf}{i_4:Nat}(C1:¬(i_4:Int)<(a0.1.length:Int)):
  Zj 0 (exec Tryz.prog (tab (n+7)) 0 55 (Za 84) big YA) (Za 84 (Zo 4)) (QO a0 i_4 ab) (.exit 0) (Jx a0 ab):=by
 unfold Zj
 simp+decide [QO,Zb, Tryz.f84,Jx,YA,C1]
theorem ZyL{n:Nat}{rb:ByteArray}{a0:Zf}{r8:ByteArray}{r10:ByteArray}(L1:Zk Tryz.prog (tab (n+7)) 0 55 (Za 84) 4 YA (YE a0 0)=some (.exit 0,WX a0))(C2:0<((Zd a0.2).l1.length:Int))(K3:run (n+6) 119 [Zn a0.2]=some (.lit (.string r8)))(K4:Zp (n+6) 115 [.lit (.bool (Zd a0.2).s),.lit (.string r8),.ptr 0 0] [.box 137 [(.lit (.pointer none)),.nl 1] false]=some (.tup [],[(0,.box 137 [.ptr 0 0,.own 1 rb.size] false),(1,.row 5 1 (Zv rb) 0)]))(K5:Zp (n+6) 120 [.ptr 0 0] [.box 137 [.ptr 0 0,.own 1 rb.size] false,.row 5 1 (Zv rb) 0]=some (.lit (.string r10),[(0,.box 137 [.ptr 0 0,.own 1 rb.size] false)])):
  run (n+7) 84 [Ze a0]=some (.lit (.string r10)):=by
 have C2_:0<(Zd a0.2).l1.length:=by omega
 simp only [Zn] at K3
 unfold run fnP
 simp+decide [Tryz.f84]
 rw [Zi (C':=YA) (e:=(YE a0 0)) ?_ ?_,L1]
 rotate_left
 ·kernel_rfl
 ·simp+decide [YE]
 simp+decide [WX,C2_,K3,K4,K5]
theorem ZxE{n:Nat}{rb:ByteArray}{a0:Zf}{r8:ByteArray}{r10:ByteArray}(L1:Zk Tryz.prog (tab (n+7)) 0 55 (Za 84) 4 YA (YE a0 0)=some (.exit 0,WX a0))(C2:0<((Zd a0.2).l1.length:Int))(K3:run (n+6) 119 [Zn a0.2]=some (.lit (.string r8)))(K4:Zp (n+6) 115 [.lit (.bool (Zd a0.2).s),.lit (.string r8),.ptr 0 0] [.box 137 [(.lit (.pointer none)),.nl 1] false]=some (.tup [],[(0,.box 137 [.ptr 0 0,.own 2 rb.size] false),(2,.row 5 1 (Zv rb) 0)]))(K5:Zp (n+6) 120 [.ptr 0 0] [.box 137 [.ptr 0 0,.own 1 rb.size] false,.row 5 1 (Zv rb) 0]=some (.lit (.string r10),[(0,.box 137 [.ptr 0 0,.own 1 rb.size] false)])):
  run (n+7) 84 [Ze a0]=some (.lit (.string r10)):=by
 have C2_:0<(Zd a0.2).l1.length:=by omega
 simp only [Zn] at K3
 unfold run fnP
 simp+decide [Tryz.f84]
 rw [Zi (C':=YA) (e:=(YE a0 0)) ?_ ?_,L1]
 rotate_left
 ·kernel_rfl
 ·simp+decide [YE]
 simp+decide [WX,C2_,K3,K4,K5]
theorem Zxi{n:Nat}{rb:ByteArray}{a0:Zf}{r7:Int}{r9:ByteArray}{r11:ByteArray}(L1:Zk Tryz.prog (tab (n+7)) 0 55 (Za 84) 4 YA (YE a0 0)=some (.exit 0,WX a0))(C2:¬0<((Zd a0.2).l1.length:Int))(K3:Zp (n+6) 116 [.ptr 0 0] [.box 137 [(.lit (.pointer none)),.nl 1] false]=some (.lit (.int .i64 r7),[(0,.box 137 [(.lit (.pointer none)),.nl 1] false)]))(C4:r7=0)(K5:run (n+6) 119 [Zn a0.2]=some (.lit (.string r9)))(K6:Zp (n+6) 115 [.lit (.bool (Zd a0.2).s),.lit (.string r9),.ptr 0 0] [.box 137 [(.lit (.pointer none)),.nl 1] false]=some (.tup [],[(0,.box 137 [.ptr 0 0,.own 1 rb.size] false),(1,.row 5 1 (Zv rb) 0)]))(K7:Zp (n+6) 120 [.ptr 0 0] [.box 137 [.ptr 0 0,.own 1 rb.size] false,.row 5 1 (Zv rb) 0]=some (.lit (.string r11),[(0,.box 137 [.ptr 0 0,.own 1 rb.size] false)])):
  run (n+7) 84 [Ze a0]=some (.lit (.string r11)):=by
 have C2_:¬0<(Zd a0.2).l1.length:=by omega
 have C4_:(r7==0)=true:=by rw [C4];simp
 simp only [Zn] at K5
 unfold run fnP
 simp+decide [Tryz.f84]
 rw [Zi (C':=YA) (e:=(YE a0 0)) ?_ ?_,L1]
 rotate_left
 ·kernel_rfl
 ·simp+decide [YE]
 simp+decide [WX,C2_,K3,C4_,K5,K6,K7]
theorem Zxg{n:Nat}{ab rb:ByteArray}{a0:Zf}{r8:ByteArray}{r10:ByteArray}(L1:Zk Tryz.prog (tab (n+7)) 0 55 (Za 84) 4 YA (YE a0 0)=some (.exit 0,Jx a0 ab))(C2:0<((Zd a0.2).l1.length:Int))(K3:run (n+6) 119 [Zn a0.2]=some (.lit (.string r8)))(K4:Zp (n+6) 115 [.lit (.bool (Zd a0.2).s),.lit (.string r8),.ptr 0 0] [.box 137 [.ptr 0 0,.own 1 ab.size] false,.row 5 1 (Zv ab) 0]=some (.tup [],[(0,.box 137 [.ptr 0 0,.own 3 rb.size] false),(3,.row 5 1 (Zv rb) 0)]))(K5:Zp (n+6) 120 [.ptr 0 0] [.box 137 [.ptr 0 0,.own 1 rb.size] false,.row 5 1 (Zv rb) 0]=some (.lit (.string r10),[(0,.box 137 [.ptr 0 0,.own 1 rb.size] false)])):
  run (n+7) 84 [Ze a0]=some (.lit (.string r10)):=by
 have C2_:0<(Zd a0.2).l1.length:=by omega
 simp only [Zn] at K3
 unfold run fnP
 simp+decide [Tryz.f84]
 rw [Zi (C':=YA) (e:=(YE a0 0)) ?_ ?_,L1]
 rotate_left
 ·kernel_rfl
 ·simp+decide [YE]
 simp+decide [Jx,C2_,K3,K4,K5]
theorem Zx2{n:Nat}{ab:ByteArray}{a0:Zf}{r7:Int}{r12:ByteArray}(L1:Zk Tryz.prog (tab (n+7)) 0 55 (Za 84) 4 YA (YE a0 0)=some (.exit 0,Jx a0 ab))(C2:¬0<((Zd a0.2).l1.length:Int))(K3:Zp (n+6) 116 [.ptr 0 0] [.box 137 [.ptr 0 0,.own 1 ab.size] false,.row 5 1 (Zv ab) 0]=some (.lit (.int .i64 r7),[(0,.box 137 [.ptr 0 0,.own 1 ab.size] false),(1,.row 5 1 (Zv ab) 0)]))(C4:¬r7=0)(K5:Zp (n+6) 120 [.ptr 0 0] [.box 137 [.ptr 0 0,.own 1 ab.size] false,.row 5 1 (Zv ab) 0]=some (.lit (.string r12),[(0,.box 137 [.ptr 0 0,.own 1 ab.size] false)])):
  run (n+7) 84 [Ze a0]=some (.lit (.string r12)):=by
 have C2_:¬0<(Zd a0.2).l1.length:=by omega
 have C4_:(r7==0)=false:=by simpa using C4
 unfold run fnP
 simp+decide [Tryz.f84]
 rw [Zi (C':=YA) (e:=(YE a0 0)) ?_ ?_,L1]
 rotate_left
 ·kernel_rfl
 ·simp+decide [YE]
 simp+decide [Jx,C2_,K3,C4_,K5]
end
section
open Go.RowKit
theorem Zhi{n:Nat}:Zp n 116 [.ptr 0 0] [.box 137 [.lit (.pointer none),.nl 1] false]=some (.lit (.int .i64 0),[(0,.box 137 [.lit (.pointer none),.nl 1] false)]):=by
 unfold Zp fnL
 simp+decide [Tryz.f116]
theorem Zhl{n:Nat}{k:Nat}{es:List (List AV)}:Zp n 116 [.ptr 0 0] [.box 137 [.ptr 0 0,.own 1 k] false,.row 5 1 es 0]=some (.lit (.int .i64 k),[(0,.box 137 [.ptr 0 0,.own 1 k] false),(1,.row 5 1 es 0)]):=by
 unfold Zp fnL
 simp+decide [Tryz.f116]
theorem ZtS{n:Nat}{s:ByteArray}(h:ZT s.size 1=true):Zp (n+1) 117 [.ptr 0 0,.lit (.string s)] [.box 137 [.lit (.pointer none),.nl 1] false]=some (.tup [.lit (.int .i64 s.size),.lit .nilIface],[(0,.box 137 [.ptr 0 0,.own 1 s.size] false),(1,.row 5 1 (Zv s) 0)]):=by
 unfold Zp fnL
 simp+decide [Tryz.f117,ccG,Zfu,JT,apS,ZbP,h]
theorem Zf3{n:Nat}{a s:ByteArray}(h:ZT (a.size+s.size) 1=true):Zp (n+1) 117 [.ptr 0 0,.lit (.string s)] [.box 137 [.ptr 0 0,.own 1 a.size] false,.row 5 1 (Zv a) 0]=some (.tup [.lit (.int .i64 s.size),.lit .nilIface],[(0,.box 137 [.ptr 0 0,.own 2 (a.size+s.size)] false),(2,.row 5 1 (Zv (a++s)) 0)]):=by
 unfold Zp fnL
 simp+decide [Tryz.f117,ccG,Zfu,JT,apS,ZbP,h]
theorem ZuT{n:Nat}{a:ByteArray}(h0:0<a.size)(h:(a.size:Int)≤9223372036854775807):Zp n 120 [.ptr 0 0] [.box 137 [.ptr 0 0,.own 1 a.size] false,.row 5 1 (Zv a) 0]=some (.lit (.string a),[(0,.box 137 [.ptr 0 0,.own 1 a.size] false)]):=by
 unfold Zp fnL
 simp+decide [Tryz.f120,Zq6,usT,h0,h]
theorem ZsK{n:Nat}{s:ByteArray}(h:ZT s.size 1=true):Zp (n+2) 115 [.lit (.bool false),.lit (.string s),.ptr 0 0] [.box 137 [.lit (.pointer none),.nl 1] false]=some (.tup [],[(0,.box 137 [.ptr 0 0,.own 1 s.size] false),(1,.row 5 1 (Zv s) 0)]):=by
 have K:=ZtS (n:=n) h
 unfold Zp fnL
 simp+decide [Tryz.f115,Zhi,K]
end
section
open Go.RowKit
theorem ZsL{n:Nat}{s:ByteArray}(h0:ZT 1 1=true)(h:ZT (1+s.size) 1=true):Zp (n+2) 115 [.lit (.bool true),.lit (.string s),.ptr 0 0] [.box 137 [.lit (.pointer none),.nl 1] false]=some (.tup [],[(0,.box 137 [.ptr 0 0,.own 2 (1+s.size)] false),(2,.row 5 1 (Zv ((⟨#[45]⟩:ByteArray)++s)) 0)]):=by
 have K1:=ZtS (n:=n) (s:=(⟨#[45]⟩:ByteArray)) h0
 have K2:=Zf3 (n:=n) (a:=(⟨#[45]⟩:ByteArray)) (s:=s) h
 unfold Zp fnL
 simp+decide [Tryz.f115,Zhi,K1,K2]
theorem Zr1{n:Nat}{a s:ByteArray}(ha:0<a.size)(h0:ZT (a.size+3) 1=true)(h:ZT (a.size+3+s.size) 1=true):Zp (n+2) 115 [.lit (.bool false),.lit (.string s),.ptr 0 0] [.box 137 [.ptr 0 0,.own 1 a.size] false,.row 5 1 (Zv a) 0]=some (.tup [],[(0,.box 137 [.ptr 0 0,.own 3 (a.size+3+s.size)] false),(3,.row 5 1 (Zv (a++(⟨#[32,43,32]⟩:ByteArray)++s)) 0)]):=by
 have K1:=Zf3 (n:=n) (a:=a) (s:=(⟨#[32,43,32]⟩:ByteArray)) h0
 have K2:=Zf3 (n:=n) (a:=a++(⟨#[32,43,32]⟩:ByteArray)) (s:=s) (by rw [ByteArray.size_append];exact h)
 rw [ByteArray.size_append] at K2
 have e1:((a.size:Int)==0)=false:=by rw [beq_eq_false_iff_ne];omega
 unfold Zp fnL
 simp+decide [Tryz.f115,Zhl,K1,K2,e1,ha]
theorem ZsJ{n:Nat}{a s:ByteArray}(ha:0<a.size)(h0:ZT (a.size+3) 1=true)(h:ZT (a.size+3+s.size) 1=true):Zp (n+2) 115 [.lit (.bool true),.lit (.string s),.ptr 0 0] [.box 137 [.ptr 0 0,.own 1 a.size] false,.row 5 1 (Zv a) 0]=some (.tup [],[(0,.box 137 [.ptr 0 0,.own 3 (a.size+3+s.size)] false),(3,.row 5 1 (Zv (a++(⟨#[32,45,32]⟩:ByteArray)++s)) 0)]):=by
 have K1:=Zf3 (n:=n) (a:=a) (s:=(⟨#[32,45,32]⟩:ByteArray)) h0
 have K2:=Zf3 (n:=n) (a:=a++(⟨#[32,45,32]⟩:ByteArray)) (s:=s) (by rw [ByteArray.size_append];exact h)
 rw [ByteArray.size_append] at K2
 have e1:((a.size:Int)==0)=false:=by rw [beq_eq_false_iff_ne];omega
 unfold Zp fnL
 simp+decide [Tryz.f115,Zhl,K1,K2,e1,ha]
end
section
open Go.RowKit
end
end Go.Proofs.YtdaonnnlgfhlaaaGreatDoor
