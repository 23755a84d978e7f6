import Derived.Test.YtdaonnnlgfhlaaaGreatDoorGF22
import Derived.Test.YtdaonnnlgfhlaaaGreatDoorGF19
import Derived.Test.YtdaonnnlgfhlaaaGreatDoorGF21
import Derived.Test.YtdaonnnlgfhlaaaGreatDoorGF16
set_option linter.all false
set_option maxHeartbeats 6400000
set_option maxRecDepth 100000
namespace Go.Proofs.YtdaonnnlgfhlaaaGreatDoor
section
open Go.RowKit
open Lib (decDigits)
attribute [local irreducible] run Zp Zk exec
def prt(t:Int × Rat):List UInt8:=(if YX t.2=[49] then [] else YX t.2++[42])++120::decDigits t.1.toNat
def ngT(q:Rat):Bool:=(Zd q).s
def txS(a:List UInt8)(t:Int × Rat):List UInt8:=jn a (ngT t.2) (prt t)
def txL(l:List (Int × Rat)):List UInt8:=l.foldl txS []
def txt(f:Zf):List UInt8:=if f.2≠0∨txL f.1=[] then jn (txL f.1) (ngT f.2) (YX f.2) else txL f.1
theorem Zi5{a p:List UInt8}{neg:Bool}(h:p≠[]):jn a neg p≠[]:=by
 unfold jn
 split
 ·split
  ·simp
  ·exact h
 ·intro e
  have e2:=(List.append_eq_nil_iff.1 e).1
  contradiction
theorem ZhG(t:Int × Rat):prt t≠[]:=fun e=>by
 have:=(List.append_eq_nil_iff.1 e).2
 cases this
theorem ZsR(q:Rat):YX q≠[]:=fun e=>Zw5 _ (List.append_eq_nil_iff.1 e).1
theorem Zpp(l:List (Int × Rat))(t:Int × Rat):txL (l++[t])=txS (txL l) t:=by
 unfold txL
 rw [List.foldl_append]
 rfl
structure TxB (f:Zf):Prop where
 l:f.1.length≤100
 t:∀t∈f.1,H t.2≤10000∧0≤t.1∧t.1<9223372036854775808
 k:H f.2≤10000
theorem J4{K m:Nat}(h:(lmb K).length≤m):(decDigits K).length≤32*m+1:=by
 have hb:K<2 ^ (32*(lmb K).length):=by
  have:=Xy (Yk K)
  rw [Zg] at this
  rwa [Nat.pow_mul]
 have:=Za0 _ K hb
 omega
theorem Zbf{q:Rat}(h:H q≤10000):(YX q).length≤640100:=by
 have a1:(lmb q.num.natAbs).length≤H q:=Nat.le_max_left _ _
 have a2:(lmb q.den).length≤H q:=Nat.le_max_right _ _
 have h1:=J4 (K:=q.num.natAbs) (m:=10000) (by omega)
 have h2:=J4 (K:=q.den) (m:=10000) (by omega)
 unfold YX
 rw [List.length_append]
 split
 ·simp;omega
 ·simp;omega
theorem ZiD{t:Int × Rat}(h:H t.2≤10000)(h0:0≤t.1)(h1:t.1<9223372036854775808):(prt t).length≤640300:=by
 have a1:=Zbf h
 have a2:(lmb t.1.toNat).length≤2:=Yc (by omega)
 have a3:=J4 a2
 unfold prt
 rw [List.length_append,List.length_cons]
 split
 ·simp;omega
 ·rw [List.length_append];simp;omega
theorem ZsU{a:List UInt8}{t:Int × Rat}(h:H t.2≤10000∧0≤t.1∧t.1<9223372036854775808):(txS a t).length≤a.length+640303:=by
 have:=ZoE a (ngT t.2) (prt t)
 have:=ZiD h.1 h.2.1 h.2.2
 unfold txS
 omega
theorem Zja:∀{l:List (Int × Rat)} {a:List UInt8},(∀t∈l,H t.2≤10000∧0≤t.1∧t.1<9223372036854775808)→(l.foldl txS a).length≤a.length+l.length*640303
 | [],a,_=>by simp
 | t::l,a,h=>by
   have h1:=ZsU (a:=a) (h t (by simp))
   have h2:=Zja (l:=l) (a:=txS a t) (fun u hu=>h u (by simp [hu]))
   rw [List.foldl_cons,List.length_cons,Nat.add_mul]
   omega
theorem Zxl(p:List UInt8):jn [] false p=p:=by simp [jn]
theorem ZyE(p:List UInt8):jn [] true p=45::p:=by simp [jn]
theorem Zxo{a:List UInt8}(h:a≠[])(p:List UInt8):jn a false p=a++[32,43,32]++p:=by simp [jn,h]
theorem Zya{a:List UInt8}(h:a≠[])(p:List UInt8):jn a true p=a++[32,45,32]++p:=by simp [jn,h]
section
variable {n : Nat}
theorem Zih{neg:Bool}{p:List UInt8}(hs:neg=false)(hp:p.length≤90000000):Zp (n+6) 115 [.lit (.bool neg),.lit (.string (bs p)),.ptr 0 0] [.box 137 [.lit (.pointer none),.nl 1] false]=some (.tup [],[(0,.box 137 [.ptr 0 0,.own 1 (bs (jn [] neg p)).size] false),(1,.row 5 1 (Zv (bs (jn [] neg p))) 0)]):=by
 subst hs
 rw [Zxl]
 exact ZsK (n:=n+4) (ZD (by rw [ZS];omega) (by omega))
theorem ZoN{neg:Bool}{p:List UInt8}(hs:neg=true)(hp:p.length≤90000000):Zp (n+6) 115 [.lit (.bool neg),.lit (.string (bs p)),.ptr 0 0] [.box 137 [.lit (.pointer none),.nl 1] false]=some (.tup [],[(0,.box 137 [.ptr 0 0,.own 2 (bs (jn [] neg p)).size] false),(2,.row 5 1 (Zv (bs (jn [] neg p))) 0)]):=by
 subst hs
 have h:=ZsL (n:=n+4) (s:=bs p) (ZD (by omega) (by omega)) (ZD (by rw [ZS];omega) (by omega))
 have h1:(⟨#[45]⟩:ByteArray)++bs p=bs (45::p):=Xw [45] p
 have h2:1+(bs p).size=(bs (45::p)).size:=by rw [ZS,ZS,List.length_cons];omega
 rw [h1,h2] at h
 rw [ZyE]
 exact h
theorem ZtD{a p:List UInt8}{neg:Bool}(ha:a≠[])(hp:a.length+p.length≤90000000):Zp (n+6) 115 [.lit (.bool neg),.lit (.string (bs p)),.ptr 0 0] [.box 137 [.ptr 0 0,.own 1 (bs a).size] false,.row 5 1 (Zv (bs a)) 0]=some (.tup [],[(0,.box 137 [.ptr 0 0,.own 3 (bs (jn a neg p)).size] false),(3,.row 5 1 (Zv (bs (jn a neg p))) 0)]):=by
 have hs:0<(bs a).size:=by rw [ZS];exact List.length_pos_iff.2 ha
 have c2:(⟨#[32,45,32]⟩:ByteArray)=bs [32,45,32]:=rfl
 have c3:(⟨#[32,43,32]⟩:ByteArray)=bs [32,43,32]:=rfl
 cases neg with
 | false=>
   have h:=Zr1 (n:=n+4) (a:=bs a) (s:=bs p) hs (ZD (by rw [ZS];omega) (by omega)) (ZD (by rw [ZS,ZS];omega) (by omega))
   have h2:(bs a).size+3+(bs p).size=(bs (a++[32,43,32]++p)).size:=by rw [ZS,ZS,ZS,List.length_append,List.length_append];rfl
   rw [c3,Xw,Xw,h2] at h
   rw [Zxo ha]
   exact h
 | true=>
   have h:=ZsJ (n:=n+4) (a:=bs a) (s:=bs p) hs (ZD (by rw [ZS];omega) (by omega)) (ZD (by rw [ZS,ZS];omega) (by omega))
   have h2:(bs a).size+3+(bs p).size=(bs (a++[32,45,32]++p)).size:=by rw [ZS,ZS,ZS,List.length_append,List.length_append];rfl
   rw [c2,Xw,Xw,h2] at h
   rw [Zya ha]
   exact h
theorem Zmj{a:List UInt8}(ha:a≠[])(hl:a.length≤90000000):Zp (n+6) 120 [.ptr 0 0] [.box 137 [.ptr 0 0,.own 1 (bs a).size] false,.row 5 1 (Zv (bs a)) 0]=some (.lit (.string (bs a)),[(0,.box 137 [.ptr 0 0,.own 1 (bs a).size] false)]):=
 ZuT (n:=n+6) (by rw [ZS];exact List.length_pos_iff.2 ha) (by rw [ZS];omega)
theorem Zui{v:Int}(h0:0≤v)(h1:v<9223372036854775808):UW [.lit (.int .i64 v)]=some (.lit (.string (bs (decDigits v.toNat)))):=by
 simp only [UW]
 rw [if_pos ⟨by omega,by omega⟩]
 have e:Lib.itoa v=decDigits v.toNat:=by
  unfold Lib.itoa
  rw [if_neg (by omega)]
 rw [e]
 rfl
theorem Zbm{t:Int × Rat}:(YX t.2=[49]→bs (prt t)=(⟨#[120]⟩:ByteArray)++bs (decDigits t.1.toNat))∧(YX t.2≠[49]→bs (prt t)=(bs (YX t.2)++(⟨#[42]⟩:ByteArray))++((⟨#[120]⟩:ByteArray)++bs (decDigits t.1.toNat))):=by
 have c1:(⟨#[120]⟩:ByteArray)=bs [120]:=rfl
 have c2:(⟨#[42]⟩:ByteArray)=bs [42]:=rfl
 unfold prt
 refine ⟨fun h=>?_,fun h=>?_⟩
 ·rw [if_pos h,c1,Xw];rfl
 ·rw [if_neg h,c1,c2,Xw,Xw,Xw];rfl
theorem ZyJ{f:Zf}(hf:TxB f):run (n+7) 84 [Ze f]=some (.lit (.string (bs (txt f)))):=by
 have hl:=hf.l
 have hT:∀i,i≤f.1.length→(txL (f.1.take i)).length≤i*640303:=fun i hi=>by
  have h:=Zja (l:=f.1.take i) (a:=[]) (fun t ht=>hf.t t (List.mem_of_mem_take ht))
  rw [List.length_take] at h
  simp only [List.length_nil,Nat.zero_add] at h
  have:min i f.1.length*640303=i*640303:=by rw [Nat.min_eq_left hi]
  unfold txL
  exact Nat.le_trans h (Nat.le_of_eq this)
 obtain ⟨b,hL,hI1,hI2⟩:=QJ (O:=tab (n+7)) (P:= Tryz.prog) (m:=0) (N:=55) (lives:=Za 84) (r:=4) (C:=YA) (exN:=.exit 0) (M:=f.1.length)
  (enc:=fun i (b:List UInt8)=>if b=[] then YE f i else QO f i (bs b)) (out:=fun b=>if b=[] then WX f else Jx f (bs b))
  (fun i b=>b=txL (f.1.take i)∧i≤f.1.length) [] ⟨rfl,Nat.zero_le _⟩ (by omega) (fun h=>by cases h)
  (fun i b hi hI=>by
   obtain ⟨hb,hle⟩:=hI
   have hx:f.1[i]?=some f.1[i]:=List.getElem?_eq_getElem hi
   obtain ⟨t,ht⟩:∃t,f.1[i]=t:=⟨_,rfl⟩
   rw [ht] at hx
   have htk:f.1.take (i+1)=f.1.take i++[t]:=by rw [List.take_add_one,hx];rfl
   obtain ⟨v,q⟩:=t
   obtain ⟨hq,hv0,hv1⟩:=hf.t _ (List.mem_of_getElem? hx)
   dsimp only at hq hv0 hv1
   have hbl:=hT i hle
   rw [←hb] at hbl
   have hi6:i*640303≤64030300:=Nat.mul_le_mul_right 640303 (show i≤100 by omega)
   have hpl:=ZiD (t:=(v,q)) hq hv0 hv1
   have hal:=Zbf hq
   have hdl:=J4 (K:=v.toNat) (m:=2) (Yc (by omega))
   have K3:=Zui hv0 hv1
   have K5:=ZtO (n:=n) (q:=q) (by omega)
   have C1:(i:Int)<(f.1.length:Int):=by omega
   have W:InI ((i:Int)+1):=⟨by omega,by omega⟩
   have e1:(⟨#[120]⟩:ByteArray).size=1:=rfl
   have e2:(⟨#[42]⟩:ByteArray).size=1:=rfl
   have c1:(⟨#[49]⟩:ByteArray)=bs [49]:=rfl
   have S4:(⟨#[120]⟩:ByteArray).size+(bs (decDigits v.toNat)).size≤9000000000000000000:=by rw [e1,ZS];omega
   have S7:(bs (YX q)).size+(⟨#[42]⟩:ByteArray).size≤9000000000000000000:=by rw [e2,ZS];omega
   have c4:(⟨#[120]⟩:ByteArray)++bs (decDigits v.toNat)=bs (120::decDigits v.toNat):=Xw [120] _
   have c5:bs (YX q)++(⟨#[42]⟩:ByteArray)=bs (YX q++[42]):=Xw _ [42]
   have S8:(bs (YX q)++(⟨#[42]⟩:ByteArray)).size+((⟨#[120]⟩:ByteArray)++bs (decDigits v.toNat)).size≤9000000000000000000:=by
    rw [c4,c5,ZS,ZS,List.length_append,List.length_cons];simp;omega
   have hne:jn b (Zd q).s (prt (v,q))≠[]:=Zi5 (ZhG _)
   refine ⟨jn b (Zd q).s (prt (v,q)),?_,by rw [htk,Zpp,←hb];rfl,hi⟩
   rw [if_neg hne]
   by_cases h0:b=[]
   ·subst h0
    rw [if_pos rfl]
    rcases (Bool.eq_false_or_eq_true (Zd q).s).symm with hs|hs
    ·have P0:=Zih (n:=n) (p:=prt (v,q)) hs (by omega)
     by_cases h1:YX q=[49]
     ·have e:=Zbm (t:=(v,q)).1 h1
      exact ZuC C1 hx K3 S4 e K5 (by rw [h1];rfl) P0 W
     ·have e:=Zbm (t:=(v,q)).2 h1
      exact ZvR C1 hx K3 S4 rfl K5 (fun h=>h1 (Zcb (h.trans c1))) S7 rfl S8 e P0 W
    ·have P0:=ZoN (n:=n) (p:=prt (v,q)) hs (by omega)
     by_cases h1:YX q=[49]
     ·have e:=Zbm (t:=(v,q)).1 h1
      exact Zuk C1 hx K3 S4 e K5 (by rw [h1];rfl) P0 W
     ·have e:=Zbm (t:=(v,q)).2 h1
      exact Zuf C1 hx K3 S4 rfl K5 (fun h=>h1 (Zcb (h.trans c1))) S7 rfl S8 e P0 W
   ·rw [if_neg h0]
    have P0:=ZtD (n:=n) (a:=b) (p:=prt (v,q)) (neg:=(Zd q).s) h0 (by omega)
    by_cases h1:YX q=[49]
    ·have e:=Zbm (t:=(v,q)).1 h1
     exact Zx3 C1 hx K3 S4 e K5 (by rw [h1];rfl) P0 W
    ·have e:=Zbm (t:=(v,q)).2 h1
     exact Zw3 C1 hx K3 S4 rfl K5 (fun h=>h1 (Zcb (h.trans c1))) S7 rfl S8 e P0 W)
  (fun b hI=>by
   by_cases h0:b=[]
   ·rw [if_pos h0,if_pos h0];exact ZmM (by omega)
   ·rw [if_neg h0,if_neg h0];exact ZyI (by omega))
 rw [List.take_length] at hI1
 rw [if_pos rfl] at hL
 have hbl:=hT f.1.length (Nat.le_refl _)
 rw [List.take_length,←hI1] at hbl
 have hi6:f.1.length*640303≤64030300:=Nat.mul_le_mul_right 640303 hl
 have hkl:=Zbf hf.k
 have K3:=ZtO (n:=n) (q:=f.2) (by have:=hf.k;omega)
 have hn0:(0<((Zd f.2).l1.length:Int))↔f.2≠0:=by
  have h9:(Zd f.2).l1=lmb f.2.num.natAbs:=rfl
  rw [h9]
  constructor
  ·intro h e
   rw [e] at h
   simp [JU] at h
  ·intro h
   have:0<f.2.num.natAbs:=by
    rcases Nat.eq_zero_or_pos f.2.num.natAbs with h1|h1
    ·exact absurd (Rat.num_eq_zero.1 (Int.natAbs_eq_zero.1 h1)) h
    ·exact h1
   rw [Qw this]
   simp
 unfold txt ngT
 rw [←hI1]
 have hne:jn b (Zd f.2).s (YX f.2)≠[]:=Zi5 (ZsR _)
 have hjl:=ZoE b (Zd f.2).s (YX f.2)
 have Z:=Zmj (n:=n) hne (by omega)
 by_cases h0:b=[]
 ·rw [if_pos (.inr h0)]
  subst h0
  rw [if_pos rfl] at hL
  by_cases h2:f.2=0
  ·have hs:(Zd f.2).s=false:=by rw [h2];decide+kernel
   have P0:=Zih (n:=n) (p:=YX f.2) hs (by omega)
   exact Zxi hL (fun h=>hn0.1 h h2) (Zhi (n:=n+6)) rfl K3 P0 Z
  ·rcases (Bool.eq_false_or_eq_true (Zd f.2).s).symm with hs|hs
   ·have P0:=Zih (n:=n) (p:=YX f.2) hs (by omega)
    exact ZyL hL (hn0.2 h2) K3 P0 Z
   ·have P0:=ZoN (n:=n) (p:=YX f.2) hs (by omega)
    exact ZxE hL (hn0.2 h2) K3 P0 Z
 ·rw [if_neg h0] at hL
  by_cases h2:f.2=0
  ·rw [if_neg (fun h=>h.elim (fun h=>h h2) h0)]
   have L0:=Zhl (n:=n+6) (k:=(bs b).size) (es:=Zv (bs b))
   exact Zx2 hL (fun h=>hn0.1 h h2) L0 (by rw [ZS];have:=List.length_pos_iff.2 h0;omega) (Zmj (n:=n) h0 (by omega))
  ·rw [if_pos (.inl h2)]
   exact Zxg hL (hn0.2 h2) K3 (ZtD (n:=n) h0 (by omega)) Z
end
end
section
open Go.RowKit
open Lib (decDigits)
def isD(c:UInt8):Bool:=decide (48≤c.toNat∧c.toNat≤57)
def dgV(D:List UInt8)(n:Nat):Nat:=D.foldl (fun n c=>n*10+(c.toNat-48)) n
theorem Zb0{k:Nat}(h:k<10):(dig k).toNat=48+k:=by
 unfold dig
 rw [UInt8.toNat_ofNat']
 omega
theorem ZtB{k:Nat}(h:k<10):isD (dig k)=true:=by
 unfold isD
 rw [Zb0 h]
 simp;omega
theorem Zsi:∀(m u:Nat),u≤m→(∀c∈decDigits u,isD c=true)∧dgV (decDigits u) 0=u∧(0<u→∃c r,decDigits u=c::r∧c≠48)
 | m,u,hm=>by
   by_cases h:u<10
   ·rw [ZcX h]
    refine ⟨fun c hc=>by rw [List.mem_singleton.1 hc];exact ZtB h,?_,fun h0=>⟨dig u,[],rfl,fun e=>?_⟩⟩
    ·show 0*10+((dig u).toNat-48)=u
     rw [Zb0 h];omega
    ·have:=Zb0 h
     rw [e] at this
     have e2:(48:UInt8).toNat=48:=rfl
     omega
   ·cases m with
    | zero=>omega
    | succ m=>
      obtain ⟨a1,a2,a3⟩:=Zsi m (u / 10) (by omega)
      obtain ⟨c,r,e,hc⟩:=a3 (by omega)
      rw [Zf8 h]
      have hr:u % 10<10:=Nat.mod_lt _ (by omega)
      refine ⟨fun c hc=>?_,?_,fun _=>⟨c,r++[dig (u % 10)],by rw [e];rfl,hc⟩⟩
      ·rcases List.mem_append.1 hc with h1|h1
       ·exact a1 c h1
       ·rw [List.mem_singleton.1 h1];exact ZtB hr
      ·unfold dgV at a2 ⊢
       rw [List.foldl_append,a2]
       show u / 10*10+((dig (u % 10)).toNat-48)=u
       rw [Zb0 hr];omega
structure NB (q:Rat):Prop where
 n:(decDigits q.num.natAbs).length≤200
 d:(decDigits q.den).length≤200
def tlT(c:Rat):List (Int × Rat)→List UInt8
 | []=>if c≠0 then (if ngT c=true then [32,45,32] else [32,43,32])++YX c else []
 | t::l=>((if ngT t.2=true then [32,45,32] else [32,43,32])++prt t)++tlT c l
structure TmN (t:Int × Rat):Prop where
 q:NB t.2
 v0:0≤t.1
 v:(decDigits t.1.toNat).length≤9
theorem Zoa(c:Rat):∀(l:List (Int × Rat)) (a:List UInt8),a≠[]→(if c≠0∨l.foldl txS a=[] then jn (l.foldl txS a) (ngT c) (YX c) else l.foldl txS a)=a++tlT c l
 | [],a,h=>by
   rw [List.foldl_nil]
   unfold tlT jn
   rw [if_neg h]
   by_cases hc:c=0
   ·rw [if_neg (by intro e;rcases e with e|e;exact e hc;exact h e),if_neg (fun e=>e hc),List.append_nil]
   ·rw [if_pos (.inl hc),if_pos hc]
 | t::l,a,h=>by
   rw [List.foldl_cons,Zoa c l (txS a t) (Zi5 (ZhG t))]
   show txS a t++tlT c l=a++(((if ngT t.2=true then [32,45,32] else [32,43,32])++prt t)++tlT c l)
   unfold txS jn
   rw [if_neg h,List.append_assoc]
end
section
open Go.RowKit
open Lib (decDigits)
def Beg(c:UInt8)(T:List UInt8):Prop:=T=[]∨∃r,T=c::r
theorem ZaB{c:UInt8}:∀{A A' T T':List UInt8},c ∉ A→c ∉ A'→Beg c T→Beg c T'→A++T=A'++T'→A=A'∧T=T'
 | [],[],T,T',_,_,_,_,h=>⟨rfl,h⟩
 | [],a::A',T,T',_,h2,h3,_,h=>by
   rcases h3 with rfl|⟨r,rfl⟩
   ·cases h
   ·rw [List.nil_append,List.cons_append,List.cons.injEq] at h
    exact absurd (h.1▸List.mem_cons_self) h2
 | a::A,[],T,T',h1,_,_,h4,h=>by
   rcases h4 with rfl|⟨r,rfl⟩
   ·cases h
   ·rw [List.nil_append,List.cons_append,List.cons.injEq] at h
    exact absurd (h.1▸List.mem_cons_self) h1
 | a::A,b::A',T,T',h1,h2,h3,h4,h=>by
   rw [List.cons_append,List.cons_append,List.cons.injEq] at h
   obtain ⟨rfl,h⟩:=h
   obtain ⟨rfl,e⟩:=ZaB (fun x=>h1 (List.mem_cons_of_mem _ x)) (fun x=>h2 (List.mem_cons_of_mem _ x)) h3 h4 h
   exact ⟨rfl,e⟩
theorem Zf7{k:Nat}{c:UInt8}(hc:isD c=false):c ∉ decDigits k:=fun h=>by
 have:=(Zsi k k (Nat.le_refl _)).1 c h
 rw [hc] at this
 cases this
theorem Zoo{u v:Nat}(h:decDigits u=decDigits v):u=v:=by
 have a:=(Zsi u u (Nat.le_refl _)).2.1
 have b:=(Zsi v v (Nat.le_refl _)).2.1
 rw [h,b] at a
 exact a.symm
theorem Za9{q:Rat}{c:UInt8}(hc:isD c=false)(h47:c≠47):c ∉ YX q:=fun h=>by
 unfold YX at h
 rcases List.mem_append.1 h with h|h
 ·exact Zf7 hc h
 ·split at h
  ·cases h
  ·rcases List.mem_cons.1 h with h|h
   ·exact h47 h
   ·exact Zf7 hc h
theorem Ze9{q r:Rat}(hs:ngT q=ngT r)(h:YX q=YX r):q=r:=by
 unfold YX at h
 have b:∀q:Rat,Beg 47 (if q.den=1 then [] else 47::decDigits q.den):=fun q=>by
  split
  ·exact .inl rfl
  ·exact .inr ⟨_,rfl⟩
 obtain ⟨h1,h2⟩:=ZaB (Zf7 (by decide)) (Zf7 (by decide)) (b q) (b r) h
 have e1:=Zoo h1
 have e2:q.den=r.den:=by
  by_cases a:q.den=1 <;>by_cases c:r.den=1
  ·rw [a,c]
  ·rw [if_pos a,if_neg c] at h2;cases h2
  ·rw [if_neg a,if_pos c] at h2;cases h2
  ·rw [if_neg a,if_neg c,List.cons.injEq] at h2;exact Zoo h2.2
 have e3:(q.num<0)↔(r.num<0):=by
  have:decide (q.num<0)=decide (r.num<0):=hs
  exact decide_eq_decide.1 this
 exact Rat.ext (by omega) e2
theorem ZhF{t:Int × Rat}{c:UInt8}(hc:isD c=false)(h1:c≠47)(h2:c≠42)(h3:c≠120):c ∉ prt t:=fun h=>by
 unfold prt at h
 rcases List.mem_append.1 h with h|h
 ·split at h
  ·cases h
  ·rcases List.mem_append.1 h with h|h
   ·exact Za9 hc h1 h
   ·exact h2 (List.mem_singleton.1 h)
 ·rcases List.mem_cons.1 h with h|h
  ·exact h3 h
  ·exact Zf7 hc h
theorem ZjK{t u:Int × Rat}(h0:0≤t.1)(h1:0≤u.1)(hs:ngT t.2=ngT u.2)(h:prt t=prt u):t=u:=by
 have no:∀t:Int × Rat,(120:UInt8) ∉ (if YX t.2=[49] then [] else YX t.2++[42]):=fun t hm=>by
  split at hm
  ·cases hm
  ·rcases List.mem_append.1 hm with h|h
   ·exact Za9 (by decide) (by decide) h
   ·exact absurd (List.mem_singleton.1 h) (by decide)
 obtain ⟨a,b⟩:=ZaB (no t) (no u) (.inr ⟨_,rfl⟩) (.inr ⟨_,rfl⟩) h
 rw [List.cons.injEq] at b
 have e1:=Zoo b.2
 have e2:YX t.2=YX u.2:=by
  by_cases c:YX t.2=[49] <;>by_cases d:YX u.2=[49]
  ·rw [c,d]
  ·rw [if_pos c,if_neg d] at a
   exact absurd a.symm (by simp)
  ·rw [if_neg c,if_pos d] at a
   exact absurd a (by simp)
  ·rw [if_neg c,if_neg d] at a
   exact List.append_cancel_right a
 exact Prod.ext (by omega) (Ze9 hs e2)
theorem ZeX(c:Rat)(l:List (Int × Rat)):Beg 32 (tlT c l):=by
 cases l with
 | nil=>
   unfold tlT
   by_cases hc:c≠0
   ·rw [if_pos hc];split <;>exact .inr ⟨_,rfl⟩
   ·rw [if_neg hc];exact .inl rfl
 | cons t l=>
   unfold tlT
   split <;>exact .inr ⟨_,rfl⟩
def ZgM(n:Bool):List UInt8:=if n=true then [32,45,32] else [32,43,32]
theorem ZhV{m n:Bool}{P Q:List UInt8}(h:ZgM m++P=ZgM n++Q):m=n∧P=Q:=by
 cases m <;>cases n <;>simp [ZgM] at h <;>first|exact ⟨rfl,h⟩|cases h
theorem ZhD(c:Rat):tlT c []=if c≠0 then ZgM (ngT c)++YX c else []:=rfl
theorem ZeL(c:Rat)(t:Int × Rat)(l:List (Int × Rat)):tlT c (t::l)=ZgM (ngT t.2)++(prt t++tlT c l):=by
 rw [←List.append_assoc]
 rfl
theorem ZtF(t:Int × Rat)(T:List UInt8):(120:UInt8)∈prt t++T:=by
 unfold prt
 simp
theorem ZtP{c c':Rat}{t:Int × Rat}{l:List (Int × Rat)}(h:tlT c []=tlT c' (t::l)):False:=by
 rw [ZhD,ZeL] at h
 by_cases hc:c≠0
 ·rw [if_pos hc] at h
  have e:=(ZhV h).2
  have:=ZtF t (tlT c' l)
  rw [←e] at this
  exact Za9 (by decide) (by decide) this
 ·rw [if_neg hc] at h
  have:=congrArg List.length h
  unfold ZgM at this
  split at this <;>simp at this
theorem Zmf:∀{l l':List (Int × Rat)} {c c':Rat},(∀t∈l,0≤t.1)→(∀t∈l',0≤t.1)→tlT c l=tlT c' l'→l=l'∧c=c'
 | [],[],c,c',_,_,h=>by
   rw [ZhD,ZhD] at h
   refine ⟨rfl,?_⟩
   have ln:∀c:Rat,(ZgM (ngT c)++YX c).length≠0:=fun c=>by
    unfold ZgM
    split <;>simp
   by_cases a:c≠0 <;>by_cases b:c'≠0
   ·rw [if_pos a,if_pos b] at h
    obtain ⟨e1,e2⟩:=ZhV h
    exact Ze9 e1 e2
   ·rw [if_pos a,if_neg b] at h
    exact absurd (congrArg List.length h) (ln c)
   ·rw [if_neg a,if_pos b] at h
    exact absurd (congrArg List.length h).symm (ln c')
   ·have a':c=0:=Decidable.not_not.1 a
    have b':c'=0:=Decidable.not_not.1 b
    rw [a',b']
 | [],t::l',c,c',_,_,h=>(ZtP h).elim
 | t::l,[],c,c',_,_,h=>(ZtP h.symm).elim
 | t::l,u::l',c,c',h1,h2,h=>by
   rw [ZeL,ZeL] at h
   obtain ⟨e1,e2⟩:=ZhV h
   have no:∀t:Int × Rat,(32:UInt8) ∉ prt t:=fun t=>ZhF (by decide) (by decide) (by decide) (by decide)
   obtain ⟨e3,e4⟩:=ZaB (no t) (no u) (ZeX c l) (ZeX c' l') e2
   obtain ⟨rfl,rfl⟩:=Zmf (fun x hx=>h1 x (List.mem_cons_of_mem _ hx)) (fun x hx=>h2 x (List.mem_cons_of_mem _ hx)) e4
   rw [ZjK (h1 t List.mem_cons_self) (h2 u List.mem_cons_self) e1 e3]
   exact ⟨rfl,rfl⟩
def sgT(n:Bool)(p:List UInt8):List UInt8:=if n=true then 45::p else p
theorem Zto{m n:Bool}{P Q:List UInt8}(hP:(45:UInt8) ∉ P)(hQ:(45:UInt8) ∉ Q)(h:sgT m P=sgT n Q):m=n∧P=Q:=by
 cases m <;>cases n
 ·exact ⟨rfl,h⟩
 ·have h':P=45::Q:=h
  rw [h'] at hP
  exact absurd List.mem_cons_self hP
 ·have h':45::P=Q:=h
  rw [←h'] at hQ
  exact absurd List.mem_cons_self hQ
 ·have h':(45:UInt8)::P=45::Q:=h
  rw [List.cons.injEq] at h'
  exact ⟨rfl,h'.2⟩
theorem ZtN{n:Bool}{P:List UInt8}{c:UInt8}(h:c ∉ P)(hc:c≠45):c ∉ sgT n P:=fun hm=>by
 unfold sgT at hm
 split at hm
 ·rcases List.mem_cons.1 hm with h1|h1
  ·exact hc h1
  ·exact h h1
 ·exact h hm
theorem Zb1(c:Rat):txt ([],c)=sgT (ngT c) (YX c):=by
 unfold txt
 rw [if_pos (.inr rfl)]
 rfl
theorem ZaE(t:Int × Rat)(F:List (Int × Rat))(c:Rat):txt (t::F,c)=sgT (ngT t.2) (prt t)++tlT c F:=by
 have h:=Zoa c F (txS [] t) (Zi5 (ZhG t))
 exact h
theorem Ztj{f g:Zf}(hf:∀t∈f.1,0≤t.1)(hg:∀t∈g.1,0≤t.1)(h:txt f=txt g):f=g:=by
 obtain ⟨F,c⟩:=f
 obtain ⟨G,d⟩:=g
 have noA:∀(n:Bool) (q:Rat),(120:UInt8) ∉ sgT n (YX q):=fun n q=>ZtN (Za9 (by decide) (by decide)) (by decide)
 have inX:∀(n:Bool) (t:Int × Rat) (T:List UInt8),(120:UInt8)∈sgT n (prt t)++T:=fun n t T=>by
  have:=ZtF t T
  unfold sgT
  split
  ·exact List.mem_cons_of_mem _ this
  ·exact this
 cases F with
 | nil=>
   cases G with
   | nil=>
     rw [Zb1,Zb1] at h
     obtain ⟨e1,e2⟩:=Zto (Za9 (by decide) (by decide)) (Za9 (by decide) (by decide)) h
     rw [Ze9 e1 e2]
   | cons u G=>
     rw [Zb1,ZaE] at h
     have:=inX (ngT u.2) u (tlT d G)
     rw [←h] at this
     exact absurd this (noA _ _)
 | cons t F=>
   cases G with
   | nil=>
     rw [Zb1,ZaE] at h
     have:=inX (ngT t.2) t (tlT c F)
     rw [h] at this
     exact absurd this (noA _ _)
   | cons u G=>
     rw [ZaE,ZaE] at h
     have no:∀(n:Bool) (t:Int × Rat),(32:UInt8) ∉ sgT n (prt t):=fun n t=>ZtN (ZhF (by decide) (by decide) (by decide) (by decide)) (by decide)
     obtain ⟨e1,e2⟩:=ZaB (no _ t) (no _ u) (ZeX c F) (ZeX d G) h
     have no5:∀t:Int × Rat,(45:UInt8) ∉ prt t:=fun t=>ZhF (by decide) (by decide) (by decide) (by decide)
     obtain ⟨e3,e4⟩:=Zto (no5 t) (no5 u) e1
     obtain ⟨rfl,rfl⟩:=Zmf (fun x hx=>hf x (List.mem_cons_of_mem _ hx)) (fun x hx=>hg x (List.mem_cons_of_mem _ hx)) e2
     rw [ZjK (hf t List.mem_cons_self) (hg u List.mem_cons_self) e3 e4]
end
section
open Go.RowKit
theorem Znx(a b:ByteArray):(a==b)=decide (a=b):=by
 by_cases h:a=b
 ·rw [decide_eq_true h]
  exact (MapKept.bytes_beq a b).2 h
 ·rw [decide_eq_false h,Bool.eq_false_iff]
  exact fun e=>h ((MapKept.bytes_beq a b).1 e)
def Qp(L:List Zf):List (ByteArray × Value):=L.map fun f=>(bs (txt f),.bool true)
theorem Zeh{n:Zf}:∀{L:List Zf},(∀f∈L,txt n=txt f→n=f)→Wb (bs (txt n)) (Qp L)=if n∈L then some (.bool true) else none
 | [],_=>by simp [Qp,Wb]
 | f::L,h=>by
   have ih:=Zeh fun g hg=>h g (List.mem_cons_of_mem _ hg)
   have e:Qp (f::L)=(bs (txt f),.bool true)::Qp L:=rfl
   rw [e,Wb,Znx]
   by_cases hf:n=f
   ·subst hf
    rw [decide_eq_true rfl,if_pos rfl,if_pos List.mem_cons_self]
   ·have h2:¬bs (txt n)=bs (txt f):=fun e=>hf (h f List.mem_cons_self (Zcb e))
    rw [decide_eq_false h2,if_neg Bool.false_ne_true,ih]
    by_cases hm:n∈L
    ·rw [if_pos hm,if_pos (List.mem_cons_of_mem _ hm)]
    ·rw [if_neg hm,if_neg fun x=>by
      rcases List.mem_cons.1 x with e|e
      ·exact hf e
      ·exact hm e]
theorem Zgw{n:Zf}:∀{L:List Zf},(∀f∈L,txt n≠txt f)→Zbi (bs (txt n)) (.bool true) (Qp L)=Qp (L++[n])
 | [],_=>rfl
 | f::L,h=>by
   have ih:=Zgw fun g hg=>h g (List.mem_cons_of_mem _ hg)
   have e:Qp (f::L)=(bs (txt f),.bool true)::Qp L:=rfl
   have h2:¬bs (txt n)=bs (txt f):=fun e=>h f List.mem_cons_self (Zcb e)
   rw [e,Zbi,Znx,decide_eq_false h2,if_neg Bool.false_ne_true,ih]
   rfl
end
section
open Go.RowKit
section
variable {a0 : Zf} {n : Nat} {q : Rat} {r : Rat} {r3 : Zf} {r2 : Int} {v : Int}
theorem Zv9(C1:(a0.1.length:Int)=0)(B2a:H a0.2≤17179869184)(W3:InI (sgR a0.2)):
  run (n+7) 11 [Ze a0]=some (.agg [.sl 4 [],.lit (.bool (Zd (ofQ (sgR a0.2))).s),Zc (Zd (ofQ (sgR a0.2))).l1,Zc (Zd (ofQ (sgR a0.2))).l2]):=by
 have C1_:((a0.1.length:Int)==0)=true:=by rw [C1];simp
 have K2:=Yy (p:=a0.2) B2a
 have K3:=WD (z:=sgR a0.2) W3.1 W3.2
 unfold run fnP
 simp+decide [Tryz.f11,C1_,K2,K3]
theorem ZuU(C1:¬(a0.1.length:Int)=0)(E2:a0.1[0]?=some (v,q))(K4:run (n+6) 36 [Zn (ofQ 1),.agg [.lit (.bool false),Zc (Zd q).l1,Zc (Zd q).l2]]=some (.tup [Zn r,.lit (.int .i64 r2)]))(K5:run (n+6) 37 [Ze a0,Zn r]=some (Ze r3)):
  run (n+7) 11 [Ze a0]=some (Ze r3):=by
 have C1_:((a0.1.length:Int)==0)=false:=by simpa using C1
 obtain ⟨EL2,EG2⟩:=List.getElem?_eq_some_iff.1 E2
 have K3:=WD (z:=1) (by omega) (by omega)
 simp only [Zn] at K4
 simp only [Zn,Ze] at K5
 unfold run fnP
 simp+decide [Tryz.f11,C1_,EL2,EG2,K3,K4,K5]
end
section
variable {a0 : Zf} {n : Nat} {q : Rat} {r : Rat} {r3 : Zf} {r2 : Int} {v : Int} {r6 : Zf} {r5 : Int} {r4 : Rat}
theorem Zvk(C1:(a0.1.length:Int)=0)(B2a:H a0.2≤17179869184)(W3:InI (sgR a0.2)):
  run (n+7) 14 [Ze a0]=some (.agg [.sl 4 [],.lit (.bool (Zd (ofQ (sgR a0.2))).s),Zc (Zd (ofQ (sgR a0.2))).l1,Zc (Zd (ofQ (sgR a0.2))).l2]):=by
 have C1_:((a0.1.length:Int)==0)=true:=by rw [C1];simp
 have K2:=Yy (p:=a0.2) B2a
 have K3:=WD (z:=sgR a0.2) W3.1 W3.2
 unfold run fnP
 simp+decide [Tryz.f14,C1_,K2,K3]
theorem Zwp(C1:¬(a0.1.length:Int)=0)(E2:a0.1[0]?=some (v,q))(B3a:H q≤17179869184)(C4:sgR q<0)(K7:run (n+6) 23 [Zn (ofQ 1),Zn (-q)]=some (.tup [Zn r,.lit (.int .i64 r2)]))(K8:run (n+6) 41 [Ze a0,Zn r]=some (Ze r3)):
  run (n+7) 14 [Ze a0]=some (Ze r3):=by
 have C1_:((a0.1.length:Int)==0)=false:=by simpa using C1
 obtain ⟨EL2,EG2⟩:=List.getElem?_eq_some_iff.1 E2
 have K3:=Yy (p:=q) B3a
 have K5:=Zf0 (p:=q) B3a
 have K6:=WD (z:=1) (by omega) (by omega)
 simp only [Zn] at K7
 simp only [Zn,Ze] at K8
 unfold run fnP
 simp+decide [Tryz.f14,C1_,EL2,EG2,K3,C4,K5,K6,K7,K8]
theorem Zwd(C1:¬(a0.1.length:Int)=0)(E2:a0.1[0]?=some (v,q))(B3a:H q≤17179869184)(C4:¬sgR q<0)(K6:run (n+6) 23 [Zn (ofQ 1),Zn q]=some (.tup [Zn r4,.lit (.int .i64 r5)]))(K7:run (n+6) 41 [Ze a0,Zn r4]=some (Ze r6)):
  run (n+7) 14 [Ze a0]=some (Ze r6):=by
 have C1_:((a0.1.length:Int)==0)=false:=by simpa using C1
 obtain ⟨EL2,EG2⟩:=List.getElem?_eq_some_iff.1 E2
 have K3:=Yy (p:=q) B3a
 have K5:=WD (z:=1) (by omega) (by omega)
 simp only [Zn] at K6
 simp only [Zn,Ze] at K7
 unfold run fnP
 simp+decide [Tryz.f14,C1_,EL2,EG2,K3,C4,K5,K6,K7]
end
end
section
open Go.RowKit
section
variable{M:List (ByteArray × Value)}{r:Zf}{L:List Zf}{a1:Zf}{r2:ByteArray}{n:Nat}{u:Bool}
section
variable(K1:run (n+7) 11 [Ze a1]=some (Ze r))(K2:run (n+7) 84 [Ze r]=some (.lit (.string r2)))
include K1 K2
theorem Zv7(C3:(r.1.length:Int)=0)(C4:(Zd r.2).s=false):
  Zp (n+8) 46 [.ptr 0 0,Ze a1] [.box 78 [.own 1 L.length,.mp 2] false,.row 28 4 (L.map Zh) 0,.mp M]=some (.tup [],[(0,.box 78 [.own 1 L.length,.mp 2] false),(1,.row 28 4 (L.map Zh) 0),(2,.mp M)]):=by
 simp only [Ze] at K1
 simp only [Ze] at K2
 have C3_:((r.1.length:Int)==0)=true:=by rw [C3];simp
 try simp only [C4] at K1
 try simp only [C4] at K2
 unfold Zp fnL
 simp+decide [Tryz.f46,K1,K2,C3_]
theorem Zwv(C3:(r.1.length:Int)=0)(C4:(Zd r.2).s=true)(K5:Wb r2 M=some (.bool u))(C6:u=true):
  Zp (n+8) 46 [.ptr 0 0,Ze a1] [.box 78 [.own 1 L.length,.mp 2] false,.row 28 4 (L.map Zh) 0,.mp M]=some (.tup [],[(0,.box 78 [.own 1 L.length,.mp 2] false),(1,.row 28 4 (L.map Zh) 0),(2,.mp M)]):=by
 simp only [Ze] at K1
 simp only [Ze] at K2
 have C3_:((r.1.length:Int)==0)=true:=by rw [C3];simp
 try simp only [C4] at K1
 try simp only [C4] at K2
 unfold Zp fnL
 simp+decide [Tryz.f46,K1,K2,C3_,K5,C6]
theorem Zu8(C3:(r.1.length:Int)=0)(C4:(Zd r.2).s=true)(K5:Wb r2 M=none)(M6:L.length+1≤100000000):
  Zp (n+8) 46 [.ptr 0 0,Ze a1] [.box 78 [.own 1 L.length,.mp 2] false,.row 28 4 (L.map Zh) 0,.mp M]=some (.tup [],[(0,.box 78 [.own 6 (L.length+1),.mp 2] false),(2,.mp (Zbi r2 (.bool true) M)),(6,.row 28 4 ((L++[r]).map Zh) 0)]):=by
 simp only [Ze] at K1
 simp only [Ze] at K2
 have C3_:((r.1.length:Int)==0)=true:=by rw [C3];simp
 have M6_:∀b,b≤10000→ZT (L.length+1) b=true:=fun b hb=>ZD M6 hb
 try simp only [C4] at K1
 try simp only [C4] at K2
 unfold Zp fnL
 simp+decide [Tryz.f46,K1,K2,C3_,C4,K5,M6_]
theorem ZuF(C3:¬(r.1.length:Int)=0)(K4:Wb r2 M=some (.bool u))(C5:u=true):
  Zp (n+8) 46 [.ptr 0 0,Ze a1] [.box 78 [.own 1 L.length,.mp 2] false,.row 28 4 (L.map Zh) 0,.mp M]=some (.tup [],[(0,.box 78 [.own 1 L.length,.mp 2] false),(1,.row 28 4 (L.map Zh) 0),(2,.mp M)]):=by
 simp only [Ze] at K1
 simp only [Ze] at K2
 have C3_:((r.1.length:Int)==0)=false:=by simpa using C3
 unfold Zp fnL
 simp+decide [Tryz.f46,K1,K2,C3_,K4,C5]
theorem Zvi(C3:¬(r.1.length:Int)=0)(K4:Wb r2 M=none)(M5:L.length+1≤100000000):
  Zp (n+8) 46 [.ptr 0 0,Ze a1] [.box 78 [.own 1 L.length,.mp 2] false,.row 28 4 (L.map Zh) 0,.mp M]=some (.tup [],[(0,.box 78 [.own 6 (L.length+1),.mp 2] false),(2,.mp (Zbi r2 (.bool true) M)),(6,.row 28 4 ((L++[r]).map Zh) 0)]):=by
 simp only [Ze] at K1
 simp only [Ze] at K2
 have C3_:((r.1.length:Int)==0)=false:=by simpa using C3
 have M5_:∀b,b≤10000→ZT (L.length+1) b=true:=fun b hb=>ZD M5 hb
 unfold Zp fnL
 simp+decide [Tryz.f46,K1,K2,C3_,K4,M5_]
end
end
noncomputable def Xo:Code:=(Zb (ZP Tryz.f49)).getD 0 .skip
def Qm(a0:List Zf)(i_5:Nat)(r:Zf):St:=
 ⟨[(0,.own 0 a0.length),(5,.ptr 1 0),(6,.lit (.int .i64 (i_5:Int)))],
  [(0,some (.row 28 4 (a0.map Zh) 0)),
   (1,some (.box 28 [.sl 4 (r.1.map Zr),.lit (.bool (Zd r.2).s),Zc (Zd r.2).l1,Zc (Zd r.2).l2] false))],2⟩
def UJ(a0:List Zf)(r:Zf):St:=
 ⟨[(0,.own 0 a0.length),(4,.own 0 a0.length),(5,.ptr 1 0)],
  [(0,some (.row 28 4 (a0.map Zh) 0)),
   (1,some (.box 28 [.sl 4 (r.1.map Zr),.lit (.bool (Zd r.2).s),Zc (Zd r.2).l1,Zc (Zd r.2).l2] false))],2⟩
def UH(a0:List Zf)(r:Zf):St:=
 ⟨[(0,.own 0 a0.length),(4,.any),(5,.ptr 1 0)],
  [(0,some (.row 28 4 (a0.map Zh) 0)),
   (1,some (.box 28 [.sl 4 (r.1.map Zr),.lit (.bool (Zd r.2).s),Zc (Zd r.2).l1,Zc (Zd r.2).l2] false))],2⟩
section
variable{r:Zf}{q3:Rat}{a0:List Zf}{n:Nat}{F3:List (Int × Rat)}{r4:Bool}{i_5:Nat}{a1:Zf}
section
variable(C1:(i_5:Int)<(a0.length:Int))(G2:i_5<a0.length)(E3:a0[i_5]?=some (F3,q3))(K4:run (n+7) 13 [Ze (F3,q3),Ze r]=some (.lit (.bool r4)))
include C1 G2 E3 K4
theorem Zpj(C5:r4=false)(W6:InI ((i_5:Int)+1)):
  Zm 1 (exec Tryz.prog (tab (n+8)) 1 37 (Za 49) big Xo) (Za 49 5) (Qm a0 i_5 r) (Qm a0 (i_5+1) r):=by
 have C1_:i_5<a0.length:=by omega
 obtain ⟨EL3,EG3⟩:=List.getElem?_eq_some_iff.1 E3
 simp only [Ze] at K4
 have W6_:IntKind.i64.wrap ((i_5:Int)+1)=(i_5:Int)+1:=Zq W6.1 W6.2
 unfold Zm
 simp+decide [Qm,Zb, Tryz.f49,Xo,C1,C1_,EG3,K4,C5,W6_]
theorem Zpg(C5:r4=true):
  Zj 1 (exec Tryz.prog (tab (n+8)) 1 37 (Za 49) big Xo) (Za 49 (Zo 5)) (Qm a0 i_5 r) (.ret) (UJ a0 r):=by
 have C1_:i_5<a0.length:=by omega
 obtain ⟨EL3,EG3⟩:=List.getElem?_eq_some_iff.1 E3
 simp only [Ze] at K4
 unfold Zj
 simp+decide [Qm,Zb, Tryz.f49,UJ,Xo,C1,C1_,EG3,K4,C5]
end
theorem Zqg(C1:¬(i_5:Int)<(a0.length:Int)):
  Zj 1 (exec Tryz.prog (tab (n+8)) 1 37 (Za 49) big Xo) (Za 49 (Zo 5)) (Qm a0 i_5 r) (.exit 0) (UH a0 r):=by
 unfold Zj
 simp+decide [Qm,Zb, Tryz.f49,UH,Xo,C1]
section
variable(K1:run (n+7) 14 [Ze a1]=some (Ze r))
include K1
section
variable(C2:(r.1.length:Int)=0)(B3a:H r.2≤17179869184)
include C2 B3a
theorem ZvM(C4:0≤sgR r.2):
  Zp (n+8) 49 [.own 0 a0.length,Ze a1] [.row 28 4 (a0.map Zh) 0]=some (.own 0 a0.length,[(0,.row 28 4 (a0.map Zh) 0)]):=by
 simp only [Ze] at K1
 have C2_:((r.1.length:Int)==0)=true:=by rw [C2];simp
 have K3:=Yy (p:=r.2) B3a
 unfold Zp fnL
 simp+decide [Tryz.f49,K1,C2_,K3,C4]
theorem ZuA(C4:¬0≤sgR r.2)(L5:Zk Tryz.prog (tab (n+8)) 1 37 (Za 49) 5 Xo (Qm a0 0 r)=some (.ret,UJ a0 r)):
  Zp (n+8) 49 [.own 0 a0.length,Ze a1] [.row 28 4 (a0.map Zh) 0]=some (.own 0 a0.length,[(0,.row 28 4 (a0.map Zh) 0)]):=by
 simp only [Ze] at K1
 have C2_:((r.1.length:Int)==0)=true:=by rw [C2];simp
 have K3:=Yy (p:=r.2) B3a
 unfold Zp fnL
 simp+decide [Tryz.f49,K1,C2_,K3,C4]
 rw [Zi (C':=Xo) (e:=(Qm a0 0 r)) ?_ ?_,L5]
 rotate_left
 ·kernel_rfl
 ·simp+decide [Qm]
 simp+decide [UJ]
theorem ZtW(C4:¬0≤sgR r.2)(L5:Zk Tryz.prog (tab (n+8)) 1 37 (Za 49) 5 Xo (Qm a0 0 r)=some (.exit 0,UH a0 r))(M6:a0.length+1≤100000000):
  Zp (n+8) 49 [.own 0 a0.length,Ze a1] [.row 28 4 (a0.map Zh) 0]=some (.own 3 (a0.length+1),[(3,.row 28 4 ((a0++[r]).map Zh) 0)]):=by
 simp only [Ze] at K1
 have C2_:((r.1.length:Int)==0)=true:=by rw [C2];simp
 have K3:=Yy (p:=r.2) B3a
 have M6_:∀b,b≤10000→ZT (a0.length+1) b=true:=fun b hb=>ZD M6 hb
 unfold Zp fnL
 simp+decide [Tryz.f49,K1,C2_,K3,C4]
 rw [Zi (C':=Xo) (e:=(Qm a0 0 r)) ?_ ?_,L5]
 rotate_left
 ·kernel_rfl
 ·simp+decide [Qm]
 simp+decide [UH,M6_]
end
theorem Zwq(C2:¬(r.1.length:Int)=0)(L3:Zk Tryz.prog (tab (n+8)) 1 37 (Za 49) 5 Xo (Qm a0 0 r)=some (.ret,UJ a0 r)):
  Zp (n+8) 49 [.own 0 a0.length,Ze a1] [.row 28 4 (a0.map Zh) 0]=some (.own 0 a0.length,[(0,.row 28 4 (a0.map Zh) 0)]):=by
 simp only [Ze] at K1
 have C2_:((r.1.length:Int)==0)=false:=by simpa using C2
 unfold Zp fnL
 simp+decide [Tryz.f49,K1,C2_]
 rw [Zi (C':=Xo) (e:=(Qm a0 0 r)) ?_ ?_,L3]
 rotate_left
 ·kernel_rfl
 ·simp+decide [Qm]
 simp+decide [UJ]
theorem Zvl(C2:¬(r.1.length:Int)=0)(L3:Zk Tryz.prog (tab (n+8)) 1 37 (Za 49) 5 Xo (Qm a0 0 r)=some (.exit 0,UH a0 r))(M4:a0.length+1≤100000000):
  Zp (n+8) 49 [.own 0 a0.length,Ze a1] [.row 28 4 (a0.map Zh) 0]=some (.own 3 (a0.length+1),[(3,.row 28 4 ((a0++[r]).map Zh) 0)]):=by
 simp only [Ze] at K1
 have C2_:((r.1.length:Int)==0)=false:=by simpa using C2
 have M4_:∀b,b≤10000→ZT (a0.length+1) b=true:=fun b hb=>ZD M4 hb
 unfold Zp fnL
 simp+decide [Tryz.f49,K1,C2_]
 rw [Zi (C':=Xo) (e:=(Qm a0 0 r)) ?_ ?_,L3]
 rotate_left
 ·kernel_rfl
 ·simp+decide [Qm]
 simp+decide [UH,M4_]
end
end
end
section
open Go.RowKit
theorem ZuY{n:Nat}{a0:Rat}{a1:Raw}{r:List Nat}{r2:List Nat}{r3:List Nat}{r4:List Nat}{r5:Rat}(B1a:RawB a1)(C2:¬sgR a1.q=0)(K3:(o1 fun x=>Zc (unL x.l2)) [.agg [.lit (.bool a1.s),Zc a1.l1,Zc a1.l2]]=some (Zc r))(K4:(oN2 fun x y=>Zc (lmb (val x*val y))) [Zc (Zd a0).l1,Zc r]=some (Zc r2))(K5:(o1 fun x=>Zc (unL x.l2)) [Zn a0]=some (Zc r3))(K6:(oN2 fun x y=>Zc (lmb (val x*val y))) [Zc r3,Zc a1.l1]=some (Zc r4))(K7:(oQt) [.lit (.bool (!(((Zd a0).s)==a1.s))),Zc r2,Zc r4]=some (Zn r5)):
  run (n+6) 36 [Zn a0,.agg [.lit (.bool a1.s),Zc a1.l1,Zc a1.l2]]=some (.tup [Zn r5,.lit (.int .i64 0)]):=by
 have K1:=VE B1a
 have C2_:(sgR a1.q==0)=false:=by simpa using C2
 simp only [Zn] at K5
 simp only [Zn] at K7
 unfold run fnP
 simp+decide [Tryz.f36,K1,C2_,K3,K4,K5,K6,K7]
theorem Zut{n:Nat}{a0:Rat}{a1:Raw}{r:List Nat}{r2:List Nat}{r3:List Nat}{r4:List Nat}{r5:Rat}(B1a:RawB a1)(C2:¬sgR a1.q=0)(K3:(oN1 (fun _=>true) fun x=>Zc (lmb (dn x))) [Zc a1.l2]=some (Zc r))(K4:(oN2 fun x y=>Zc (lmb (val x*val y))) [Zc (Zd a0).l1,Zc r]=some (Zc r2))(K5:(oN1 (fun _=>true) fun x=>Zc (lmb (dn x))) [Zc (Zd a0).l2]=some (Zc r3))(K6:(oN2 fun x y=>Zc (lmb (val x*val y))) [Zc r3,Zc a1.l1]=some (Zc r4))(K7:(oQt) [.lit (.bool (!(((Zd a0).s)==a1.s))),Zc r2,Zc r4]=some (Zn r5)):
  run (n+6) 23 [Zn a0,.agg [.lit (.bool a1.s),Zc a1.l1,Zc a1.l2]]=some (.tup [Zn r5,.lit (.int .i64 0)]):=by
 have K1:=VE B1a
 have C2_:(sgR a1.q==0)=false:=by simpa using C2
 simp only [Zn] at K7
 unfold run fnP
 simp+decide [Tryz.f23,K1,C2_,K3,K4,K5,K6,K7]
end
section
open Go.RowKit
attribute [local irreducible] run Zp Zk exec
theorem ZsP(s1 s2:Bool)(n1 n2 d1 d2:Nat)(hn:n2≠0)(h1:d1≠0)(h2:d2≠0):mkRat (sgi (!(s1==s2)) (n1*d2)) (d1*n2)=mkRat (sgi s1 n1) d1 / mkRat (sgi s2 n2) d2:=by
 have hy:mkRat (sgi s2 n2) d2≠0:=fun h=>by
  rw [Rat.mkRat_eq_zero h2] at h
  have:=Qq s2 n2
  rw [h] at this
  simp at this
  omega
 have key:mkRat (sgi (!(s1==s2)) (n1*d2)) (d1*n2)*mkRat (sgi s2 n2) d2=mkRat (sgi s1 n1) d1:=by
  have e1:sgi (!(s1==s2)) (n1*d2)*sgi s2 n2=sgi s1 n1*((n2*d2:Nat):Int):=by
   unfold sgi
   cases s1 <;>cases s2 <;>simp [Int.natCast_mul,Int.neg_mul,Int.mul_neg] <;>grind
  have e2:d1*n2*d2=d1*(n2*d2):=Nat.mul_assoc _ _ _
  rw [Rat.mkRat_mul_mkRat,e1,e2]
  exact Rat.mkRat_mul_right (Nat.mul_ne_zero hn h2)
 rw [←key]
 rw [Rat.div_def,Rat.mul_assoc,Rat.mul_inv_cancel _ hy,Rat.mul_one]
theorem Zex(l:List Nat):val (unL l)=dn l:=by
 unfold unL dn
 split
 ·rfl
 ·rfl
theorem Zb2{l:List Nat}(h:Lim l):Lim (unL l):=by
 unfold unL
 split
 ·rw [←Q4];exact Yk _
 ·exact h
theorem Zip(l:List Nat):(unL l).length≤l.length+1:=by
 unfold unL
 split <;>simp
theorem X5{l:List Nat}(h:l.length≤68719476736):Xv l=true:=Nat.ble_eq_true_of_le h
theorem ZiR{G:List Nat→Bool}{F:List Nat→AV}{l:List Nat}(h1:Lim l)(hx:Xv l=true)(hg:G l=true):oN1 G F [Zc l]=some (F l):=by
 unfold oN1
 simp only [Y0 h1]
 rw [if_pos (by rw [hx,hg];rfl)]
theorem Zjn{b:Bool}{l m:List Nat}(h1:Lim l)(h2:Lim m)(hx:Xv l=true)(hy:Xv m=true)(h0:0<val m):oQt [.lit (.bool b),Zc l,Zc m]=some (Zn (mkRat (sgi b (val l)) (val m))):=by
 unfold oQt
 simp only [Y0 h1,Y0 h2]
 have h9:Nat.blt 0 (val m)=true:=Nat.ble_eq_true_of_le h0
 rw [if_pos (by rw [hx,hy,h9];rfl)]
 rfl
theorem ZbX{a b:Nat}{k:Nat}(h:(lmb a).length+(lmb b).length≤68719476736):Xv (lmb (a*b))=true:=X5 (Nat.le_trans (Yu a b) h)
theorem ZoX{l:List Nat}(h:Lim l):(lmb (dn l)).length≤l.length+1:=by
 unfold dn
 split
 ·rw [Q4];simp
 ·exact Nat.le_trans (Zl h) (by omega)
theorem Zl4(a:Rat):a=mkRat (sgi (Zd a).s (val (Zd a).l1)) (dn (Zd a).l2):=by
 have h:(Zd a).q=a:=Qx a
 unfold Raw.q sv at h
 exact h.symm
theorem Zjp(a:Rat){c:Raw}(hn:val c.l1≠0):mkRat (sgi (!((Zd a).s==c.s)) (val (Zd a).l1*dn c.l2)) (dn (Zd a).l2*val c.l1)=a / c.q:=by
 rw [ZsP _ _ _ _ _ _ hn (Nat.pos_iff_ne_zero.1 (Yq _)) (Nat.pos_iff_ne_zero.1 (Yq _)),←Zl4]
 rfl
theorem Zos{c:Raw}(h0:c.q≠0):val c.l1≠0:=fun h=>h0 (by unfold Raw.q sv;rw [h,ZgI];simp)
theorem ZuQ{n:Nat}{a:Rat}{c:Raw}(ha:H a≤17179869184)(hR:RawB c)(h0:c.q≠0):
  run (n+6) 36 [Zn a,.agg [.lit (.bool c.s),Zc c.l1,Zc c.l2]]=some (.tup [Zn (a / c.q),.lit (.int .i64 0)]):=by
 have hA:=Zbn ha
 have hn:=Zos h0
 have b1:=hR.bn
 have b2:=hR.bd
 have b3:=hA.bn
 have b4:=hA.bd
 have u1:=Zip c.l2
 have u2:=Zip (Zd a).l2
 have v1:=Zl hA.n
 have v2:=Zl (Zb2 hR.d)
 have v3:=Zl (Zb2 hA.d)
 have v4:=Zl hR.n
 refine ZuY hR (fun h=>h0 (Yi.1 h)) (Ztd hR) (KZ hA.n (Zb2 hR.d) (X5 (by omega)) (X5 (by omega))) (Ztd hA) (KZ (Zb2 hA.d) hR.n (X5 (by omega)) (X5 (by omega))) ?_
 rw [Zjn (Yk _) (Yk _) (ZbX (k:=0) (by omega)) (ZbX (k:=0) (by omega)) (by rw [Zg,Zex];exact Nat.mul_pos (Yq _) (Nat.pos_of_ne_zero hn))]
 rw [Zg,Zg,Zex,Zex,Zjp a hn]
theorem Zmk{n:Nat}{a:Rat}{c:Raw}(ha:H a≤17179869184)(hR:RawB c)(h0:c.q≠0):
  run (n+6) 23 [Zn a,.agg [.lit (.bool c.s),Zc c.l1,Zc c.l2]]=some (.tup [Zn (a / c.q),.lit (.int .i64 0)]):=by
 have hA:=Zbn ha
 have hn:=Zos h0
 have b1:=hR.bn
 have b2:=hR.bd
 have b3:=hA.bn
 have b4:=hA.bd
 have u1:=ZoX hR.d
 have u2:=ZoX hA.d
 have v1:=Zl hA.n
 have v4:=Zl hR.n
 have w1:(lmb (val (lmb (dn c.l2)))).length=(lmb (dn c.l2)).length:=by rw [Zg]
 have w2:(lmb (val (lmb (dn (Zd a).l2)))).length=(lmb (dn (Zd a).l2)).length:=by rw [Zg]
 refine Zut hR (fun h=>h0 (Yi.1 h)) (ZiR hR.d (X5 (by omega)) rfl) (KZ hA.n (Yk _) (X5 (by omega)) (X5 (by omega))) (ZiR hA.d (X5 (by omega)) rfl) (KZ (Yk _) hR.n (X5 (by omega)) (X5 (by omega))) ?_
 rw [Zjn (Yk _) (Yk _) (ZbX (k:=0) (by omega)) (ZbX (k:=0) (by omega)) (by rw [Zg,Zg];exact Nat.mul_pos (Yq _) (Nat.pos_of_ne_zero hn))]
 rw [Zg,Zg,Zg,Zg,Zjp a hn]
end
section
open Go.RowKit
theorem ZcL{n:Nat}{F:List (Int × Rat)}{v:Int}{q k:Rat}(hq:H q≤17179869184)(h0:q≠0)(hF:F.length≤10000000):
  Zp n 112 [.agg [.own 0 F.length,.lit (.bool (Zd k).s),Zc (Zd k).l1,Zc (Zd k).l2],.lit (.int .i64 v),.agg [.lit (.bool (Zd q).s),Zc (Zd q).l1,Zc (Zd q).l2]] [.row 68 4 (F.map Zr) 0]=some (.agg [.own 4 (F++[(v,q)]).length,.lit (.bool (Zd k).s),Zc (Zd k).l1,Zc (Zd k).l2],[(4,.row 68 4 ((F++[(v,q)]).map Zr) 0)]):=by
 unfold Zp fnL
 have hs:=Yy (p:=q) hq
 have hc:=ZaS (p:=q) hq
 have e2:(sgR q==0)=false:=by simpa using fun h=>h0 (Yi.1 h)
 have e3:(sgR q !=0)=true:=by simpa using fun h=>h0 (Yi.1 h)
 have hr:∀b,b≤10000→ZT (F.length+1) b=true:=fun b hb=>ZD (by omega) hb
 simp+decide [Tryz.f112,hs,hc,e2,e3,hr]
theorem Zaa{n:Nat}{F:List (Int × Rat)}{v:Int}{q k:Rat}(hq:H q≤17179869184)(h0:q=0):
  Zp n 112 [.agg [.own 0 F.length,.lit (.bool (Zd k).s),Zc (Zd k).l1,Zc (Zd k).l2],.lit (.int .i64 v),.agg [.lit (.bool (Zd q).s),Zc (Zd q).l1,Zc (Zd q).l2]] [.row 68 4 (F.map Zr) 0]=some (.agg [.own 0 F.length,.lit (.bool (Zd k).s),Zc (Zd k).l1,Zc (Zd k).l2],[(0,.row 68 4 (F.map Zr) 0)]):=by
 unfold Zp fnL
 have hs:=Yy (p:=q) hq
 have e2:(sgR q==0)=true:=by rw [Yi.2 h0];rfl
 have e3:(sgR q !=0)=false:=by rw [Yi.2 h0];rfl
 simp+decide [Tryz.f112,hs,e2,e3]
end
end Go.Proofs.YtdaonnnlgfhlaaaGreatDoor
