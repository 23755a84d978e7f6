import Derived.Test.YtdaonnnlgfhlaaaGreatDoorGF17
import Derived.Test.YtdaonnnlgfhlaaaGreatDoorGF24
import Derived.Test.YtdaonnnlgfhlaaaGreatDoorGF21
import Derived.Test.YtdaonnnlgfhlaaaGreatDoorGF16
import Derived.Test.YtdaonnnlgfhlaaaGreatDoorGF19
set_option linter.all false
set_option maxHeartbeats 6400000
set_option maxRecDepth 100000
namespace Go.Proofs.YtdaonnnlgfhlaaaGreatDoor
section
set_option maxHeartbeats 1600000
open Go.RowKit
attribute [local irreducible] run Zp Zk exec
theorem ZiB{X:List Rat}{k:Nat}:∀{F:List (Int × Rat)},Srt F→InR k F→evS X F=Yd (fun j=>cof F (j:Int)*X.getD j 0) k
 | [],_,_=>by
   rw [evS,ZH (g:=fun _=>0) (fun i _=>by rw [Qg];grind),Wi]
 | t::F,hs,hi=>by
   have ht:=hi t List.mem_cons_self
   have h0:cof F t.1=0:=WX fun u hu e=>by have:=hs.head u hu;omega
   have ih:=ZiB (X:=X) (k:=k) hs.tail (fun u hu=>hi u (List.mem_cons_of_mem _ hu))
   have hc:∀j:Nat,cof (t::F) (j:Int)*X.getD j 0=cof F (j:Int)*X.getD j 0+(if j=t.1.toNat then t.2*X.getD j 0 else 0):=fun j=>by
    by_cases h:j=t.1.toNat
    ·have e:(j:Int)=t.1:=by omega
     rw [if_pos h,Y5 e,e,h0];grind
    ·have e:(j:Int)≠t.1:=by omega
     rw [if_neg h,QH e];grind
   rw [evS,ih,ZH (fun i _=>hc i),QQ,WH (k:=t.1.toNat) (by omega) (fun i _ h=>if_neg h),if_pos rfl]
   grind
theorem KI{X:List Rat}{k:Nat}{f:Zf}(hs:Srt f.1)(hi:InR k f.1):Qo X f=f.2+Yd (fun j=>cof f.1 (j:Int)*X.getD j 0) k:=by
 unfold Qo
 rw [ZiB hs hi]
def oF(l:List ZC)(i u:Nat):Rat:=(((l.getD i ⟨[],0⟩).c.getD u 0:Int):Rat)
def AtT(m:Nat)(R:List Zf)(t:Rat):Prop:=∃X:List Rat,X.length=m+1∧X.getD m 0=t∧Za3 X R
section
variable {m : Nat} {R : List Zf} {l : List ZC}
theorem Zju{f:Zf}{c:List Int}{X:List Rat}{t:Rat}(hs:Srt f.1)(hi:InR (m+1) f.1)(hd:ZmN f (m+1) c)(hX:X.getD m 0=t):∃g:Rat,0<g∧(((c.getD m 0:Int):Rat)*t+((c.getD (m+1) 0:Int):Rat))+Yd (fun j=>((c.getD j 0:Int):Rat)*X.getD j 0) m=g*Qo X f:=by
 obtain ⟨g,hg,hm⟩:=hd.mul
 refine ⟨g,hg,?_⟩
 have e1:∀j,j<m+1→((c.getD j 0:Int):Rat)=g*cof f.1 (j:Int):=fun j hj=>by
  rw [hm j (by omega)]
  unfold cAt
  rw [if_pos hj]
 have e2:((c.getD (m+1) 0:Int):Rat)=g*f.2:=by
  rw [hm (m+1) (Nat.le_refl _)]
  unfold cAt
  rw [if_neg (by omega)]
 have e3:Yd (fun j=>((c.getD j 0:Int):Rat)*X.getD j 0) m=g*Yd (fun j=>cof f.1 (j:Int)*X.getD j 0) m:=by
  rw [←QR]
  exact ZH fun i hi=>by rw [e1 i (by omega)];grind
 rw [KI hs hi,e1 m (by omega),e2,e3]
 show _=g*(f.2+(Yd (fun j=>cof f.1 (j:Int)*X.getD j 0) m+cof f.1 (m:Int)*X.getD m 0))
 rw [hX]
 grind
theorem Zcc{g x:Rat}(hg:0<g):0≤g*x↔0≤x:=by
 constructor
 ·intro h
  false_or_by_contra
  have h1:0 < -x:=by grind
  have:=Rat.mul_pos hg h1
  grind
 ·intro h;exact Rat.mul_nonneg (by grind) h
theorem Zk7(h:∀f∈R,Srt f.1∧InR (m+1) f.1)(hl:l.length=R.length)(hd:∀(i:Nat) (f:Zf) (r:ZC),R[i]?=some f→l[i]?=some r→ZmN f (m+1) r.c)(t:Rat):
  (∃x:Nat→Rat,∀i,i<R.length→0≤(oF l i m*t+oF l i (m+1))+Yd (fun j=>oF l i j*x j) m)↔AtT m R t:=by
 have hr:∀i,i<R.length→∃f r,R[i]?=some f∧l[i]?=some r∧l.getD i ⟨[],0⟩=r:=fun i hi=>⟨R[i],l[i]'(by omega),List.getElem?_eq_getElem hi,List.getElem?_eq_getElem (by omega),by rw [List.getD_eq_getElem?_getD,List.getElem?_eq_getElem (by omega)];rfl⟩
 constructor
 ·rintro ⟨x,hx⟩
  have hml:((List.range m).map x).length=m:=by rw [List.length_map,List.length_range]
  have hlen:((List.range m).map x++[t]).length=m+1:=by rw [List.length_append,hml];rfl
  have hlast:((List.range m).map x++[t]).getD m 0=t:=by
   rw [List.getD_eq_getElem?_getD,List.getElem?_append_right (by omega),hml,Nat.sub_self];rfl
  have hj:∀j,j<m→((List.range m).map x++[t]).getD j 0=x j:=fun j hj=>by
   rw [List.getD_eq_getElem?_getD,List.getElem?_append_left (by omega),List.getElem?_map,List.getElem?_range hj];rfl
  refine ⟨(List.range m).map x++[t],hlen,hlast,fun f hf=>⟨by rw [hlen];exact (h f hf).2,?_⟩⟩
  obtain ⟨i,hi⟩:=List.mem_iff_getElem?.1 hf
  have hil:=(List.getElem?_eq_some_iff.1 hi).1
  obtain ⟨f',r,a1,a2,a3⟩:=hr i hil
  rw [hi] at a1;cases a1
  obtain ⟨g,hg,e⟩:=Zju (h f hf).1 (h f hf).2 (hd i f r hi a2) hlast
  have h2:=hx i hil
  unfold oF at h2
  rw [a3,ZH (g:=fun j=>((r.c.getD j 0:Int):Rat)*((List.range m).map x++[t]).getD j 0) (fun j hj'=>by rw [hj j hj']),e] at h2
  exact (Zcc hg).1 h2
 ·rintro ⟨X,hX,ht,hs⟩
  refine ⟨fun j=>X.getD j 0,fun i hi=>?_⟩
  obtain ⟨f,r,a1,a2,a3⟩:=hr i hi
  have hf:=List.mem_of_getElem? a1
  obtain ⟨g,hg,e⟩:=Zju (h f hf).1 (h f hf).2 (hd i f r a1 a2) ht
  unfold oF
  rw [a3,e]
  exact (Zcc hg).2 (hs f hf).2
end
def cnB(d:List Bool):Nat→Nat
 | 0=>0
 | n+1=>cnB d n+(if d.getD n false=true then 1 else 0)
theorem Zqe(d:List Bool):∀n,cnB d n≤n
 | 0=>Nat.le_refl _
 | n+1=>by
   have:=Zqe d n
   rw [cnB];split <;>omega
theorem Ziy{d:List Bool}:∀{n},cnB d n=n→∀j,j<n→d.getD j false=true
 | 0,_,j,hj=>absurd hj (by omega)
 | n+1,h,j,hj=>by
   have h1:=Zqe d n
   rw [cnB] at h
   split at h
   ·next h2=>
    by_cases e:j=n
    ·subst e;exact h2
    ·exact Ziy (n:=n) (by omega) j (by omega)
   ·omega
theorem ZgR{d:List Bool}:∀{n},(∀j,j<n→d.getD j false=true)→cnB d n=n
 | 0,_=>rfl
 | n+1,h=>by rw [cnB,ZgR (fun j hj=>h j (by omega)),if_pos (h n (by omega))]
theorem ZnC{d:List Bool}{v j:Nat}(hv:v<d.length):(d.set v true).getD j false=if j=v then true else d.getD j false:=by
 rw [List.getD_eq_getElem?_getD,List.getElem?_set,List.getD_eq_getElem?_getD]
 by_cases h:v=j
 ·subst h;simp [hv]
 ·rw [if_neg h,if_neg (fun h2=>h h2.symm)]
theorem ZiE{d:List Bool}{v:Nat}(hv:v<d.length)(h0:d.getD v false=false):∀n,cnB (d.set v true) n=cnB d n+(if v<n then 1 else 0)
 | 0=>by rw [cnB,cnB,if_neg (by omega)]
 | n+1=>by
   rw [cnB,cnB,ZiE hv h0 n,ZnC hv]
   by_cases h:n=v
   ·subst h
    rw [if_pos rfl,h0];simp
   ·rw [if_neg h]
    by_cases h2:v<n
    ·have h3:v<n+1:=by omega
     simp only [h2,h3,if_true];omega
    ·have h3:¬v<n+1:=by omega
     simp only [h2,h3,if_false];omega
theorem ZgY(m:Nat):∀n,cnB (List.replicate m false) n=0
 | 0=>rfl
 | n+1=>by
   rw [cnB,ZgY m n,List.getD_eq_getElem?_getD,List.getElem?_replicate]
   split <;>rfl
theorem Znc{l:List Bool}{i:Nat}(h:i<l.length):l[i]?=some (l.getD i false):=by rw [List.getD_eq_getElem?_getD,List.getElem?_eq_getElem h];rfl
theorem ZAi{i:Nat}(h:i≤62):IntKind.u64.wrap (1*2 ^ min ((i:Int):Int).toNat IntKind.u64.bits)=((2 ^ i:Nat):Int):=by
 have e:IntKind.u64.bits=64:=rfl
 have h2:(2:Nat) ^ i≤2 ^ 62:=Nat.pow_le_pow_right (by omega) h
 rw [e,Int.toNat_natCast,Nat.min_eq_left (by omega),Int.one_mul,show (2:Int) ^ i=((2 ^ i:Nat):Int) by push_cast;rfl]
 obtain ⟨w,hw⟩:∃w:Nat,(2:Nat) ^ i=w:=⟨_,rfl⟩
 rw [hw] at h2 ⊢
 exact wru (by omega) (by omega)
structure Zik (m:Nat) (R:List Zf) (i:Nat) (l:List ZC):Prop where
 len:l.length=i
 row:∀(j:Nat) (f:Zf) (r:ZC),R[j]?=some f→l[j]?=some r→ZmN f (m+1) r.c∧r.from_=((2 ^ j:Nat):Int)
section
variable {n m : Nat} {p : ZK} {R : List Zf}
theorem ZyE(hp:p.Vars=(m:Int))(hm:m≤3)(hR:∀f∈R,f.1.length≤100)(hn:R.length≤62):
  ∃ex t,Zk Tryz.prog (tab (n+4)) 0 115 (Za 29) 8 QM (YJ p R [] 0)=some (ex,t)∧
  ((ex=.exit 0∧∃l,t=XU p l∧Zik m R R.length l)∨(ex=.ret∧∃l,t=Jb p l)):=
 Q0 (O:=tab (n+4)) (P:= Tryz.prog) (m:=0) (N:=115) (lives:=Za 29) (r:=8) (C:=QM) (M:=R.length) (enc:=fun i (l:List ZC)=>YJ p R l i)
  (fun i l=>Zik m R i l) (fun ex t=>(ex=.exit 0∧∃l,t=XU p l∧Zik m R R.length l)∨(ex=.ret∧∃l,t=Jb p l))
  [] ⟨rfl,fun j f r _ h=>by simp at h⟩ (by omega)
  (fun i l hi I=>by
   have hx:R[i]?=some R[i]:=List.getElem?_eq_getElem hi
   obtain ⟨f,hf⟩:∃f,R[i]=f:=⟨_,rfl⟩
   rw [hf] at hx
   have hfl:=hR f (List.mem_of_getElem? hx)
   obtain ⟨F,q⟩:=f
   obtain ⟨c,ok,K,hK⟩:=Zsx (n:=n+1) (vars:=m+1) (f:=(F,q)) (by omega) (by omega)
   have e1:p.Vars+1=((m+1:Nat):Int):=by rw [hp];push_cast;rfl
   rw [←e1] at K
   have hil:=I.len
   cases ok with
   | false=>exact .inr ⟨.ret,_,by simp,ZlZ (by omega) hi hx (by rw [hp];exact ⟨by omega,by omega⟩) K rfl,.inr ⟨rfl,_,rfl⟩⟩
   | true=>
     refine .inl ⟨l++[⟨c,((2 ^ i:Nat):Int)⟩],ZmA (by omega) hi hx (by rw [hp];exact ⟨by omega,by omega⟩) K rfl (ZAi (by omega)) (by omega) ⟨by omega,by omega⟩,by simp [I.len],fun j g r hg hr=>?_⟩
     by_cases hj:j<i
     ·rw [List.getElem?_append_left (by omega)] at hr
      exact I.row j g r hg hr
     ·have hj2:j<(l++[(⟨c,((2 ^ i:Nat):Int)⟩:ZC)]).length:=(List.getElem?_eq_some_iff.1 hr).1
      simp at hj2
      obtain rfl:j=i:=by omega
      rw [List.getElem?_append_right (by omega),hil,Nat.sub_self] at hr
      rw [hx] at hg
      cases hg;cases hr
      exact ⟨hK rfl,rfl⟩)
  (fun l I=>⟨.exit 0,_,by simp,ZnS (by omega),.inl ⟨rfl,l,rfl,I⟩⟩)
def BestI(d:List Bool)(i:Nat)(b:Int):Prop:=(b=-1∧∀v,v<i→d.getD v false=true)∨∃v:Nat,b=(v:Int)∧v<i∧d.getD v false=false
theorem BestI.out{d:List Bool}{b:Int}(h:BestI d m b)(hc:cnB d m<m):∃v:Nat,b=(v:Int)∧v<m∧d.getD v false=false:=by
 rcases h with ⟨_,h⟩|h
 ·have:=ZgR h;omega
 ·exact h
theorem Zu9{l:List ZC}{d:List Bool}(hp:p.Vars=(m:Int))(hm:m≤3)(hd:d.length=m)(hT:∀r∈l,TrB (m+2) r)(hl:l.length≤100000000):
  ∃b fz,Zk Tryz.prog (tab (n+4)) 0 115 (Za 29) 20 ZS (Ys p l d (-1) 0 0)=some (.exit 4,WI p l d b fz)∧BestI d m b:=by
 obtain ⟨b,L,I⟩:=QJ (O:=tab (n+4)) (P:= Tryz.prog) (m:=0) (N:=115) (lives:=Za 29) (r:=20) (C:=ZS) (exN:=.exit 4) (M:=m) (enc:=fun i (b:Int × Nat)=>Ys p l d b.1 i b.2) (out:=fun b=>WI p l d b.1 b.2)
  (fun i b=>BestI d i b.1) (-1,0) (.inl ⟨rfl,fun v hv=>absurd hv (by omega)⟩) (by omega) (by simp)
  (fun i b hi I=>by
   obtain ⟨b,fz⟩:=b
   dsimp only at I
   have hx:=Znc (l:=d) (i:=i) (by omega)
   have W:InI ((i:Int)+1):=⟨by omega,by omega⟩
   cases hdi:d.getD i false with
   | true=>
     rw [hdi] at hx
     refine ⟨(b,fz),Zkf (by rw [hp];omega) (by omega) hx rfl W,?_⟩
     rcases I with ⟨h1,h2⟩|⟨v,h1,h2,h3⟩
     ·refine .inl ⟨h1,fun v hv=>?_⟩
      by_cases e:v=i
      ·subst e;exact hdi
      ·exact h2 v (by omega)
     ·exact .inr ⟨v,h1,by omega,h3⟩
   | false=>
     rw [hdi] at hx
     have new:BestI d (i+1) (i:Int):=.inr ⟨i,rfl,by omega,hdi⟩
     by_cases hb:b<0
     ·exact ⟨((i:Int),fz),ZkH (by rw [hp];omega) (by omega) hx rfl hb W,new⟩
     ·obtain ⟨v,h1,h2,h3⟩:∃v:Nat,b=(v:Int)∧v<i∧d.getD v false=false:=by
       rcases I with ⟨h1,h2⟩|h
       ·omega
       ·exact h
      subst h1
      obtain ⟨z1,K6⟩:=KX (n:=n+3) (v:=i) hT (by omega) hl
      obtain ⟨z2,K7⟩:=KX (n:=n+3) (v:=v) hT (by omega) hl
      by_cases c:(z1:Int)<(z2:Int)
      ·exact ⟨((i:Int),l.length),Zkj (by rw [hp];omega) (by omega) hx rfl hb K6 K7 c W,new⟩
      ·exact ⟨((v:Int),l.length),Zlc (by rw [hp];omega) (by omega) hx rfl hb K6 K7 c W,.inr ⟨v,rfl,by omega,h3⟩⟩)
  (fun b I=>ZjX (by rw [hp];omega))
 exact ⟨b.1,b.2,L,I⟩
theorem ZsQ{l:List ZC}{d:List Bool}{k:Nat}(hp:p.Vars=(m:Int))(hm:m≤3)(hd:d.length=m)(hT:∀r∈l,TrB (m+2) r)(hl:l.length≤100000000):
  ∃b,Zk Tryz.prog (tab (n+4)) 0 115 (Za 29) 20 ZS (ZY p l d k (-1) 0)=some (.exit 4,Y6 p l d k b)∧BestI d m b:=by
 exact QJ (O:=tab (n+4)) (P:= Tryz.prog) (m:=0) (N:=115) (lives:=Za 29) (r:=20) (C:=ZS) (exN:=.exit 4) (M:=m) (enc:=fun i (b:Int)=>ZY p l d k b i) (out:=fun b=>Y6 p l d k b)
  (fun i b=>BestI d i b) (-1) (.inl ⟨rfl,fun v hv=>absurd hv (by omega)⟩) (by omega) (by simp)
  (fun i b hi I=>by
   have hx:=Znc (l:=d) (i:=i) (by omega)
   have W:InI ((i:Int)+1):=⟨by omega,by omega⟩
   cases hdi:d.getD i false with
   | true=>
     rw [hdi] at hx
     refine ⟨b,Zh9 (by rw [hp];omega) (by omega) hx rfl W,?_⟩
     rcases I with ⟨h1,h2⟩|⟨v,h1,h2,h3⟩
     ·refine .inl ⟨h1,fun v hv=>?_⟩
      by_cases e:v=i
      ·subst e;exact hdi
      ·exact h2 v (by omega)
     ·exact .inr ⟨v,h1,by omega,h3⟩
   | false=>
     rw [hdi] at hx
     have new:BestI d (i+1) (i:Int):=.inr ⟨i,rfl,by omega,hdi⟩
     by_cases hb:b<0
     ·exact ⟨(i:Int),Zid (by rw [hp];omega) (by omega) hx rfl hb W,new⟩
     ·obtain ⟨v,h1,h2,h3⟩:∃v:Nat,b=(v:Int)∧v<i∧d.getD v false=false:=by
       rcases I with ⟨h1,h2⟩|h
       ·omega
       ·exact h
      subst h1
      obtain ⟨z1,K6⟩:=KX (n:=n+3) (v:=i) hT (by omega) hl
      obtain ⟨z2,K7⟩:=KX (n:=n+3) (v:=v) hT (by omega) hl
      by_cases c:(z1:Int)<(z2:Int)
      ·exact ⟨(i:Int),Zif (by rw [hp];omega) (by omega) hx rfl hb K6 K7 c W,new⟩
      ·exact ⟨(v:Int),ZhZ (by rw [hp];omega) (by omega) hx rfl hb K6 K7 c W,.inr ⟨v,rfl,by omega,h3⟩⟩)
  (fun b I=>Zhk (by rw [hp];omega))
def Zbj:Nat→Nat
 | 0=>9
 | 1=>90
 | 2=>8190
 | _=>67084290
structure OutI (m M:Nat) (o:Nat→Nat→Rat) (i:Nat) (l:List ZC) (d:List Bool):Prop where
 dl:d.length=m
 T:∀r∈l,TrB (m+2) r
 len:l.length≤Zbj i
 cn:cnB d m=i
 K:∃E:List Nat,E.length=i∧(∀v,v<m→(d.getD v false=true↔v∈E))∧(∀v∈E,v<m)∧Inv M (m+2) o E (l.map kr)
theorem OutI.next{M:Nat}{o:Nat→Nat→Rat}{i v:Nat}{l l':List ZC}{d:List Bool}(I:OutI m M o i l d)(hM:M≤64)(hi:i<m)(hm:m≤3)(hv:v<m)(h0:d.getD v false=false)(hT:∀r∈l',TrB (m+2) r)(hl:l'.length≤l.length+l.length*l.length)(he:Zn1 (m+2) (l.map kr) v (i+1) (l'.map kr)):OutI m M o (i+1) l' (d.set v true):=by
 obtain ⟨E,e1,e2,e3,e4⟩:=I.K
 have hvd:v<d.length:=by rw [I.dl];exact hv
 have hlen:=I.len
 have hsq:l.length*l.length≤Zbj i*Zbj i:=Nat.mul_le_mul hlen hlen
 refine ⟨by rw [List.length_set];exact I.dl,hT,?_,by rw [ZiE hvd h0,I.cn,if_pos hv],v::E,by rw [List.length_cons,e1],fun u hu=>?_,fun u hu=>?_,e4.step hM (by omega) (by rw [e1]) he⟩
 ·match i,hi with
  | 0,_=>simp only [Zbj] at*;omega
  | 1,_=>simp only [Zbj] at*;omega
  | 2,_=>simp only [Zbj] at*;omega
  | i+3,h=>omega
 ·rw [ZnC hvd,List.mem_cons]
  by_cases h:u=v
  ·rw [if_pos h];exact ⟨fun _=>.inl h,fun _=>rfl⟩
  ·rw [if_neg h,e2 u hu];exact ⟨fun h9=>.inr h9,fun h9=>h9.resolve_left h⟩
 ·rcases List.mem_cons.1 hu with h|h
  ·subst h;exact hv
  ·exact e3 u h
def ZoV(p:ZK)(i:Nat)(b:List ZC × List Bool):St:=if i=0 then Z8 p b.1 b.2 else YR p b.1 b.2 (i+1)
theorem Zuy{i:Nat}(h:i≤2):Zbj i≤9000:=by
 match i,h with
 | 0,_=>simp [Zbj]
 | 1,_=>simp [Zbj]
 | 2,_=>simp [Zbj]
theorem ZsK(i:Nat):Zbj i≤100000000:=by
 unfold Zbj;split <;>omega
theorem ZvK{M:Nat}{o:Nat→Nat→Rat}{l0:List ZC}{d0:List Bool}(hp:p.Vars=(m:Int))(hm:m≤3)(hM:M≤64)(I0:OutI m M o 0 l0 d0):
  ∃ex t,Zk Tryz.prog (tab (n+4)) 0 115 (Za 29) 16 ZG (Z8 p l0 d0)=some (ex,t)∧
  ((ex=.exit 2∧∃l d,(t=WK p l∨t=WC p l)∧(m=0→l=l0∧t=WK p l)∧(m≠0→t=WC p l)∧OutI m M o m l d)∨(ex=.ret∧∃l,t=VV p l∨t=Ud p l∨t=V4 p l∨t=VS p l)):=
 Q0 (O:=tab (n+4)) (P:= Tryz.prog) (m:=0) (N:=115) (lives:=Za 29) (r:=16) (C:=ZG) (M:=m) (enc:=fun i b=>ZoV p i b)
  (fun i b=>OutI m M o i b.1 b.2∧(i=0→b.1=l0)) (fun ex t=>(ex=.exit 2∧∃l d,(t=WK p l∨t=WC p l)∧(m=0→l=l0∧t=WK p l)∧(m≠0→t=WC p l)∧OutI m M o m l d)∨(ex=.ret∧∃l,t=VV p l∨t=Ud p l∨t=V4 p l∨t=VS p l))
  (l0,d0) ⟨I0,fun _=>rfl⟩ (by omega)
  (fun i b hi hI=>by
   obtain ⟨l,d⟩:=b
   obtain ⟨I,_⟩:=hI
   dsimp only at I
   have hll:=I.len
   have h9000:=Zuy (i:=i) (by omega)
   by_cases h0:i=0
   ·subst h0
    obtain ⟨b,fz,L2,B⟩:=Zu9 (n:=n) hp hm I.dl I.T (by omega)
    obtain ⟨v,rfl,hv,hdv⟩:=B.out (by rw [I.cn];exact hi)
    obtain ⟨z,K3⟩:=KX (n:=n+3) (v:=v) I.T (by omega) (by omega)
    by_cases c4:(20000:Int)<(z:Int)
    ·exact .inr ⟨.ret,_,by simp,Zk2 (by rw [hp];omega) L2 K3 c4,.inr ⟨rfl,_,.inl rfl⟩⟩
    ·obtain ⟨l',ok,K5,h5⟩:=ZgW (n:=n+1) (v:=v) (k:=1) I.T (by omega) (by omega) (by omega) (by omega)
     cases ok with
     | false=>exact .inr ⟨.ret,_,by simp,ZkM (by rw [hp];omega) L2 K3 c4 K5 rfl,.inr ⟨rfl,_,.inr (.inl rfl)⟩⟩
     | true=>
       obtain ⟨a1,a2,a3⟩:=h5 rfl
       have R:=Zlo (n:=n) (out_16:=d) (by rw [hp];omega) L2 K3 c4 K5 rfl (by rw [Int.toNat_natCast,I.dl];exact hv) (by omega)
       rw [Int.toNat_natCast] at R
       exact .inl ⟨(l',d.set v true),R,I.next hM hi hm hv hdv a1 a2 a3,fun h=>by omega⟩
   ·obtain ⟨b,L2,B⟩:=ZsQ (n:=n) (k:=i+1) hp hm I.dl I.T (by omega)
    obtain ⟨v,rfl,hv,hdv⟩:=B.out (by rw [I.cn];exact hi)
    obtain ⟨z,K3⟩:=KX (n:=n+3) (v:=v) I.T (by omega) (by omega)
    have e1:ZoV p i (l,d)=YR p l d (i+1):=if_neg h0
    have e2:∀b,ZoV p (i+1) b=YR p b.1 b.2 (i+1+1):=fun b=>if_neg (by omega)
    by_cases c4:(20000:Int)<(z:Int)
    ·exact .inr ⟨.ret,_,by simp,by rw [e1];exact ZhF (by rw [hp];omega) L2 K3 c4,.inr ⟨rfl,_,.inr (.inr (.inl rfl))⟩⟩
    ·obtain ⟨l',ok,K5,h5⟩:=ZgW (n:=n+1) (v:=v) (k:=i+1) I.T (by omega) (by omega) (by omega) (by omega)
     cases ok with
     | false=>exact .inr ⟨.ret,_,by simp,by rw [e1];exact ZhO (by rw [hp];omega) L2 K3 c4 K5 rfl,.inr ⟨rfl,_,.inr (.inr (.inr rfl))⟩⟩
     | true=>
       obtain ⟨a1,a2,a3⟩:=h5 rfl
       have R:=Zhl (n:=n) (i_16b:=i+1) (out_16b:=d) (by rw [hp];omega) L2 K3 c4 K5 rfl (by rw [Int.toNat_natCast,I.dl];exact hv) (by omega) ⟨by omega,by omega⟩
       rw [Int.toNat_natCast] at R
       exact .inl ⟨(l',d.set v true),by rw [e1,e2];exact R,I.next hM hi hm hv hdv a1 a2 a3,fun h=>by omega⟩)
  (fun b hI=>by
   obtain ⟨l,d⟩:=b
   obtain ⟨I,h0⟩:=hI
   dsimp only at I h0
   by_cases hm0:m=0
   ·have e1:ZoV p m (l,d)=Z8 p l d:=if_pos hm0
    exact ⟨.exit 2,_,by simp,by rw [e1];exact ZkK (by rw [hp];omega),.inl ⟨rfl,l,d,.inl rfl,fun _=>⟨h0 hm0,rfl⟩,fun h=>absurd hm0 h,I⟩⟩
   ·have e1:ZoV p m (l,d)=YR p l d (m+1):=if_neg hm0
    exact ⟨.exit 2,_,by simp,by rw [e1];exact Zii (by rw [hp];omega),.inl ⟨rfl,l,d,.inr rfl,fun h=>absurd h hm0,fun _=>rfl,I⟩⟩)
theorem ZsO{f:Zf}{Q:List Zf}(hm:m≤3)(hQ:∀g∈Q,FB 2 g∧InR m g.1)(hn:Q.length≤7)(hf:FB 2 f)(hi:InR m f.1):
  ∃(s:Int) (z:Rat),run (n+4) 29 [XO ⟨(m:Int),Q,f⟩]=some (.tup [.lit (.int .i64 s),Zn z])∧(s=0∨MinG (AtT m (UG m f Q)) s z)∧(s≠1→z=0)∧H z≤2:=by
 obtain ⟨p,hpe⟩:∃p:ZK,p=⟨(m:Int),Q,f⟩:=⟨_,rfl⟩
 have hp:p.Vars=(m:Int):=by rw [hpe]
 have hpR:p.Rows=Q:=by rw [hpe]
 have hpO:p.Objective=f:=by rw [hpe]
 rw [←hpe]
 have H0:H 0≤2:=by decide+kernel
 have K1:run (n+3) 62 [.lit (.int .i64 p.Vars)]=some (Ze (Zaq (m:Int))):=by rw [hp];exact ZAJ _
 obtain ⟨K20,K4⟩:=ZxS (n:=n) hf hi (by omega)
 have K2:run (n+3) 61 [Ze (Zaq (m:Int)),Ze p.Objective]=some (Ze (VC m f)):=by rw [hpO];exact K20
 have hT:=ZuG hf hi (by omega) hQ
 have e7:[VC m f,Zbv m f]++p.Rows=UG m f Q:=by rw [hpR];rfl
 have M5:p.Rows.length+2≤100000000:=by rw [hpR];omega
 have C6:¬(62:Int)<((p.Rows.length:Int)+2):=by rw [hpR];omega
 have hlen:(UG m f Q).length=Q.length+2:=by unfold UG;simp
 obtain ⟨ex,t,L8,h8⟩:=ZyE (n:=n) (m:=m) (p:=p) (R:=UG m f Q) hp hm (fun g hg=>(hT g hg).1.l) (by omega)
 rcases h8 with ⟨rfl,l0,rfl,S⟩|⟨rfl,l0,rfl⟩
 ·have hrow:∀r∈l0,∃j g,(UG m f Q)[j]?=some g∧l0[j]?=some r∧ZmN g (m+1) r.c∧r.from_=((2 ^ j:Nat):Int)∧j<(UG m f Q).length:=fun r hr=>by
   obtain ⟨j,hj⟩:=List.mem_iff_getElem?.1 hr
   have hjl:=(List.getElem?_eq_some_iff.1 hj).1
   rw [S.len] at hjl
   have hg:(UG m f Q)[j]?=some (UG m f Q)[j]:=List.getElem?_eq_getElem hjl
   obtain ⟨a,b⟩:=S.row j _ r hg hj
   exact ⟨j,_,hg,hj,a,b,hjl⟩
  have hT0:∀r∈l0,TrB (m+2) r:=fun r hr=>by
   obtain ⟨j,g,a1,a2,a3,a4,a5⟩:=hrow r hr
   have h2:(2:Nat) ^ j≤2 ^ 9:=Nat.pow_le_pow_right (by omega) (by omega)
   obtain ⟨w,hw⟩:∃w:Nat,(2:Nat) ^ j=w:=⟨_,rfl⟩
   rw [hw] at h2 a4
   exact ⟨by rw [a3.len],a3.bd,by rw [a4];omega,by rw [a4];omega⟩
  have hl0:l0.length=(UG m f Q).length:=S.len
  have hInv:Inv (UG m f Q).length (m+2) (oF l0) [] (l0.map kr):=Inv.start
   (fun r hr=>by
    obtain ⟨s,hs,rfl⟩:=List.mem_map.1 hr
    obtain ⟨j,g,a1,a2,a3,a4,a5⟩:=hrow s hs
    refine ⟨j,a5,by show s.from_.toNat=_;rw [a4];exact Int.toNat_natCast _,fun u hu=>?_⟩
    have e:l0.getD j ⟨[],0⟩=s:=by rw [List.getD_eq_getElem?_getD,a2];rfl
    show ((s.c.getD u 0:Int):Rat)=oF l0 j u
    unfold oF
    rw [e])
   (fun i hi=>by
    have hx:l0[i]?=some (l0[i]'(by omega)):=List.getElem?_eq_getElem (by omega)
    obtain ⟨_,b⟩:=S.row i _ _ (List.getElem?_eq_getElem hi) hx
    exact ⟨kr _,List.mem_map_of_mem (List.mem_of_getElem? hx),by show (l0[i]'(by omega)).from_.toNat=_;rw [b];exact Int.toNat_natCast _⟩)
  have I0:OutI m (UG m f Q).length (oF l0) 0 l0 (List.replicate p.Vars.toNat false):=by
   rw [hp,Int.toNat_natCast]
   exact ⟨List.length_replicate,hT0,by rw [hl0,hlen];simp only [Zbj];omega,ZgY m m,[],rfl,fun v hv=>by rw [List.getD_eq_getElem?_getD,List.getElem?_replicate,if_pos hv];simp,(fun v hv=>by cases hv),hInv⟩
  have M8:p.Vars.toNat≤100000000:=by rw [hp];omega
  have C9:0≤p.Vars:=by rw [hp];omega
  obtain ⟨ex,t,L16,h16⟩:=ZvK (n:=n) hp hm (by omega) I0
  rw [←e7] at L8
  have fin:∀(l:List ZC) (d:List Bool),OutI m (UG m f Q).length (oF l0) m l d→∃(s:Int) (z:Rat),run (n+3) 66 [.sl 2 (l.map Ye),.lit (.int .i64 p.Vars)]=some (.tup [.lit (.int .i64 s),Zn z])∧MinG (AtT m (UG m f Q)) s z∧(s≠1→z=0)∧H z≤2:=fun l d I=>by
   obtain ⟨s,z,K,G,h1,h2⟩:=ZvP (n:=n+3) (m:=m) I.T (by have:=I.len;have:=ZsK m;omega) (by omega)
   rw [←hp] at K
   refine ⟨s,z,K,G.congr fun t=>?_,h1,h2⟩
   obtain ⟨E,e1,e2,e3,e4⟩:=I.K
   rw [←Zk7 (fun g hg=>⟨(hT g hg).1.s,(hT g hg).2⟩) hl0 (fun i g r a b=>(S.row i g r a b).1) t,←e4.project (fun j hj=>(e2 j hj).1 (Ziy I.cn j hj)) e3 t]
   constructor
   ·intro h r hr
    obtain ⟨s,hs,rfl⟩:=List.mem_map.1 hr
    exact h _ (List.mem_map_of_mem hs)
   ·intro h r hr
    obtain ⟨s,hs,rfl⟩:=List.mem_map.1 hr
    exact h _ (List.mem_map_of_mem hs)
  have K4':=K4
  rcases h16 with ⟨rfl,l,d,_,hc1,hc2,I⟩|⟨rfl,l,hc⟩
  ·obtain ⟨s,z,K,G,h1,h2⟩:=fin l d I
   by_cases hm0:m=0
   ·obtain ⟨rfl,rfl⟩:=hc1 hm0
    exact ⟨s,z,Zv7 K1 K2 K4 M5 C6 L8 M8 C9 L16 K,.inr G,h1,h2⟩
   ·obtain rfl:=hc2 hm0
    exact ⟨s,z,Zwl K1 K2 K4 M5 C6 L8 M8 C9 L16 K,.inr G,h1,h2⟩
  ·refine ⟨0,0,?_,.inl rfl,fun _=>rfl,H0⟩
   rw [Zgo]
   rcases hc with rfl|rfl|rfl|rfl
   ·exact Zwj K1 K2 K4 M5 C6 L8 M8 C9 L16
   ·exact ZuU K1 K2 K4 M5 C6 L8 M8 C9 L16
   ·exact Zu6 K1 K2 K4 M5 C6 L8 M8 C9 L16
   ·exact ZuL K1 K2 K4 M5 C6 L8 M8 C9 L16
 ·rw [←e7] at L8
  exact ⟨0,0,by rw [Zgo];exact ZuO K1 K2 K4 M5 C6 L8,.inl rfl,fun _=>rfl,H0⟩
end
end
section
open Go.RowKit
noncomputable def Vv:Code:=(Zb (ZO Tryz.f44)).getD 0 .skip
def X5(a0:List Zf)(a1:Int)(i_2:Nat):St:=
 ⟨[(1,.lit (.int .i64 a1)),(7,.sl 4 (a0.map Zh)),(8,.lit (.int .i64 (a0.length:Int))),(9,.lit (.int .i64 (i_2:Int)))],
  [],0⟩
def Zaf:St:=
 ⟨[(4,.lit (.bool false))],
  [],0⟩
def JU:St:=
 ⟨[(4,.any)],
  [],0⟩
section
variable{n:Nat}{a0:List Zf}{i_2:Nat}{r3:Bool}{F3:List (Int × Rat)}{q3:Rat}{a1:Int}
section
variable(C1:(i_2:Int)<(a0.length:Int))(E2:a0[i_2]?=some (F3,q3))(K3:run n 67 [Ze (F3,q3),.lit (.int .i64 a1)]=some (.lit (.bool r3)))
include C1 E2 K3
theorem Zot(C4:r3=true)(W5:InI ((i_2:Int)+1)):
  Zm 0 (exec Tryz.prog (tab (n+1)) 0 18 (Za 44) big Vv) (Za 44 2) (X5 a0 a1 i_2) (X5 a0 a1 (i_2+1)):=by
 have C1_:i_2<a0.length:=by omega
 obtain ⟨EL2,EG2⟩:=List.getElem?_eq_some_iff.1 E2
 simp only [Ze] at K3
 have W5_:IntKind.i64.wrap ((i_2:Int)+1)=(i_2:Int)+1:=Zq W5.1 W5.2
 unfold Zm
 simp+decide [X5,Zb, Tryz.f44,Vv,C1,C1_,EG2,K3,C4,W5_]
theorem Znt(C4:r3=false):
  Zj 0 (exec Tryz.prog (tab (n+1)) 0 18 (Za 44) big Vv) (Za 44 (Zo 2)) (X5 a0 a1 i_2) (.ret) (Zaf):=by
 have C1_:i_2<a0.length:=by omega
 obtain ⟨EL2,EG2⟩:=List.getElem?_eq_some_iff.1 E2
 simp only [Ze] at K3
 unfold Zj
 simp+decide [X5,Zb, Tryz.f44,Zaf,Vv,C1,C1_,EG2,K3,C4]
end
theorem Zme(C1:¬(i_2:Int)<(a0.length:Int)):
  Zj 0 (exec Tryz.prog (tab (n+1)) 0 18 (Za 44) big Vv) (Za 44 (Zo 2)) (X5 a0 a1 i_2) (.exit 0) (JU):=by
 unfold Zj
 simp+decide [X5,Zb, Tryz.f44,JU,Vv,C1]
theorem Zww(L1:Zk Tryz.prog (tab (n+1)) 0 18 (Za 44) 2 Vv (X5 a0 a1 0)=some (.ret,Zaf)):
  run (n+1) 44 [.sl 4 (a0.map Zh),.lit (.int .i64 a1)]=some (.lit (.bool false)):=by
 unfold run fnP
 simp+decide [Tryz.f44]
 rw [Zi (C':=Vv) (e:=(X5 a0 a1 0)) ?_ ?_,L1]
 rotate_left
 ·kernel_rfl
 ·simp+decide [X5]
 simp+decide [Zaf]
theorem Zu8(L1:Zk Tryz.prog (tab (n+1)) 0 18 (Za 44) 2 Vv (X5 a0 a1 0)=some (.exit 0,JU)):
  run (n+1) 44 [.sl 4 (a0.map Zh),.lit (.int .i64 a1)]=some (.lit (.bool true)):=by
 unfold run fnP
 simp+decide [Tryz.f44]
 rw [Zi (C':=Vv) (e:=(X5 a0 a1 0)) ?_ ?_,L1]
 rotate_left
 ·kernel_rfl
 ·simp+decide [X5]
 simp+decide [JU]
end
noncomputable def X6:Code:=(Zb (ZO Tryz.f17)).getD 0 .skip
noncomputable def Xk:Code:=(Zb (ZO Tryz.f17)).getD 1 .skip
noncomputable def Ww:Code:=(Zb Xk).getD 0 .skip
def Qq(a0:List Zf)(a1:Int)(out_6:List Zf)(out2_6:List Zf)(i_6:Nat)(out3_6:List Zf)(mp_6:List (ByteArray × Value)):St:=
 ⟨[(1,.lit (.int .i64 a1)),(6,.ptr 0 0),(7,.own 3 out_6.length),(8,.own 4 out2_6.length),(27,.sl 4 (a0.map Zh)),(28,.lit (.int .i64 (a0.length:Int))),(29,.lit (.int .i64 (i_6:Int)))],
  [(0,some (.box 78 [.own 1 out3_6.length,.mp 2] false)),
   (1,some (.row 28 4 (out3_6.map Zh) 0)),
   (2,some (.mp mp_6)),
   (3,some (.row 28 4 (out_6.map Zh) 0)),
   (4,some (.row 28 4 (out2_6.map Zh) 0))],5⟩
def QW(a1:Int)(out2_6:List Zf)(out_6:List Zf)(i_16:Nat)(i_20:Nat)(out_20:List Zf)(mp_20:List (ByteArray × Value))(F12:List (Int × Rat))(q12:Rat)(r31:Rat):St:=
 ⟨[(1,.lit (.int .i64 a1)),(6,.ptr 0 0),(8,.own 3 out2_6.length),(12,.ptr 4 0),(13,.ptr 5 0),(53,.own 6 out_6.length),(54,.lit (.int .i64 (out_6.length:Int))),(55,.lit (.int .i64 (i_16:Int))),(62,.own 3 out2_6.length),(63,.lit (.int .i64 (out2_6.length:Int))),(64,.lit (.int .i64 (i_20:Int)))],
  [(0,some (.box 78 [.own 1 out_20.length,.mp 2] false)),
   (1,some (.row 28 4 (out_20.map Zh) 0)),
   (2,some (.mp mp_20)),
   (3,some (.row 28 4 (out2_6.map Zh) 0)),
   (4,some (.box 28 [.sl 4 (F12.map Zr),.lit (.bool (Zd q12).s),Zc (Zd q12).l1,Zc (Zd q12).l2] false)),
   (5,some (.box 26 [.lit (.bool (Zd r31).s),Zc (Zd r31).l1,Zc (Zd r31).l2] false)),
   (6,some (.row 28 4 (out_6.map Zh) 0))],7⟩
def Wx(a1:Int)(out2_6:List Zf)(out_6:List Zf)(i_16:Nat)(out_16:List Zf)(mp_16:List (ByteArray × Value)):St:=
 ⟨[(1,.lit (.int .i64 a1)),(6,.ptr 0 0),(8,.own 3 out2_6.length),(53,.own 4 out_6.length),(54,.lit (.int .i64 (out_6.length:Int))),(55,.lit (.int .i64 (i_16:Int)))],
  [(0,some (.box 78 [.own 1 out_16.length,.mp 2] false)),
   (1,some (.row 28 4 (out_16.map Zh) 0)),
   (2,some (.mp mp_16)),
   (3,some (.row 28 4 (out2_6.map Zh) 0)),
   (4,some (.row 28 4 (out_6.map Zh) 0))],5⟩
def KQ(a1:Int)(out_6:List Zf)(out2_6:List Zf)(out3_6:List Zf)(mp_6:List (ByteArray × Value)):St:=
 ⟨[(1,.lit (.int .i64 a1)),(6,.ptr 0 0),(7,.own 3 out_6.length),(8,.own 4 out2_6.length)],
  [(0,some (.box 78 [.own 1 out3_6.length,.mp 2] false)),
   (1,some (.row 28 4 (out3_6.map Zh) 0)),
   (2,some (.mp mp_6)),
   (3,some (.row 28 4 (out_6.map Zh) 0)),
   (4,some (.row 28 4 (out2_6.map Zh) 0))],5⟩
def VT(a1:Int)(out2_6:List Zf)(out_6:List Zf)(i_16:Nat)(out_20:List Zf)(mp_20:List (ByteArray × Value)):St:=
 ⟨[(1,.lit (.int .i64 a1)),(6,.ptr 0 0),(8,.own 3 out2_6.length),(53,.own 4 out_6.length),(54,.lit (.int .i64 (out_6.length:Int))),(55,.lit (.int .i64 (i_16:Int)))],
  [(0,some (.box 78 [.own 1 out_20.length,.mp 2] false)),
   (1,some (.row 28 4 (out_20.map Zh) 0)),
   (2,some (.mp mp_20)),
   (3,some (.row 28 4 (out2_6.map Zh) 0)),
   (4,some (.row 28 4 (out_6.map Zh) 0))],5⟩
def VZ(out_16:List Zf)(mp_16:List (ByteArray × Value)):St:=
 ⟨[(6,.ptr 0 0)],
  [(0,some (.box 78 [.own 1 out_16.length,.mp 2] false)),
   (1,some (.row 28 4 (out_16.map Zh) 0)),
   (2,some (.mp mp_16))],3⟩
section
variable{out3_6:List Zf}{i_6:Nat}{n:Nat}{mp_6:List (ByteArray × Value)}{out2_6:List Zf}{r4:Rat}{a0:List Zf}{out_6:List Zf}{F3:List (Int × Rat)}{q3:Rat}{a1:Int}{mR3:List (ByteArray × Value)}{R3:List Zf}{r31:Rat}{F15:List (Int × Rat)}{q12:Rat}{r41:Zf}{r42:Zf}{mp_20:List (ByteArray × Value)}{q15:Rat}{r43:Zf}{out_20:List Zf}{i_16:Nat}{r40:Rat}{i_20:Nat}{F12:List (Int × Rat)}{mR12:List (ByteArray × Value)}{R12:List Zf}{out_16:List Zf}{mp_16:List (ByteArray × Value)}{r:Bool}
section
variable(C1:(i_6:Int)<(a0.length:Int))(E2:a0[i_6]?=some (F3,q3))(K3:run (n+8) 45 [Ze (F3,q3),.lit (.int .i64 a1)]=some (Zn r4))(B4a:H r4≤17179869184)
include C1 E2 K3 B4a
theorem ZpT(C5:sgR r4=0)(K6:Zp (n+8) 46 [.ptr 0 0,Ze (F3,q3)] [.box 78 [.own 1 out3_6.length,.mp 2] false,.row 28 4 (out3_6.map Zh) 0,.mp mp_6]=some (.tup [],[(0,.box 78 [.own 1 out3_6.length,.mp 2] false),(1,.row 28 4 (out3_6.map Zh) 0),(2,.mp mp_6)]))(W7:InI ((i_6:Int)+1)):
  Zm 0 (exec Tryz.prog (tab (n+9)) 0 93 (Za 17) big X6) (Za 17 6) (Qq a0 a1 out_6 out2_6 i_6 out3_6 mp_6) (Qq a0 a1 out_6 out2_6 (i_6+1) out3_6 mp_6):=by
 have C1_:i_6<a0.length:=by omega
 obtain ⟨EL2,EG2⟩:=List.getElem?_eq_some_iff.1 E2
 simp only [Zn,Ze] at K3
 have K4:=Yz (p:=r4) B4a
 have C5_:(sgR r4==0)=true:=by rw [C5];simp
 simp only [Ze] at K6
 have W7_:IntKind.i64.wrap ((i_6:Int)+1)=(i_6:Int)+1:=Zq W7.1 W7.2
 unfold Zm
 simp+decide [Qq,Zb, Tryz.f17,X6,C1,C1_,EG2,K3,K4,C5_,K6,W7_]
theorem Zmf(C5:sgR r4=0)(K6:Zp (n+8) 46 [.ptr 0 0,Ze (F3,q3)] [.box 78 [.own 1 out3_6.length,.mp 2] false,.row 28 4 (out3_6.map Zh) 0,.mp mp_6]=some (.tup [],[(0,.box 78 [.own 6 R3.length,.mp 2] false),(2,.mp mR3),(6,.row 28 4 (R3.map Zh) 0)]))(W7:InI ((i_6:Int)+1)):
  Zm 0 (exec Tryz.prog (tab (n+9)) 0 93 (Za 17) big X6) (Za 17 6) (Qq a0 a1 out_6 out2_6 i_6 out3_6 mp_6) (Qq a0 a1 out_6 out2_6 (i_6+1) R3 mR3):=by
 have C1_:i_6<a0.length:=by omega
 obtain ⟨EL2,EG2⟩:=List.getElem?_eq_some_iff.1 E2
 simp only [Zn,Ze] at K3
 have K4:=Yz (p:=r4) B4a
 have C5_:(sgR r4==0)=true:=by rw [C5];simp
 simp only [Ze] at K6
 have W7_:IntKind.i64.wrap ((i_6:Int)+1)=(i_6:Int)+1:=Zq W7.1 W7.2
 unfold Zm
 simp+decide [Qq,Zb, Tryz.f17,X6,C1,C1_,EG2,K3,K4,C5_,K6,W7_]
theorem Zoa(C5:¬sgR r4=0)(C6:sgR r4=1)(M7:out_6.length+1≤100000000)(W8:InI ((i_6:Int)+1)):
  Zm 0 (exec Tryz.prog (tab (n+9)) 0 93 (Za 17) big X6) (Za 17 6) (Qq a0 a1 out_6 out2_6 i_6 out3_6 mp_6) (Qq a0 a1 (out_6++[(F3,q3)]) out2_6 (i_6+1) out3_6 mp_6):=by
 have C1_:i_6<a0.length:=by omega
 obtain ⟨EL2,EG2⟩:=List.getElem?_eq_some_iff.1 E2
 simp only [Zn,Ze] at K3
 have K4:=Yz (p:=r4) B4a
 have C5_:(sgR r4==0)=false:=by simpa using C5
 have C6_:(sgR r4==1)=true:=by rw [C6];simp
 have M7_:∀b,b≤10000→ZU (out_6.length+1) b=true:=fun b hb=>ZD M7 hb
 have W8_:IntKind.i64.wrap ((i_6:Int)+1)=(i_6:Int)+1:=Zq W8.1 W8.2
 unfold Zm
 simp+decide [Qq,Zb, Tryz.f17,X6,C1,C1_,EG2,K3,K4,C5_,C6_,M7_,W8_]
theorem ZnN(C5:¬sgR r4=0)(C6:¬sgR r4=1)(M7:out2_6.length+1≤100000000)(W8:InI ((i_6:Int)+1)):
  Zm 0 (exec Tryz.prog (tab (n+9)) 0 93 (Za 17) big X6) (Za 17 6) (Qq a0 a1 out_6 out2_6 i_6 out3_6 mp_6) (Qq a0 a1 out_6 (out2_6++[(F3,q3)]) (i_6+1) out3_6 mp_6):=by
 have C1_:i_6<a0.length:=by omega
 obtain ⟨EL2,EG2⟩:=List.getElem?_eq_some_iff.1 E2
 simp only [Zn,Ze] at K3
 have K4:=Yz (p:=r4) B4a
 have C5_:(sgR r4==0)=false:=by simpa using C5
 have C6_:(sgR r4==1)=false:=by simpa using C6
 have M7_:∀b,b≤10000→ZU (out2_6.length+1) b=true:=fun b hb=>ZD M7 hb
 have W8_:IntKind.i64.wrap ((i_6:Int)+1)=(i_6:Int)+1:=Zq W8.1 W8.2
 unfold Zm
 simp+decide [Qq,Zb, Tryz.f17,X6,C1,C1_,EG2,K3,K4,C5_,C6_,M7_,W8_]
end
theorem ZpB(C1:¬(i_6:Int)<(a0.length:Int)):
  Zj 0 (exec Tryz.prog (tab (n+9)) 0 93 (Za 17) big X6) (Za 17 (Zo 6)) (Qq a0 a1 out_6 out2_6 i_6 out3_6 mp_6) (.exit 0) (KQ a1 out_6 out2_6 out3_6 mp_6):=by
 unfold Zj
 simp+decide [Qq,Zb, Tryz.f17,KQ,X6,C1]
section
variable(C1:(i_20:Int)<(out2_6.length:Int))(G2:i_20<out2_6.length)(E3:out2_6[i_20]?=some (F15,q15))(K4:run (n+8) 45 [Ze (F15,q15),.lit (.int .i64 a1)]=some (Zn r40))(B5a:H r40≤17179869184)(K6:run (n+8) 37 [Ze (F12,q12),Zn (-r40)]=some (Ze r41))(K7:run (n+8) 37 [Ze (F15,q15),Zn r31]=some (Ze r42))(K8:run (n+8) 48 [Ze r41,Ze r42]=some (Ze r43))
include C1 G2 E3 K4 B5a K6 K7 K8
theorem ZjY(K9:Zp (n+8) 46 [.ptr 0 0,Ze r43] [.box 78 [.own 1 out_20.length,.mp 2] false,.row 28 4 (out_20.map Zh) 0,.mp mp_20]=some (.tup [],[(0,.box 78 [.own 1 out_20.length,.mp 2] false),(1,.row 28 4 (out_20.map Zh) 0),(2,.mp mp_20)]))(W10:InI ((i_20:Int)+1)):
  Zm 0 (exec Tryz.prog (tab (n+9)) 0 93 (Za 17) big Ww) (Za 17 20) (QW a1 out2_6 out_6 i_16 i_20 out_20 mp_20 F12 q12 r31) (QW a1 out2_6 out_6 i_16 (i_20+1) out_20 mp_20 F12 q12 r31):=by
 have C1_:i_20<out2_6.length:=by omega
 obtain ⟨EL3,EG3⟩:=List.getElem?_eq_some_iff.1 E3
 simp only [Zn,Ze] at K4
 have K5:=ZfD (p:=r40) B5a
 simp only [Zn,Ze] at K6
 simp only [Zn,Ze] at K7
 simp only [Ze] at K8
 simp only [Ze] at K9
 have W10_:IntKind.i64.wrap ((i_20:Int)+1)=(i_20:Int)+1:=Zq W10.1 W10.2
 unfold Zm
 simp+decide [QW,Zb, Tryz.f17,Xk,Ww,C1,C1_,EG3,K4,K5,K6,K7,K8,K9,W10_]
theorem ZkJ(K9:Zp (n+8) 46 [.ptr 0 0,Ze r43] [.box 78 [.own 1 out_20.length,.mp 2] false,.row 28 4 (out_20.map Zh) 0,.mp mp_20]=some (.tup [],[(0,.box 78 [.own 6 R12.length,.mp 2] false),(2,.mp mR12),(6,.row 28 4 (R12.map Zh) 0)]))(W10:InI ((i_20:Int)+1)):
  Zm 0 (exec Tryz.prog (tab (n+9)) 0 93 (Za 17) big Ww) (Za 17 20) (QW a1 out2_6 out_6 i_16 i_20 out_20 mp_20 F12 q12 r31) (QW a1 out2_6 out_6 i_16 (i_20+1) R12 mR12 F12 q12 r31):=by
 have C1_:i_20<out2_6.length:=by omega
 obtain ⟨EL3,EG3⟩:=List.getElem?_eq_some_iff.1 E3
 simp only [Zn,Ze] at K4
 have K5:=ZfD (p:=r40) B5a
 simp only [Zn,Ze] at K6
 simp only [Zn,Ze] at K7
 simp only [Ze] at K8
 simp only [Ze] at K9
 have W10_:IntKind.i64.wrap ((i_20:Int)+1)=(i_20:Int)+1:=Zq W10.1 W10.2
 unfold Zm
 simp+decide [QW,Zb, Tryz.f17,Xk,Ww,C1,C1_,EG3,K4,K5,K6,K7,K8,K9,W10_]
end
theorem Zk4(C1:¬(i_20:Int)<(out2_6.length:Int)):
  Zj 0 (exec Tryz.prog (tab (n+9)) 0 93 (Za 17) big Ww) (Za 17 (Zo 20)) (QW a1 out2_6 out_6 i_16 i_20 out_20 mp_20 F12 q12 r31) (.exit 5) (VT a1 out2_6 out_6 i_16 out_20 mp_20):=by
 unfold Zj
 simp+decide [QW,Zb, Tryz.f17,VT,Xk,Ww,C1]
theorem ZkV(C1:(i_16:Int)<(out_6.length:Int))(G2:i_16<out_6.length)(E3:out_6[i_16]?=some (F12,q12))(K4:run (n+8) 45 [Ze (F12,q12),.lit (.int .i64 a1)]=some (Zn r31))(L5:Zk Tryz.prog (tab (n+9)) 0 93 (Za 17) 20 Ww (QW a1 out2_6 out_6 i_16 0 out_16 mp_16 F12 q12 r31)=some (.exit 5,VT a1 out2_6 out_6 i_16 out_20 mp_20))(W6:InI ((i_16:Int)+1)):
  Zm 0 (exec Tryz.prog (tab (n+9)) 0 93 (Za 17) big Xk) (Za 17 16) (Wx a1 out2_6 out_6 i_16 out_16 mp_16) (Wx a1 out2_6 out_6 (i_16+1) out_20 mp_20):=by
 have C1_:i_16<out_6.length:=by omega
 obtain ⟨EL3,EG3⟩:=List.getElem?_eq_some_iff.1 E3
 simp only [Zn,Ze] at K4
 have W6_:IntKind.i64.wrap ((i_16:Int)+1)=(i_16:Int)+1:=Zq W6.1 W6.2
 unfold Zm
 simp+decide [Wx,Zb, Tryz.f17,Xk,C1,C1_,EG3,K4]
 rw [Zi (C':=Ww) (e:=(QW a1 out2_6 out_6 i_16 0 out_16 mp_16 F12 q12 r31)) ?_ ?_,L5]
 rotate_left
 ·kernel_rfl
 ·simp+decide [QW, Tryz.f17]
 simp+decide [VT, Tryz.f17,W6_]
theorem Zlk(C1:¬(i_16:Int)<(out_6.length:Int)):
  Zj 0 (exec Tryz.prog (tab (n+9)) 0 93 (Za 17) big Xk) (Za 17 (Zo 16)) (Wx a1 out2_6 out_6 i_16 out_16 mp_16) (.exit 3) (VZ out_16 mp_16):=by
 unfold Zj
 simp+decide [Wx,Zb, Tryz.f17,VZ,Xk,C1]
theorem Zua(C1:¬a1<0)(K2:run (n+8) 44 [.sl 4 (a0.map Zh),.lit (.int .i64 4611686018427387904)]=some (.lit (.bool r)))(C3:r=true)(L4:Zk Tryz.prog (tab (n+9)) 0 93 (Za 17) 6 X6 (Qq a0 a1 [] [] 0 [] [])=some (.exit 0,KQ a1 out_6 out2_6 out3_6 mp_6))(L5:Zk Tryz.prog (tab (n+9)) 0 93 (Za 17) 16 Xk (Wx a1 out2_6 out_6 0 out3_6 mp_6)=some (.exit 3,VZ out_16 mp_16))(C6:¬4096<(out_16.length:Int)):
  run (n+9) 17 [.sl 4 (a0.map Zh),.lit (.int .i64 a1)]=some (.tup [.sl 4 (out_16.map Zh),.lit (.int .i64 0)]):=by
 unfold run fnP
 simp+decide [Tryz.f17,C1,K2,C3]
 rw [Zi (C':=X6) (e:=(Qq a0 a1 [] [] 0 [] [])) ?_ ?_,L4]
 rotate_left
 ·kernel_rfl
 ·simp+decide [Qq]
 simp+decide [KQ]
 rw [Zi (C':=Xk) (e:=(Wx a1 out2_6 out_6 0 out3_6 mp_6)) ?_ ?_,L5]
 rotate_left
 ·kernel_rfl
 ·simp+decide [Wx]
 simp+decide [VZ,C6]
end
end
section
open Go.RowKit
noncomputable def XG:Code:=(Zb (ZO Tryz.f18)).getD 0 .skip
noncomputable def Xl:Code:=(Zb (ZO Tryz.f18)).getD 1 .skip
noncomputable def Ws:Code:=(Zb Xl).getD 0 .skip
def Qx(a0:List Zf)(a1:Int)(out_5:List Zf)(out2_5:List Zf)(out3_5:List Zf)(i_5:Nat):St:=
 ⟨[(0,.sl 4 (a0.map Zh)),(1,.lit (.int .i64 a1)),(6,.own 0 out_5.length),(7,.own 1 out2_5.length),(8,.own 2 out3_5.length),(9,.lit (.int .i64 (i_5:Int)))],
  [(0,some (.row 28 4 (out_5.map Zh) 0)),
   (1,some (.row 28 4 (out2_5.map Zh) 0)),
   (2,some (.row 28 4 (out3_5.map Zh) 0))],3⟩
def Q4(a1:Int)(out_19:List Zf)(out2_5:List Zf)(out3_5:List Zf)(i_16:Nat)(i_19:Nat):St:=
 ⟨[(1,.lit (.int .i64 a1)),(6,.own 0 out_19.length),(7,.own 1 out2_5.length),(8,.own 2 out3_5.length),(10,.lit (.int .i64 (i_16:Int))),(11,.lit (.int .i64 (i_19:Int)))],
  [(0,some (.row 28 4 (out_19.map Zh) 0)),
   (1,some (.row 28 4 (out2_5.map Zh) 0)),
   (2,some (.row 28 4 (out3_5.map Zh) 0))],3⟩
def Wv(a1:Int)(out_16:List Zf)(out2_5:List Zf)(out3_5:List Zf)(i_16:Nat):St:=
 ⟨[(1,.lit (.int .i64 a1)),(6,.own 0 out_16.length),(7,.own 1 out2_5.length),(8,.own 2 out3_5.length),(10,.lit (.int .i64 (i_16:Int)))],
  [(0,some (.row 28 4 (out_16.map Zh) 0)),
   (1,some (.row 28 4 (out2_5.map Zh) 0)),
   (2,some (.row 28 4 (out3_5.map Zh) 0))],3⟩
def Jg(a1:Int)(out_5:List Zf)(out2_5:List Zf)(out3_5:List Zf):St:=
 ⟨[(1,.lit (.int .i64 a1)),(4,.any),(5,.any),(6,.own 0 out_5.length),(7,.own 1 out2_5.length),(8,.own 2 out3_5.length)],
  [(0,some (.row 28 4 (out_5.map Zh) 0)),
   (1,some (.row 28 4 (out2_5.map Zh) 0)),
   (2,some (.row 28 4 (out3_5.map Zh) 0))],3⟩
def Ui(a1:Int)(out_19:List Zf)(out2_5:List Zf)(out3_5:List Zf)(i_16:Nat):St:=
 ⟨[(1,.lit (.int .i64 a1)),(6,.own 0 out_19.length),(7,.own 1 out2_5.length),(8,.own 2 out3_5.length),(10,.lit (.int .i64 (i_16:Int)))],
  [(0,some (.row 28 4 (out_19.map Zh) 0)),
   (1,some (.row 28 4 (out2_5.map Zh) 0)),
   (2,some (.row 28 4 (out3_5.map Zh) 0))],3⟩
def VU(out_16:List Zf):St:=
 ⟨[(6,.own 0 out_16.length)],
  [(0,some (.row 28 4 (out_16.map Zh) 0))],1⟩
section
variable{r6:Rat}{n:Nat}{r5:Bool}{i_5:Nat}{out_5:List Zf}{a0:List Zf}{out2_5:List Zf}{out3_5:List Zf}{F3:List (Int × Rat)}{q3:Rat}{a1:Int}{R3:List Zf}{i_19:Nat}{out_19:List Zf}{q20:Rat}{i_16:Nat}{r48:Rat}{q21:Rat}{F20:List (Int × Rat)}{r49:Zf}{F21:List (Int × Rat)}{r51:Zf}{r47:Rat}{r50:Zf}{R12:List Zf}{out_16:List Zf}
section
variable(C1:(i_5:Int)<(a0.length:Int))(E2:a0[i_5]?=some (F3,q3))(K3:run (n+8) 21 [Ze (F3,q3),.lit (.int .i64 1099511627776)]=some (.lit (.bool r5)))(C4:r5=true)(K5:run (n+8) 22 [Ze (F3,q3),.lit (.int .i64 a1)]=some (Zn r6))(B6a:H r6≤17179869184)
include C1 E2 K3 C4 K5 B6a
theorem Zm8(C7:sgR r6=0)(K8:Zp (n+8) 49 [.own 0 out_5.length,Ze (F3,q3)] [.row 28 4 (out_5.map Zh) 0]=some (.own 0 out_5.length,[(0,.row 28 4 (out_5.map Zh) 0)]))(W9:InI ((i_5:Int)+1)):
  Zm 0 (exec Tryz.prog (tab (n+9)) 0 103 (Za 18) big XG) (Za 18 5) (Qx a0 a1 out_5 out2_5 out3_5 i_5) (Qx a0 a1 out_5 out2_5 out3_5 (i_5+1)):=by
 have C1_:i_5<a0.length:=by omega
 obtain ⟨EL2,EG2⟩:=List.getElem?_eq_some_iff.1 E2
 simp only [Ze] at K3
 simp only [Zn,Ze] at K5
 have K6:=Yz (p:=r6) B6a
 have C7_:(sgR r6==0)=true:=by rw [C7];simp
 simp only [Ze] at K8
 have W9_:IntKind.i64.wrap ((i_5:Int)+1)=(i_5:Int)+1:=Zq W9.1 W9.2
 unfold Zm
 simp+decide [Qx,Zb, Tryz.f18,XG,C1,C1_,EG2,K3,C4,K5,K6,C7_,K8,W9_]
theorem ZpP(C7:sgR r6=0)(K8:Zp (n+8) 49 [.own 0 out_5.length,Ze (F3,q3)] [.row 28 4 (out_5.map Zh) 0]=some (.own 3 R3.length,[(3,.row 28 4 (R3.map Zh) 0)]))(W9:InI ((i_5:Int)+1)):
  Zm 0 (exec Tryz.prog (tab (n+9)) 0 103 (Za 18) big XG) (Za 18 5) (Qx a0 a1 out_5 out2_5 out3_5 i_5) (Qx a0 a1 R3 out2_5 out3_5 (i_5+1)):=by
 have C1_:i_5<a0.length:=by omega
 obtain ⟨EL2,EG2⟩:=List.getElem?_eq_some_iff.1 E2
 simp only [Ze] at K3
 simp only [Zn,Ze] at K5
 have K6:=Yz (p:=r6) B6a
 have C7_:(sgR r6==0)=true:=by rw [C7];simp
 simp only [Ze] at K8
 have W9_:IntKind.i64.wrap ((i_5:Int)+1)=(i_5:Int)+1:=Zq W9.1 W9.2
 unfold Zm
 simp+decide [Qx,Zb, Tryz.f18,XG,C1,C1_,EG2,K3,C4,K5,K6,C7_,K8,W9_]
theorem Zpx(C7:¬sgR r6=0)(C8:sgR r6=1)(M9:out2_5.length+1≤100000000)(W10:InI ((i_5:Int)+1)):
  Zm 0 (exec Tryz.prog (tab (n+9)) 0 103 (Za 18) big XG) (Za 18 5) (Qx a0 a1 out_5 out2_5 out3_5 i_5) (Qx a0 a1 out_5 (out2_5++[(F3,q3)]) out3_5 (i_5+1)):=by
 have C1_:i_5<a0.length:=by omega
 obtain ⟨EL2,EG2⟩:=List.getElem?_eq_some_iff.1 E2
 simp only [Ze] at K3
 simp only [Zn,Ze] at K5
 have K6:=Yz (p:=r6) B6a
 have C7_:(sgR r6==0)=false:=by simpa using C7
 have C8_:(sgR r6==1)=true:=by rw [C8];simp
 have M9_:∀b,b≤10000→ZU (out2_5.length+1) b=true:=fun b hb=>ZD M9 hb
 have W10_:IntKind.i64.wrap ((i_5:Int)+1)=(i_5:Int)+1:=Zq W10.1 W10.2
 unfold Zm
 simp+decide [Qx,Zb, Tryz.f18,XG,C1,C1_,EG2,K3,C4,K5,K6,C7_,C8_,M9_,W10_]
theorem Zni(C7:¬sgR r6=0)(C8:¬sgR r6=1)(M9:out3_5.length+1≤100000000)(W10:InI ((i_5:Int)+1)):
  Zm 0 (exec Tryz.prog (tab (n+9)) 0 103 (Za 18) big XG) (Za 18 5) (Qx a0 a1 out_5 out2_5 out3_5 i_5) (Qx a0 a1 out_5 out2_5 (out3_5++[(F3,q3)]) (i_5+1)):=by
 have C1_:i_5<a0.length:=by omega
 obtain ⟨EL2,EG2⟩:=List.getElem?_eq_some_iff.1 E2
 simp only [Ze] at K3
 simp only [Zn,Ze] at K5
 have K6:=Yz (p:=r6) B6a
 have C7_:(sgR r6==0)=false:=by simpa using C7
 have C8_:(sgR r6==1)=false:=by simpa using C8
 have M9_:∀b,b≤10000→ZU (out3_5.length+1) b=true:=fun b hb=>ZD M9 hb
 have W10_:IntKind.i64.wrap ((i_5:Int)+1)=(i_5:Int)+1:=Zq W10.1 W10.2
 unfold Zm
 simp+decide [Qx,Zb, Tryz.f18,XG,C1,C1_,EG2,K3,C4,K5,K6,C7_,C8_,M9_,W10_]
end
theorem Zpz(C1:¬(i_5:Int)<(a0.length:Int)):
  Zj 0 (exec Tryz.prog (tab (n+9)) 0 103 (Za 18) big XG) (Za 18 (Zo 5)) (Qx a0 a1 out_5 out2_5 out3_5 i_5) (.exit 0) (Jg a1 out_5 out2_5 out3_5):=by
 unfold Zj
 simp+decide [Qx,Zb, Tryz.f18,Jg,XG,C1]
section
variable(C1:(i_19:Int)<(out3_5.length:Int))(G2:i_16<out2_5.length)(E3:out2_5[i_16]?=some (F20,q20))(K4:run (n+8) 22 [Ze (F20,q20),.lit (.int .i64 a1)]=some (Zn r47))(G5:i_19<out3_5.length)(E6:out3_5[i_19]?=some (F21,q21))(K7:run (n+8) 22 [Ze (F21,q21),.lit (.int .i64 a1)]=some (Zn r48))(B8a:H r48≤17179869184)(K10:run (n+8) 41 [Ze (F20,q20),Zn (-r48)]=some (Ze r49))(K12:run (n+8) 41 [Ze (F21,q21),Zn r47]=some (Ze r50))(K13:run (n+8) 50 [Ze r49,Ze r50]=some (Ze r51))
include C1 G2 E3 K4 G5 E6 K7 B8a K10 K12 K13
theorem ZlC(K14:Zp (n+8) 49 [.own 0 out_19.length,Ze r51] [.row 28 4 (out_19.map Zh) 0]=some (.own 0 out_19.length,[(0,.row 28 4 (out_19.map Zh) 0)]))(W15:InI ((i_19:Int)+1)):
  Zm 0 (exec Tryz.prog (tab (n+9)) 0 103 (Za 18) big Ws) (Za 18 19) (Q4 a1 out_19 out2_5 out3_5 i_16 i_19) (Q4 a1 out_19 out2_5 out3_5 i_16 (i_19+1)):=by
 have C1_:i_19<out3_5.length:=by omega
 obtain ⟨EL3,EG3⟩:=List.getElem?_eq_some_iff.1 E3
 simp only [Zn,Ze] at K4
 obtain ⟨EL6,EG6⟩:=List.getElem?_eq_some_iff.1 E6
 simp only [Zn,Ze] at K7
 have K8:=ZfD (p:=r48) B8a
 simp only [Zn,Ze] at K10
 simp only [Zn,Ze] at K12
 simp only [Ze] at K13
 simp only [Ze] at K14
 have W15_:IntKind.i64.wrap ((i_19:Int)+1)=(i_19:Int)+1:=Zq W15.1 W15.2
 unfold Zm
 simp+decide [Q4,Zb, Tryz.f18,Xl,Ws,C1,C1_,G2,EG3,K4,EG6,K7,K8,K10,K12,K13,K14,W15_]
theorem Zj0(K14:Zp (n+8) 49 [.own 0 out_19.length,Ze r51] [.row 28 4 (out_19.map Zh) 0]=some (.own 3 R12.length,[(3,.row 28 4 (R12.map Zh) 0)]))(W15:InI ((i_19:Int)+1)):
  Zm 0 (exec Tryz.prog (tab (n+9)) 0 103 (Za 18) big Ws) (Za 18 19) (Q4 a1 out_19 out2_5 out3_5 i_16 i_19) (Q4 a1 R12 out2_5 out3_5 i_16 (i_19+1)):=by
 have C1_:i_19<out3_5.length:=by omega
 obtain ⟨EL3,EG3⟩:=List.getElem?_eq_some_iff.1 E3
 simp only [Zn,Ze] at K4
 obtain ⟨EL6,EG6⟩:=List.getElem?_eq_some_iff.1 E6
 simp only [Zn,Ze] at K7
 have K8:=ZfD (p:=r48) B8a
 simp only [Zn,Ze] at K10
 simp only [Zn,Ze] at K12
 simp only [Ze] at K13
 simp only [Ze] at K14
 have W15_:IntKind.i64.wrap ((i_19:Int)+1)=(i_19:Int)+1:=Zq W15.1 W15.2
 unfold Zm
 simp+decide [Q4,Zb, Tryz.f18,Xl,Ws,C1,C1_,G2,EG3,K4,EG6,K7,K8,K10,K12,K13,K14,W15_]
end
theorem Zj9(C1:¬(i_19:Int)<(out3_5.length:Int)):
  Zj 0 (exec Tryz.prog (tab (n+9)) 0 103 (Za 18) big Ws) (Za 18 (Zo 19)) (Q4 a1 out_19 out2_5 out3_5 i_16 i_19) (.exit 5) (Ui a1 out_19 out2_5 out3_5 i_16):=by
 unfold Zj
 simp+decide [Q4,Zb, Tryz.f18,Ui,Xl,Ws,C1]
theorem Zkl(C1:(i_16:Int)<(out2_5.length:Int))(L2:Zk Tryz.prog (tab (n+9)) 0 103 (Za 18) 19 Ws (Q4 a1 out_16 out2_5 out3_5 i_16 0)=some (.exit 5,Ui a1 out_19 out2_5 out3_5 i_16))(W3:InI ((i_16:Int)+1)):
  Zm 0 (exec Tryz.prog (tab (n+9)) 0 103 (Za 18) big Xl) (Za 18 16) (Wv a1 out_16 out2_5 out3_5 i_16) (Wv a1 out_19 out2_5 out3_5 (i_16+1)):=by
 have W3_:IntKind.i64.wrap ((i_16:Int)+1)=(i_16:Int)+1:=Zq W3.1 W3.2
 unfold Zm
 simp+decide [Wv,Zb, Tryz.f18,Xl,C1]
 rw [Zi (C':=Ws) (e:=(Q4 a1 out_16 out2_5 out3_5 i_16 0)) ?_ ?_,L2]
 rotate_left
 ·kernel_rfl
 ·simp+decide [Q4, Tryz.f18]
 simp+decide [Ui, Tryz.f18,W3_]
theorem Zkw(C1:¬(i_16:Int)<(out2_5.length:Int)):
  Zj 0 (exec Tryz.prog (tab (n+9)) 0 103 (Za 18) big Xl) (Za 18 (Zo 16)) (Wv a1 out_16 out2_5 out3_5 i_16) (.exit 3) (VU out_16):=by
 unfold Zj
 simp+decide [Wv,Zb, Tryz.f18,VU,Xl,C1]
theorem Zwe(C1:¬a1<0)(L2:Zk Tryz.prog (tab (n+9)) 0 103 (Za 18) 5 XG (Qx a0 a1 [] [] [] 0)=some (.exit 0,Jg a1 out_5 out2_5 out3_5))(L3:Zk Tryz.prog (tab (n+9)) 0 103 (Za 18) 16 Xl (Wv a1 out_5 out2_5 out3_5 0)=some (.exit 3,VU out_16))(C4:¬4096<(out_16.length:Int)):
  run (n+9) 18 [.sl 4 (a0.map Zh),.lit (.int .i64 a1)]=some (.tup [.sl 4 (out_16.map Zh),.lit (.int .i64 0)]):=by
 unfold run fnP
 simp+decide [Tryz.f18,C1]
 rw [Zi (C':=XG) (e:=(Qx a0 a1 [] [] [] 0)) ?_ ?_,L2]
 rotate_left
 ·kernel_rfl
 ·simp+decide [Qx]
 simp+decide [Jg]
 rw [Zi (C':=Xl) (e:=(Wv a1 out_5 out2_5 out3_5 0)) ?_ ?_,L3]
 rotate_left
 ·kernel_rfl
 ·simp+decide [Wv]
 simp+decide [VU,C4]
end
end
section
open Go.RowKit
noncomputable def Qd:Code:=(Zb (ZO Tryz.f67)).getD 0 .skip
def YN(a0:Zf)(a1:Int)(i_2:Nat):St:=
 ⟨[(1,.lit (.int .i64 a1)),(2,.ptr 0 0),(8,.sl 4 (a0.1.map Zr)),(9,.lit (.int .i64 (a0.1.length:Int))),(10,.lit (.int .i64 (i_2:Int)))],
  [(0,some (.box 28 [.sl 4 (a0.1.map Zr),.lit (.bool (Zd a0.2).s),Zc (Zd a0.2).l1,Zc (Zd a0.2).l2] false))],1⟩
def QX(a0:Zf):St:=
 ⟨[(2,.ptr 0 0),(4,.lit (.bool false))],
  [(0,some (.box 28 [.sl 4 (a0.1.map Zr),.lit (.bool (Zd a0.2).s),Zc (Zd a0.2).l1,Zc (Zd a0.2).l2] false))],1⟩
def Zat(a0:Zf):St:=
 ⟨[(2,.ptr 0 0),(4,.any)],
  [(0,some (.box 28 [.sl 4 (a0.1.map Zr),.lit (.bool (Zd a0.2).s),Zc (Zd a0.2).l1,Zc (Zd a0.2).l2] false))],1⟩
section
variable {q4 : Rat} {v5 : Int} {q5 : Rat} {n : Nat} {a0 : Zf} {v4 : Int} {i_2 : Nat} {a1 : Int}
section
variable(C1:(i_2:Int)<(a0.1.length:Int))(E2:a0.1[i_2]?=some (v4,q4))
include C1 E2
theorem Zm0(C3:¬v4<0)(C4:¬a1≤v4)(C5:0<(i_2:Int))(W6:InI ((i_2:Int)-1))(E7:a0.1[i_2-1]?=some (v5,q5))(Z7:1≤i_2)(C8:¬v4≤v5)(B9a:H q4≤17179869184)(C10:¬sgR q4=0)(W12:InI ((i_2:Int)+1)):
  Zm 0 (exec Tryz.prog (tab n) 0 56 (Za 67) big Qd) (Za 67 2) (YN a0 a1 i_2) (YN a0 a1 (i_2+1)):=by
 have C1_:i_2<a0.1.length:=by omega
 obtain ⟨EL2,EG2⟩:=List.getElem?_eq_some_iff.1 E2
 have C5_:0<i_2:=by omega
 have W6_:IntKind.i64.wrap ((i_2:Int)-1)=(i_2:Int)-1:=Zq W6.1 W6.2
 obtain ⟨EL7,EG7⟩:=List.getElem?_eq_some_iff.1 E7
 have Z7_0:(1:Int)≤(i_2:Int):=by omega
 have K9:=Yz (p:=q4) B9a
 have C10_:(sgR q4==0)=false:=by simpa using C10
 have K11:=KW (p:=q4) B9a
 have W12_:IntKind.i64.wrap ((i_2:Int)+1)=(i_2:Int)+1:=Zq W12.1 W12.2
 unfold Zm
 simp+decide [YN,Zb, Tryz.f67,Qd,C1,C1_,EG2,C3,C4,C5_,W6_,EL7,EG7,Z7_0,C8,K9,C10_,K11,W12_]
theorem Zna(C3:¬v4<0)(C4:¬a1≤v4)(C5:¬0<(i_2:Int))(B6a:H q4≤17179869184)(C7:¬sgR q4=0)(W9:InI ((i_2:Int)+1)):
  Zm 0 (exec Tryz.prog (tab n) 0 56 (Za 67) big Qd) (Za 67 2) (YN a0 a1 i_2) (YN a0 a1 (i_2+1)):=by
 have C1_:i_2<a0.1.length:=by omega
 obtain ⟨EL2,EG2⟩:=List.getElem?_eq_some_iff.1 E2
 have C5_:¬0<i_2:=by omega
 have K6:=Yz (p:=q4) B6a
 have C7_:(sgR q4==0)=false:=by simpa using C7
 have K8:=KW (p:=q4) B6a
 have W9_:IntKind.i64.wrap ((i_2:Int)+1)=(i_2:Int)+1:=Zq W9.1 W9.2
 unfold Zm
 simp+decide [YN,Zb, Tryz.f67,Qd,C1,C1_,EG2,C3,C4,C5_,K6,C7_,K8,W9_]
theorem Zgf(C3:v4<0):
  Zj 0 (exec Tryz.prog (tab n) 0 56 (Za 67) big Qd) (Za 67 (Zo 2)) (YN a0 a1 i_2) (.ret) (QX a0):=by
 have C1_:i_2<a0.1.length:=by omega
 obtain ⟨EL2,EG2⟩:=List.getElem?_eq_some_iff.1 E2
 unfold Zj
 simp+decide [YN,Zb, Tryz.f67,QX,Qd,C1,C1_,EG2,C3]
theorem ZgD(C3:¬v4<0)(C4:a1≤v4):
  Zj 0 (exec Tryz.prog (tab n) 0 56 (Za 67) big Qd) (Za 67 (Zo 2)) (YN a0 a1 i_2) (.ret) (QX a0):=by
 have C1_:i_2<a0.1.length:=by omega
 obtain ⟨EL2,EG2⟩:=List.getElem?_eq_some_iff.1 E2
 unfold Zj
 simp+decide [YN,Zb, Tryz.f67,QX,Qd,C1,C1_,EG2,C3,C4]
theorem ZmC(C3:¬v4<0)(C4:¬a1≤v4)(C5:0<(i_2:Int))(W6:InI ((i_2:Int)-1))(E7:a0.1[i_2-1]?=some (v5,q5))(Z7:1≤i_2)(C8:v4≤v5):
  Zj 0 (exec Tryz.prog (tab n) 0 56 (Za 67) big Qd) (Za 67 (Zo 2)) (YN a0 a1 i_2) (.ret) (QX a0):=by
 have C1_:i_2<a0.1.length:=by omega
 obtain ⟨EL2,EG2⟩:=List.getElem?_eq_some_iff.1 E2
 have C5_:0<i_2:=by omega
 have W6_:IntKind.i64.wrap ((i_2:Int)-1)=(i_2:Int)-1:=Zq W6.1 W6.2
 obtain ⟨EL7,EG7⟩:=List.getElem?_eq_some_iff.1 E7
 have Z7_0:(1:Int)≤(i_2:Int):=by omega
 unfold Zj
 simp+decide [YN,Zb, Tryz.f67,QX,Qd,C1,C1_,EG2,C3,C4,C5_,W6_,EL7,EG7,Z7_0,C8]
theorem ZoB(C3:¬v4<0)(C4:¬a1≤v4)(C5:0<(i_2:Int))(W6:InI ((i_2:Int)-1))(E7:a0.1[i_2-1]?=some (v5,q5))(Z7:1≤i_2)(C8:¬v4≤v5)(B9a:H q4≤17179869184)(C10:sgR q4=0):
  Zj 0 (exec Tryz.prog (tab n) 0 56 (Za 67) big Qd) (Za 67 (Zo 2)) (YN a0 a1 i_2) (.ret) (QX a0):=by
 have C1_:i_2<a0.1.length:=by omega
 obtain ⟨EL2,EG2⟩:=List.getElem?_eq_some_iff.1 E2
 have C5_:0<i_2:=by omega
 have W6_:IntKind.i64.wrap ((i_2:Int)-1)=(i_2:Int)-1:=Zq W6.1 W6.2
 obtain ⟨EL7,EG7⟩:=List.getElem?_eq_some_iff.1 E7
 have Z7_0:(1:Int)≤(i_2:Int):=by omega
 have K9:=Yz (p:=q4) B9a
 have C10_:(sgR q4==0)=true:=by rw [C10];simp
 unfold Zj
 simp+decide [YN,Zb, Tryz.f67,QX,Qd,C1,C1_,EG2,C3,C4,C5_,W6_,EL7,EG7,Z7_0,C8,K9,C10_]
theorem Zpi(C3:¬v4<0)(C4:¬a1≤v4)(C5:¬0<(i_2:Int))(B6a:H q4≤17179869184)(C7:sgR q4=0):
  Zj 0 (exec Tryz.prog (tab n) 0 56 (Za 67) big Qd) (Za 67 (Zo 2)) (YN a0 a1 i_2) (.ret) (QX a0):=by
 have C1_:i_2<a0.1.length:=by omega
 obtain ⟨EL2,EG2⟩:=List.getElem?_eq_some_iff.1 E2
 have C5_:¬0<i_2:=by omega
 have K6:=Yz (p:=q4) B6a
 have C7_:(sgR q4==0)=true:=by rw [C7];simp
 unfold Zj
 simp+decide [YN,Zb, Tryz.f67,QX,Qd,C1,C1_,EG2,C3,C4,C5_,K6,C7_]
end
theorem ZpG(C1:¬(i_2:Int)<(a0.1.length:Int)):
  Zj 0 (exec Tryz.prog (tab n) 0 56 (Za 67) big Qd) (Za 67 (Zo 2)) (YN a0 a1 i_2) (.exit 0) (Zat a0):=by
 unfold Zj
 simp+decide [YN,Zb, Tryz.f67,Zat,Qd,C1]
theorem ZvQ(L1:Zk Tryz.prog (tab n) 0 56 (Za 67) 2 Qd (YN a0 a1 0)=some (.ret,QX a0)):
  run n 67 [Ze a0,.lit (.int .i64 a1)]=some (.lit (.bool false)):=by
 unfold run fnP
 simp+decide [Tryz.f67]
 rw [Zi (C':=Qd) (e:=(YN a0 a1 0)) ?_ ?_,L1]
 rotate_left
 ·kernel_rfl
 ·simp+decide [YN]
 simp+decide [QX]
theorem Zvd(L1:Zk Tryz.prog (tab n) 0 56 (Za 67) 2 Qd (YN a0 a1 0)=some (.exit 0,Zat a0))(B2a:H a0.2≤17179869184):
  run n 67 [Ze a0,.lit (.int .i64 a1)]=some (.lit (.bool true)):=by
 have K2:=KW (p:=a0.2) B2a
 unfold run fnP
 simp+decide [Tryz.f67]
 rw [Zi (C':=Qd) (e:=(YN a0 a1 0)) ?_ ?_,L1]
 rotate_left
 ·kernel_rfl
 ·simp+decide [YN]
 simp+decide [Zat,K2]
end
end
section
open Go.RowKit
attribute [local irreducible] run Zp Zk exec
theorem ZnR{n:Nat}{f:Zf}{vars:Int}(hB:BdF 17179869184 f):run n 67 [Ze f,.lit (.int .i64 vars)]=some (.lit (.bool (tv (OkFm f vars)))):=by
 have hl:=hB.l
 have L:=QY (O:=tab n) (P:= Tryz.prog) (m:=0) (N:=56) (lives:=Za 67) (r:=2) (C:=Qd) (M:=f.1.length) (enc:=YN f vars) (p:=fun i=>tv (Zwu f.1 vars i)) (exN:=.exit 0) (exE:=.ret) (out:=Zat f) (outE:=QX f) (by omega) (by simp) (by simp)
  (fun i hi hI=>by
   have hx:f.1[i]?=some f.1[i]:=List.getElem?_eq_getElem hi
   generalize f.1[i]=t at hx
   obtain ⟨v,c⟩:=t
   have hc:H c≤17179869184:=hB.t _ (List.mem_of_getElem? hx)
   have C1:(i:Int)<(f.1.length:Int):=by omega
   have W:InI ((i:Int)+1):=⟨by omega,by omega⟩
   have W2:InI ((i:Int)-1):=⟨by omega,by omega⟩
   have hs:sgR c=0↔c=0:=Yi
   by_cases h0:0<i
   ·have hy:f.1[i-1]?=some (f.1[i-1]'(by omega)):=List.getElem?_eq_getElem _
    generalize f.1[i-1]'(by omega)=t at hy
    obtain ⟨v',c'⟩:=t
    refine ⟨fun hp=>?_,fun hp=>?_⟩
    ·obtain ⟨a1,a2,a3,a4⟩:=YF hp v c hx
     have a5:=a4 v' c' h0 hy
     exact Zm0 C1 hx (by omega) (by omega) (by omega) W2 hy (by omega) (by omega) hc (fun h=>a3 (hs.1 h)) W
    ·by_cases b1:v<0
     ·exact Zgf C1 hx b1
     ·by_cases b2:vars≤v
      ·exact ZgD C1 hx b1 b2
      ·by_cases b3:v≤v'
       ·exact ZmC C1 hx b1 b2 (by omega) W2 hy (by omega) b3
       ·by_cases b4:c=0
        ·exact ZoB C1 hx b1 b2 (by omega) W2 hy (by omega) b3 hc (hs.2 b4)
        ·refine absurd (fun u d hu=>?_) (QT hp)
         rw [hx] at hu;cases hu
         exact ⟨by omega,by omega,b4,fun v2 c2 _ h2=>by rw [hy] at h2;cases h2;omega⟩
   ·refine ⟨fun hp=>?_,fun hp=>?_⟩
    ·obtain ⟨a1,a2,a3,a4⟩:=YF hp v c hx
     exact Zna C1 hx (by omega) (by omega) (by omega) hc (fun h=>a3 (hs.1 h)) W
    ·by_cases b1:v<0
     ·exact Zgf C1 hx b1
     ·by_cases b2:vars≤v
      ·exact ZgD C1 hx b1 b2
      ·by_cases b4:c=0
       ·exact Zpi C1 hx b1 b2 (by omega) hc (hs.2 b4)
       ·refine absurd (fun u d hu=>?_) (QT hp)
        rw [hx] at hu;cases hu
        exact ⟨by omega,by omega,b4,fun v2 c2 h2=>absurd h2 h0⟩)
  (ZpG (by omega))
 by_cases h:OkFm f vars
 ·rw [if_pos (fun i hi=>Q7 (h i hi))] at L
  rw [Q7 h]
  exact Zvd L hB.k
 ·rw [if_neg (fun h2=>h fun i hi=>YF (h2 i hi))] at L
  rw [Xq h]
  exact ZvQ L
end
end Go.Proofs.YtdaonnnlgfhlaaaGreatDoor
