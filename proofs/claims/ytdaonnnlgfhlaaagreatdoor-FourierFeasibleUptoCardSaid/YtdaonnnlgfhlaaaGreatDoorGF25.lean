import Derived.Test.YtdaonnnlgfhlaaaGreatDoorGF17
import Derived.Test.YtdaonnnlgfhlaaaGreatDoorGF24
import Derived.Test.YtdaonnnlgfhlaaaGreatDoorGF21
import Derived.Test.YtdaonnnlgfhlaaaGreatDoorGF16
import Derived.Test.YtdaonnnlgfhlaaaGreatDoorGF19
set_option linter.all false
set_option maxHeartbeats 6400000
set_option maxRecDepth 100000
namespace Go.Proofs.YtdaonnnlgfhlaaaGreatDoor
section
set_option maxHeartbeats 1600000
open Go.RowKit
attribute [local irreducible] run Zp Zk exec
theorem ZiB{X:List Rat}{k:Nat}:∀{F:List (Int × Rat)},Srt F→InR k F→evS X F=Ya (fun j=>cof F (j:Int)*X.getD j 0) k
 | [],_,_=>by
   rw [evS,ZH (g:=fun _=>0) (fun i _=>by rw [Qg];grind),Wm]
 | t::F,hs,hi=>by
   have ht:=hi t List.mem_cons_self
   have h0:cof F t.1=0:=Va fun u hu e=>by have:=hs.head u hu;omega
   have ih:=ZiB (X:=X) (k:=k) hs.tail (fun u hu=>hi u (List.mem_cons_of_mem _ hu))
   have hc:∀j:Nat,cof (t::F) (j:Int)*X.getD j 0=cof F (j:Int)*X.getD j 0+(if j=t.1.toNat then t.2*X.getD j 0 else 0):=fun j=>by
    by_cases h:j=t.1.toNat
    ·have e:(j:Int)=t.1:=by omega
     rw [if_pos h,Y7 e,e,h0];grind
    ·have e:(j:Int)≠t.1:=by omega
     rw [if_neg h,QH e];grind
   rw [evS,ih,ZH (fun i _=>hc i),QS,WH (k:=t.1.toNat) (by omega) (fun i _ h=>if_neg h),if_pos rfl]
   grind
theorem KQ{X:List Rat}{k:Nat}{f:Zf}(hs:Srt f.1)(hi:InR k f.1):Qo X f=f.2+Ya (fun j=>cof f.1 (j:Int)*X.getD j 0) k:=by
 unfold Qo
 rw [ZiB hs hi]
def oF(l:List ZC)(i u:Nat):Rat:=(((l.getD i ⟨[],0⟩).c.getD u 0:Int):Rat)
def AtT(m:Nat)(R:List Zf)(t:Rat):Prop:=∃X:List Rat,X.length=m+1∧X.getD m 0=t∧Za6 X R
section
variable {m : Nat} {R : List Zf} {l : List ZC}
theorem Zjm{f:Zf}{c:List Int}{X:List Rat}{t:Rat}(hs:Srt f.1)(hi:InR (m+1) f.1)(hd:Zmg f (m+1) c)(hX:X.getD m 0=t):∃g:Rat,0<g∧(((c.getD m 0:Int):Rat)*t+((c.getD (m+1) 0:Int):Rat))+Ya (fun j=>((c.getD j 0:Int):Rat)*X.getD j 0) m=g*Qo X f:=by
 obtain ⟨g,hg,hm⟩:=hd.mul
 refine ⟨g,hg,?_⟩
 have e1:∀j,j<m+1→((c.getD j 0:Int):Rat)=g*cof f.1 (j:Int):=fun j hj=>by
  rw [hm j (by omega)]
  unfold cAt
  rw [if_pos hj]
 have e2:((c.getD (m+1) 0:Int):Rat)=g*f.2:=by
  rw [hm (m+1) (Nat.le_refl _)]
  unfold cAt
  rw [if_neg (by omega)]
 have e3:Ya (fun j=>((c.getD j 0:Int):Rat)*X.getD j 0) m=g*Ya (fun j=>cof f.1 (j:Int)*X.getD j 0) m:=by
  rw [←QN]
  exact ZH fun i hi=>by rw [e1 i (by omega)];grind
 rw [KQ hs hi,e1 m (by omega),e2,e3]
 show _=g*(f.2+(Ya (fun j=>cof f.1 (j:Int)*X.getD j 0) m+cof f.1 (m:Int)*X.getD m 0))
 rw [hX]
 grind
theorem ZcJ{g x:Rat}(hg:0<g):0≤g*x↔0≤x:=by
 constructor
 ·intro h
  false_or_by_contra
  have h1:0 < -x:=by grind
  have:=Rat.mul_pos hg h1
  grind
 ·intro h;exact Rat.mul_nonneg (by grind) h
theorem Zlp(h:∀f∈R,Srt f.1∧InR (m+1) f.1)(hl:l.length=R.length)(hd:∀(i:Nat) (f:Zf) (r:ZC),R[i]?=some f→l[i]?=some r→Zmg f (m+1) r.c)(t:Rat):
  (∃x:Nat→Rat,∀i,i<R.length→0≤(oF l i m*t+oF l i (m+1))+Ya (fun j=>oF l i j*x j) m)↔AtT m R t:=by
 have hr:∀i,i<R.length→∃f r,R[i]?=some f∧l[i]?=some r∧l.getD i ⟨[],0⟩=r:=fun i hi=>⟨R[i],l[i]'(by omega),List.getElem?_eq_getElem hi,List.getElem?_eq_getElem (by omega),by rw [List.getD_eq_getElem?_getD,List.getElem?_eq_getElem (by omega)];rfl⟩
 constructor
 ·rintro ⟨x,hx⟩
  have hml:((List.range m).map x).length=m:=by rw [List.length_map,List.length_range]
  have hlen:((List.range m).map x++[t]).length=m+1:=by rw [List.length_append,hml];rfl
  have hlast:((List.range m).map x++[t]).getD m 0=t:=by
   rw [List.getD_eq_getElem?_getD,List.getElem?_append_right (by omega),hml,Nat.sub_self];rfl
  have hj:∀j,j<m→((List.range m).map x++[t]).getD j 0=x j:=fun j hj=>by
   rw [List.getD_eq_getElem?_getD,List.getElem?_append_left (by omega),List.getElem?_map,List.getElem?_range hj];rfl
  refine ⟨(List.range m).map x++[t],hlen,hlast,fun f hf=>⟨by rw [hlen];exact (h f hf).2,?_⟩⟩
  obtain ⟨i,hi⟩:=List.mem_iff_getElem?.1 hf
  have hil:=(List.getElem?_eq_some_iff.1 hi).1
  obtain ⟨f',r,a1,a2,a3⟩:=hr i hil
  rw [hi] at a1;cases a1
  obtain ⟨g,hg,e⟩:=Zjm (h f hf).1 (h f hf).2 (hd i f r hi a2) hlast
  have h2:=hx i hil
  unfold oF at h2
  rw [a3,ZH (g:=fun j=>((r.c.getD j 0:Int):Rat)*((List.range m).map x++[t]).getD j 0) (fun j hj'=>by rw [hj j hj']),e] at h2
  exact (ZcJ hg).1 h2
 ·rintro ⟨X,hX,ht,hs⟩
  refine ⟨fun j=>X.getD j 0,fun i hi=>?_⟩
  obtain ⟨f,r,a1,a2,a3⟩:=hr i hi
  have hf:=List.mem_of_getElem? a1
  obtain ⟨g,hg,e⟩:=Zjm (h f hf).1 (h f hf).2 (hd i f r a1 a2) ht
  unfold oF
  rw [a3,e]
  exact (ZcJ hg).2 (hs f hf).2
end
def cnB(d:List Bool):Nat→Nat
 | 0=>0
 | n+1=>cnB d n+(if d.getD n false=true then 1 else 0)
theorem Zo5(d:List Bool):∀n,cnB d n≤n
 | 0=>Nat.le_refl _
 | n+1=>by
   have:=Zo5 d n
   rw [cnB];split <;>omega
theorem ZiI{d:List Bool}:∀{n},cnB d n=n→∀j,j<n→d.getD j false=true
 | 0,_,j,hj=>absurd hj (by omega)
 | n+1,h,j,hj=>by
   have h1:=Zo5 d n
   rw [cnB] at h
   split at h
   ·next h2=>
    by_cases e:j=n
    ·subst e;exact h2
    ·exact ZiI (n:=n) (by omega) j (by omega)
   ·omega
theorem ZgS{d:List Bool}:∀{n},(∀j,j<n→d.getD j false=true)→cnB d n=n
 | 0,_=>rfl
 | n+1,h=>by rw [cnB,ZgS (fun j hj=>h j (by omega)),if_pos (h n (by omega))]
theorem Zpa{d:List Bool}{v j:Nat}(hv:v<d.length):(d.set v true).getD j false=if j=v then true else d.getD j false:=by
 rw [List.getD_eq_getElem?_getD,List.getElem?_set,List.getD_eq_getElem?_getD]
 by_cases h:v=j
 ·subst h;simp [hv]
 ·rw [if_neg h,if_neg (fun h2=>h h2.symm)]
theorem ZjN{d:List Bool}{v:Nat}(hv:v<d.length)(h0:d.getD v false=false):∀n,cnB (d.set v true) n=cnB d n+(if v<n then 1 else 0)
 | 0=>by rw [cnB,cnB,if_neg (by omega)]
 | n+1=>by
   rw [cnB,cnB,ZjN hv h0 n,Zpa hv]
   by_cases h:n=v
   ·subst h
    rw [if_pos rfl,h0];simp
   ·rw [if_neg h]
    by_cases h2:v<n
    ·have h3:v<n+1:=by omega
     simp only [h2,h3,if_true];omega
    ·have h3:¬v<n+1:=by omega
     simp only [h2,h3,if_false];omega
theorem ZgT(m:Nat):∀n,cnB (List.replicate m false) n=0
 | 0=>rfl
 | n+1=>by
   rw [cnB,ZgT m n,List.getD_eq_getElem?_getD,List.getElem?_replicate]
   split <;>rfl
theorem Zpn{l:List Bool}{i:Nat}(h:i<l.length):l[i]?=some (l.getD i false):=by rw [List.getD_eq_getElem?_getD,List.getElem?_eq_getElem h];rfl
theorem ZAH{i:Nat}(h:i≤62):IntKind.u64.wrap (1*2 ^ min ((i:Int):Int).toNat IntKind.u64.bits)=((2 ^ i:Nat):Int):=by
 have e:IntKind.u64.bits=64:=rfl
 have h2:(2:Nat) ^ i≤2 ^ 62:=Nat.pow_le_pow_right (by omega) h
 rw [e,Int.toNat_natCast,Nat.min_eq_left (by omega),Int.one_mul,show (2:Int) ^ i=((2 ^ i:Nat):Int) by push_cast;rfl]
 obtain ⟨w,hw⟩:∃w:Nat,(2:Nat) ^ i=w:=⟨_,rfl⟩
 rw [hw] at h2 ⊢
 exact wru (by omega) (by omega)
structure ZhT (m:Nat) (R:List Zf) (i:Nat) (l:List ZC):Prop where
 len:l.length=i
 row:∀(j:Nat) (f:Zf) (r:ZC),R[j]?=some f→l[j]?=some r→Zmg f (m+1) r.c∧r.from_=((2 ^ j:Nat):Int)
section
variable {n m : Nat} {p : ZK} {R : List Zf}
theorem ZxO(hp:p.Vars=(m:Int))(hm:m≤3)(hR:∀f∈R,f.1.length≤100)(hn:R.length≤62):
  ∃ex t,Zk Tryz.prog (tab (n+4)) 0 115 (Za 29) 8 QU (YK p R [] 0)=some (ex,t)∧
  ((ex=.exit 0∧∃l,t=XZ p l∧ZhT m R R.length l)∨(ex=.ret∧∃l,t=Jg p l)):=
 Q3 (O:=tab (n+4)) (P:= Tryz.prog) (m:=0) (N:=115) (lives:=Za 29) (r:=8) (C:=QU) (M:=R.length) (enc:=fun i (l:List ZC)=>YK p R l i)
  (fun i l=>ZhT m R i l) (fun ex t=>(ex=.exit 0∧∃l,t=XZ p l∧ZhT m R R.length l)∨(ex=.ret∧∃l,t=Jg p l))
  [] ⟨rfl,fun j f r _ h=>by simp at h⟩ (by omega)
  (fun i l hi I=>by
   have hx:R[i]?=some R[i]:=List.getElem?_eq_getElem hi
   obtain ⟨f,hf⟩:∃f,R[i]=f:=⟨_,rfl⟩
   rw [hf] at hx
   have hfl:=hR f (List.mem_of_getElem? hx)
   obtain ⟨F,q⟩:=f
   obtain ⟨c,ok,K,hK⟩:=Zrr (n:=n+1) (vars:=m+1) (f:=(F,q)) (by omega) (by omega)
   have e1:p.Vars+1=((m+1:Nat):Int):=by rw [hp];push_cast;rfl
   rw [←e1] at K
   have hil:=I.len
   cases ok with
   | false=>exact .inr ⟨.ret,_,by simp,ZpM (by omega) hi hx (by rw [hp];exact ⟨by omega,by omega⟩) K rfl,.inr ⟨rfl,_,rfl⟩⟩
   | true=>
     refine .inl ⟨l++[⟨c,((2 ^ i:Nat):Int)⟩],ZlW (by omega) hi hx (by rw [hp];exact ⟨by omega,by omega⟩) K rfl (ZAH (by omega)) (by omega) ⟨by omega,by omega⟩,by simp [I.len],fun j g r hg hr=>?_⟩
     by_cases hj:j<i
     ·rw [List.getElem?_append_left (by omega)] at hr
      exact I.row j g r hg hr
     ·have hj2:j<(l++[(⟨c,((2 ^ i:Nat):Int)⟩:ZC)]).length:=(List.getElem?_eq_some_iff.1 hr).1
      simp at hj2
      obtain rfl:j=i:=by omega
      rw [List.getElem?_append_right (by omega),hil,Nat.sub_self] at hr
      rw [hx] at hg
      cases hg;cases hr
      exact ⟨hK rfl,rfl⟩)
  (fun l I=>⟨.exit 0,_,by simp,ZnP (by omega),.inl ⟨rfl,l,rfl,I⟩⟩)
def BestI(d:List Bool)(i:Nat)(b:Int):Prop:=(b=-1∧∀v,v<i→d.getD v false=true)∨∃v:Nat,b=(v:Int)∧v<i∧d.getD v false=false
theorem BestI.out{d:List Bool}{b:Int}(h:BestI d m b)(hc:cnB d m<m):∃v:Nat,b=(v:Int)∧v<m∧d.getD v false=false:=by
 rcases h with ⟨_,h⟩|h
 ·have:=ZgS h;omega
 ·exact h
theorem Zvt{l:List ZC}{d:List Bool}(hp:p.Vars=(m:Int))(hm:m≤3)(hd:d.length=m)(hT:∀r∈l,TrB (m+2) r)(hl:l.length≤100000000):
  ∃b fz,Zk Tryz.prog (tab (n+4)) 0 115 (Za 29) 20 ZR (Ys p l d (-1) 0 0)=some (.exit 4,WF p l d b fz)∧BestI d m b:=by
 obtain ⟨b,L,I⟩:=QJ (O:=tab (n+4)) (P:= Tryz.prog) (m:=0) (N:=115) (lives:=Za 29) (r:=20) (C:=ZR) (exN:=.exit 4) (M:=m) (enc:=fun i (b:Int × Nat)=>Ys p l d b.1 i b.2) (out:=fun b=>WF p l d b.1 b.2)
  (fun i b=>BestI d i b.1) (-1,0) (.inl ⟨rfl,fun v hv=>absurd hv (by omega)⟩) (by omega) (by simp)
  (fun i b hi I=>by
   obtain ⟨b,fz⟩:=b
   dsimp only at I
   have hx:=Zpn (l:=d) (i:=i) (by omega)
   have W:InI ((i:Int)+1):=⟨by omega,by omega⟩
   cases hdi:d.getD i false with
   | true=>
     rw [hdi] at hx
     refine ⟨(b,fz),ZkD (by rw [hp];omega) (by omega) hx rfl W,?_⟩
     rcases I with ⟨h1,h2⟩|⟨v,h1,h2,h3⟩
     ·refine .inl ⟨h1,fun v hv=>?_⟩
      by_cases e:v=i
      ·subst e;exact hdi
      ·exact h2 v (by omega)
     ·exact .inr ⟨v,h1,by omega,h3⟩
   | false=>
     rw [hdi] at hx
     have new:BestI d (i+1) (i:Int):=.inr ⟨i,rfl,by omega,hdi⟩
     by_cases hb:b<0
     ·exact ⟨((i:Int),fz),Zlt (by rw [hp];omega) (by omega) hx rfl hb W,new⟩
     ·obtain ⟨v,h1,h2,h3⟩:∃v:Nat,b=(v:Int)∧v<i∧d.getD v false=false:=by
       rcases I with ⟨h1,h2⟩|h
       ·omega
       ·exact h
      subst h1
      obtain ⟨z1,K6⟩:=KX (n:=n+3) (v:=i) hT (by omega) hl
      obtain ⟨z2,K7⟩:=KX (n:=n+3) (v:=v) hT (by omega) hl
      by_cases c:(z1:Int)<(z2:Int)
      ·exact ⟨((i:Int),l.length),ZlL (by rw [hp];omega) (by omega) hx rfl hb K6 K7 c W,new⟩
      ·exact ⟨((v:Int),l.length),ZlE (by rw [hp];omega) (by omega) hx rfl hb K6 K7 c W,.inr ⟨v,rfl,by omega,h3⟩⟩)
  (fun b I=>Zki (by rw [hp];omega))
 exact ⟨b.1,b.2,L,I⟩
theorem ZrY{l:List ZC}{d:List Bool}{k:Nat}(hp:p.Vars=(m:Int))(hm:m≤3)(hd:d.length=m)(hT:∀r∈l,TrB (m+2) r)(hl:l.length≤100000000):
  ∃b,Zk Tryz.prog (tab (n+4)) 0 115 (Za 29) 20 ZR (ZY p l d k (-1) 0)=some (.exit 4,Y9 p l d k b)∧BestI d m b:=by
 exact QJ (O:=tab (n+4)) (P:= Tryz.prog) (m:=0) (N:=115) (lives:=Za 29) (r:=20) (C:=ZR) (exN:=.exit 4) (M:=m) (enc:=fun i (b:Int)=>ZY p l d k b i) (out:=fun b=>Y9 p l d k b)
  (fun i b=>BestI d i b) (-1) (.inl ⟨rfl,fun v hv=>absurd hv (by omega)⟩) (by omega) (by simp)
  (fun i b hi I=>by
   have hx:=Zpn (l:=d) (i:=i) (by omega)
   have W:InI ((i:Int)+1):=⟨by omega,by omega⟩
   cases hdi:d.getD i false with
   | true=>
     rw [hdi] at hx
     refine ⟨b,Zig (by rw [hp];omega) (by omega) hx rfl W,?_⟩
     rcases I with ⟨h1,h2⟩|⟨v,h1,h2,h3⟩
     ·refine .inl ⟨h1,fun v hv=>?_⟩
      by_cases e:v=i
      ·subst e;exact hdi
      ·exact h2 v (by omega)
     ·exact .inr ⟨v,h1,by omega,h3⟩
   | false=>
     rw [hdi] at hx
     have new:BestI d (i+1) (i:Int):=.inr ⟨i,rfl,by omega,hdi⟩
     by_cases hb:b<0
     ·exact ⟨(i:Int),Zhk (by rw [hp];omega) (by omega) hx rfl hb W,new⟩
     ·obtain ⟨v,h1,h2,h3⟩:∃v:Nat,b=(v:Int)∧v<i∧d.getD v false=false:=by
       rcases I with ⟨h1,h2⟩|h
       ·omega
       ·exact h
      subst h1
      obtain ⟨z1,K6⟩:=KX (n:=n+3) (v:=i) hT (by omega) hl
      obtain ⟨z2,K7⟩:=KX (n:=n+3) (v:=v) hT (by omega) hl
      by_cases c:(z1:Int)<(z2:Int)
      ·exact ⟨(i:Int),ZhH (by rw [hp];omega) (by omega) hx rfl hb K6 K7 c W,new⟩
      ·exact ⟨(v:Int),ZhP (by rw [hp];omega) (by omega) hx rfl hb K6 K7 c W,.inr ⟨v,rfl,by omega,h3⟩⟩)
  (fun b I=>ZhL (by rw [hp];omega))
def Zbs:Nat→Nat
 | 0=>9
 | 1=>90
 | 2=>8190
 | _=>67084290
structure OutI (m M:Nat) (o:Nat→Nat→Rat) (i:Nat) (l:List ZC) (d:List Bool):Prop where
 dl:d.length=m
 T:∀r∈l,TrB (m+2) r
 len:l.length≤Zbs i
 cn:cnB d m=i
 K:∃E:List Nat,E.length=i∧(∀v,v<m→(d.getD v false=true↔v∈E))∧(∀v∈E,v<m)∧Inv M (m+2) o E (l.map kr)
theorem OutI.next{M:Nat}{o:Nat→Nat→Rat}{i v:Nat}{l l':List ZC}{d:List Bool}(I:OutI m M o i l d)(hM:M≤64)(hi:i<m)(hm:m≤3)(hv:v<m)(h0:d.getD v false=false)(hT:∀r∈l',TrB (m+2) r)(hl:l'.length≤l.length+l.length*l.length)(he:Zp9 (m+2) (l.map kr) v (i+1) (l'.map kr)):OutI m M o (i+1) l' (d.set v true):=by
 obtain ⟨E,e1,e2,e3,e4⟩:=I.K
 have hvd:v<d.length:=by rw [I.dl];exact hv
 have hlen:=I.len
 have hsq:l.length*l.length≤Zbs i*Zbs i:=Nat.mul_le_mul hlen hlen
 refine ⟨by rw [List.length_set];exact I.dl,hT,?_,by rw [ZjN hvd h0,I.cn,if_pos hv],v::E,by rw [List.length_cons,e1],fun u hu=>?_,fun u hu=>?_,e4.step hM (by omega) (by rw [e1]) he⟩
 ·match i,hi with
  | 0,_=>simp only [Zbs] at*;omega
  | 1,_=>simp only [Zbs] at*;omega
  | 2,_=>simp only [Zbs] at*;omega
  | i+3,h=>omega
 ·rw [Zpa hvd,List.mem_cons]
  by_cases h:u=v
  ·rw [if_pos h];exact ⟨fun _=>.inl h,fun _=>rfl⟩
  ·rw [if_neg h,e2 u hu];exact ⟨fun h9=>.inr h9,fun h9=>h9.resolve_left h⟩
 ·rcases List.mem_cons.1 hu with h|h
  ·subst h;exact hv
  ·exact e3 u h
def Znc(p:ZK)(i:Nat)(b:List ZC × List Bool):St:=if i=0 then Z8 p b.1 b.2 else YS p b.1 b.2 (i+1)
theorem Zvf{i:Nat}(h:i≤2):Zbs i≤9000:=by
 match i,h with
 | 0,_=>simp [Zbs]
 | 1,_=>simp [Zbs]
 | 2,_=>simp [Zbs]
theorem Zr7(i:Nat):Zbs i≤100000000:=by
 unfold Zbs;split <;>omega
theorem ZuX{M:Nat}{o:Nat→Nat→Rat}{l0:List ZC}{d0:List Bool}(hp:p.Vars=(m:Int))(hm:m≤3)(hM:M≤64)(I0:OutI m M o 0 l0 d0):
  ∃ex t,Zk Tryz.prog (tab (n+4)) 0 115 (Za 29) 16 ZE (Z8 p l0 d0)=some (ex,t)∧
  ((ex=.exit 2∧∃l d,(t=WQ p l∨t=WC p l)∧(m=0→l=l0∧t=WQ p l)∧(m≠0→t=WC p l)∧OutI m M o m l d)∨(ex=.ret∧∃l,t=VZ p l∨t=Uc p l∨t=Uf p l∨t=V8 p l)):=
 Q3 (O:=tab (n+4)) (P:= Tryz.prog) (m:=0) (N:=115) (lives:=Za 29) (r:=16) (C:=ZE) (M:=m) (enc:=fun i b=>Znc p i b)
  (fun i b=>OutI m M o i b.1 b.2∧(i=0→b.1=l0)) (fun ex t=>(ex=.exit 2∧∃l d,(t=WQ p l∨t=WC p l)∧(m=0→l=l0∧t=WQ p l)∧(m≠0→t=WC p l)∧OutI m M o m l d)∨(ex=.ret∧∃l,t=VZ p l∨t=Uc p l∨t=Uf p l∨t=V8 p l))
  (l0,d0) ⟨I0,fun _=>rfl⟩ (by omega)
  (fun i b hi hI=>by
   obtain ⟨l,d⟩:=b
   obtain ⟨I,_⟩:=hI
   dsimp only at I
   have hll:=I.len
   have h9000:=Zvf (i:=i) (by omega)
   by_cases h0:i=0
   ·subst h0
    obtain ⟨b,fz,L2,B⟩:=Zvt (n:=n) hp hm I.dl I.T (by omega)
    obtain ⟨v,rfl,hv,hdv⟩:=B.out (by rw [I.cn];exact hi)
    obtain ⟨z,K3⟩:=KX (n:=n+3) (v:=v) I.T (by omega) (by omega)
    by_cases c4:(20000:Int)<(z:Int)
    ·exact .inr ⟨.ret,_,by simp,Zkw (by rw [hp];omega) L2 K3 c4,.inr ⟨rfl,_,.inl rfl⟩⟩
    ·obtain ⟨l',ok,K5,h5⟩:=ZgK (n:=n+1) (v:=v) (k:=1) I.T (by omega) (by omega) (by omega) (by omega)
     cases ok with
     | false=>exact .inr ⟨.ret,_,by simp,Zlk (by rw [hp];omega) L2 K3 c4 K5 rfl,.inr ⟨rfl,_,.inr (.inl rfl)⟩⟩
     | true=>
       obtain ⟨a1,a2,a3⟩:=h5 rfl
       have R:=Zkh (n:=n) (out_16:=d) (by rw [hp];omega) L2 K3 c4 K5 rfl (by rw [Int.toNat_natCast,I.dl];exact hv) (by omega)
       rw [Int.toNat_natCast] at R
       exact .inl ⟨(l',d.set v true),R,I.next hM hi hm hv hdv a1 a2 a3,fun h=>by omega⟩
   ·obtain ⟨b,L2,B⟩:=ZrY (n:=n) (k:=i+1) hp hm I.dl I.T (by omega)
    obtain ⟨v,rfl,hv,hdv⟩:=B.out (by rw [I.cn];exact hi)
    obtain ⟨z,K3⟩:=KX (n:=n+3) (v:=v) I.T (by omega) (by omega)
    have e1:Znc p i (l,d)=YS p l d (i+1):=if_neg h0
    have e2:∀b,Znc p (i+1) b=YS p b.1 b.2 (i+1+1):=fun b=>if_neg (by omega)
    by_cases c4:(20000:Int)<(z:Int)
    ·exact .inr ⟨.ret,_,by simp,by rw [e1];exact Zh6 (by rw [hp];omega) L2 K3 c4,.inr ⟨rfl,_,.inr (.inr (.inl rfl))⟩⟩
    ·obtain ⟨l',ok,K5,h5⟩:=ZgK (n:=n+1) (v:=v) (k:=i+1) I.T (by omega) (by omega) (by omega) (by omega)
     cases ok with
     | false=>exact .inr ⟨.ret,_,by simp,by rw [e1];exact Zij (by rw [hp];omega) L2 K3 c4 K5 rfl,.inr ⟨rfl,_,.inr (.inr (.inr rfl))⟩⟩
     | true=>
       obtain ⟨a1,a2,a3⟩:=h5 rfl
       have R:=Zho (n:=n) (i_16b:=i+1) (out_16b:=d) (by rw [hp];omega) L2 K3 c4 K5 rfl (by rw [Int.toNat_natCast,I.dl];exact hv) (by omega) ⟨by omega,by omega⟩
       rw [Int.toNat_natCast] at R
       exact .inl ⟨(l',d.set v true),by rw [e1,e2];exact R,I.next hM hi hm hv hdv a1 a2 a3,fun h=>by omega⟩)
  (fun b hI=>by
   obtain ⟨l,d⟩:=b
   obtain ⟨I,h0⟩:=hI
   dsimp only at I h0
   by_cases hm0:m=0
   ·have e1:Znc p m (l,d)=Z8 p l d:=if_pos hm0
    exact ⟨.exit 2,_,by simp,by rw [e1];exact Zlo (by rw [hp];omega),.inl ⟨rfl,l,d,.inl rfl,fun _=>⟨h0 hm0,rfl⟩,fun h=>absurd hm0 h,I⟩⟩
   ·have e1:Znc p m (l,d)=YS p l d (m+1):=if_neg hm0
    exact ⟨.exit 2,_,by simp,by rw [e1];exact Zif (by rw [hp];omega),.inl ⟨rfl,l,d,.inr rfl,fun h=>absurd h hm0,fun _=>rfl,I⟩⟩)
theorem Zr5{f:Zf}{Q:List Zf}(hm:m≤3)(hQ:∀g∈Q,FB 2 g∧InR m g.1)(hn:Q.length≤7)(hf:FB 2 f)(hi:InR m f.1):
  ∃(s:Int) (z:Rat),run (n+4) 29 [XY ⟨(m:Int),Q,f⟩]=some (.tup [.lit (.int .i64 s),Zn z])∧(s=0∨MinG (AtT m (Ux m f Q)) s z)∧(s≠1→z=0)∧H z≤2:=by
 obtain ⟨p,hpe⟩:∃p:ZK,p=⟨(m:Int),Q,f⟩:=⟨_,rfl⟩
 have hp:p.Vars=(m:Int):=by rw [hpe]
 have hpR:p.Rows=Q:=by rw [hpe]
 have hpO:p.Objective=f:=by rw [hpe]
 rw [←hpe]
 have H0:H 0≤2:=by decide+kernel
 have K1:run (n+3) 62 [.lit (.int .i64 p.Vars)]=some (Ze (Zag (m:Int))):=by rw [hp];exact ZA3 _
 obtain ⟨K20,K4⟩:=Zx4 (n:=n) hf hi (by omega)
 have K2:run (n+3) 61 [Ze (Zag (m:Int)),Ze p.Objective]=some (Ze (Vt m f)):=by rw [hpO];exact K20
 have hT:=ZuH hf hi (by omega) hQ
 have e7:[Vt m f,Zbx m f]++p.Rows=Ux m f Q:=by rw [hpR];rfl
 have M5:p.Rows.length+2≤100000000:=by rw [hpR];omega
 have C6:¬(62:Int)<((p.Rows.length:Int)+2):=by rw [hpR];omega
 have hlen:(Ux m f Q).length=Q.length+2:=by unfold Ux;simp
 obtain ⟨ex,t,L8,h8⟩:=ZxO (n:=n) (m:=m) (p:=p) (R:=Ux m f Q) hp hm (fun g hg=>(hT g hg).1.l) (by omega)
 rcases h8 with ⟨rfl,l0,rfl,S⟩|⟨rfl,l0,rfl⟩
 ·have hrow:∀r∈l0,∃j g,(Ux m f Q)[j]?=some g∧l0[j]?=some r∧Zmg g (m+1) r.c∧r.from_=((2 ^ j:Nat):Int)∧j<(Ux m f Q).length:=fun r hr=>by
   obtain ⟨j,hj⟩:=List.mem_iff_getElem?.1 hr
   have hjl:=(List.getElem?_eq_some_iff.1 hj).1
   rw [S.len] at hjl
   have hg:(Ux m f Q)[j]?=some (Ux m f Q)[j]:=List.getElem?_eq_getElem hjl
   obtain ⟨a,b⟩:=S.row j _ r hg hj
   exact ⟨j,_,hg,hj,a,b,hjl⟩
  have hT0:∀r∈l0,TrB (m+2) r:=fun r hr=>by
   obtain ⟨j,g,a1,a2,a3,a4,a5⟩:=hrow r hr
   have h2:(2:Nat) ^ j≤2 ^ 9:=Nat.pow_le_pow_right (by omega) (by omega)
   obtain ⟨w,hw⟩:∃w:Nat,(2:Nat) ^ j=w:=⟨_,rfl⟩
   rw [hw] at h2 a4
   exact ⟨by rw [a3.len],a3.bd,by rw [a4];omega,by rw [a4];omega⟩
  have hl0:l0.length=(Ux m f Q).length:=S.len
  have hInv:Inv (Ux m f Q).length (m+2) (oF l0) [] (l0.map kr):=Inv.start
   (fun r hr=>by
    obtain ⟨s,hs,rfl⟩:=List.mem_map.1 hr
    obtain ⟨j,g,a1,a2,a3,a4,a5⟩:=hrow s hs
    refine ⟨j,a5,by show s.from_.toNat=_;rw [a4];exact Int.toNat_natCast _,fun u hu=>?_⟩
    have e:l0.getD j ⟨[],0⟩=s:=by rw [List.getD_eq_getElem?_getD,a2];rfl
    show ((s.c.getD u 0:Int):Rat)=oF l0 j u
    unfold oF
    rw [e])
   (fun i hi=>by
    have hx:l0[i]?=some (l0[i]'(by omega)):=List.getElem?_eq_getElem (by omega)
    obtain ⟨_,b⟩:=S.row i _ _ (List.getElem?_eq_getElem hi) hx
    exact ⟨kr _,List.mem_map_of_mem (List.mem_of_getElem? hx),by show (l0[i]'(by omega)).from_.toNat=_;rw [b];exact Int.toNat_natCast _⟩)
  have I0:OutI m (Ux m f Q).length (oF l0) 0 l0 (List.replicate p.Vars.toNat false):=by
   rw [hp,Int.toNat_natCast]
   exact ⟨List.length_replicate,hT0,by rw [hl0,hlen];simp only [Zbs];omega,ZgT m m,[],rfl,fun v hv=>by rw [List.getD_eq_getElem?_getD,List.getElem?_replicate,if_pos hv];simp,(fun v hv=>by cases hv),hInv⟩
  have M8:p.Vars.toNat≤100000000:=by rw [hp];omega
  have C9:0≤p.Vars:=by rw [hp];omega
  obtain ⟨ex,t,L16,h16⟩:=ZuX (n:=n) hp hm (by omega) I0
  rw [←e7] at L8
  have fin:∀(l:List ZC) (d:List Bool),OutI m (Ux m f Q).length (oF l0) m l d→∃(s:Int) (z:Rat),run (n+3) 66 [.sl 2 (l.map Ye),.lit (.int .i64 p.Vars)]=some (.tup [.lit (.int .i64 s),Zn z])∧MinG (AtT m (Ux m f Q)) s z∧(s≠1→z=0)∧H z≤2:=fun l d I=>by
   obtain ⟨s,z,K,G,h1,h2⟩:=Zuu (n:=n+3) (m:=m) I.T (by have:=I.len;have:=Zr7 m;omega) (by omega)
   rw [←hp] at K
   refine ⟨s,z,K,G.congr fun t=>?_,h1,h2⟩
   obtain ⟨E,e1,e2,e3,e4⟩:=I.K
   rw [←Zlp (fun g hg=>⟨(hT g hg).1.s,(hT g hg).2⟩) hl0 (fun i g r a b=>(S.row i g r a b).1) t,←e4.project (fun j hj=>(e2 j hj).1 (ZiI I.cn j hj)) e3 t]
   constructor
   ·intro h r hr
    obtain ⟨s,hs,rfl⟩:=List.mem_map.1 hr
    exact h _ (List.mem_map_of_mem hs)
   ·intro h r hr
    obtain ⟨s,hs,rfl⟩:=List.mem_map.1 hr
    exact h _ (List.mem_map_of_mem hs)
  have K4':=K4
  rcases h16 with ⟨rfl,l,d,_,hc1,hc2,I⟩|⟨rfl,l,hc⟩
  ·obtain ⟨s,z,K,G,h1,h2⟩:=fin l d I
   by_cases hm0:m=0
   ·obtain ⟨rfl,rfl⟩:=hc1 hm0
    exact ⟨s,z,Zve K1 K2 K4 M5 C6 L8 M8 C9 L16 K,.inr G,h1,h2⟩
   ·obtain rfl:=hc2 hm0
    exact ⟨s,z,Zt1 K1 K2 K4 M5 C6 L8 M8 C9 L16 K,.inr G,h1,h2⟩
  ·refine ⟨0,0,?_,.inl rfl,fun _=>rfl,H0⟩
   rw [ZgQ]
   rcases hc with rfl|rfl|rfl|rfl
   ·exact ZuO K1 K2 K4 M5 C6 L8 M8 C9 L16
   ·exact Zus K1 K2 K4 M5 C6 L8 M8 C9 L16
   ·exact Zt8 K1 K2 K4 M5 C6 L8 M8 C9 L16
   ·exact Zvg K1 K2 K4 M5 C6 L8 M8 C9 L16
 ·rw [←e7] at L8
  exact ⟨0,0,by rw [ZgQ];exact Zv2 K1 K2 K4 M5 C6 L8,.inl rfl,fun _=>rfl,H0⟩
end
end
section
open Go.RowKit
noncomputable def Vk:Code:=(Zb (ZP Tryz.f44)).getD 0 .skip
def XH(a0:List Zf)(a1:Int)(i_2:Nat):St:=
 ⟨[(1,.lit (.int .i64 a1)),(7,.sl 4 (a0.map Zh)),(8,.lit (.int .i64 (a0.length:Int))),(9,.lit (.int .i64 (i_2:Int)))],
  [],0⟩
def Zaj:St:=
 ⟨[(4,.lit (.bool false))],
  [],0⟩
def Zak:St:=
 ⟨[(4,.any)],
  [],0⟩
section
variable{q3:Rat}{a0:List Zf}{r3:Bool}{a1:Int}{i_2:Nat}{n:Nat}{F3:List (Int × Rat)}
section
variable(C1:(i_2:Int)<(a0.length:Int))(E2:a0[i_2]?=some (F3,q3))(K3:run n 67 [Ze (F3,q3),.lit (.int .i64 a1)]=some (.lit (.bool r3)))
include C1 E2 K3
theorem Zpr(C4:r3=true)(W5:InI ((i_2:Int)+1)):
  Zm 0 (exec Tryz.prog (tab (n+1)) 0 18 (Za 44) big Vk) (Za 44 2) (XH a0 a1 i_2) (XH a0 a1 (i_2+1)):=by
 have C1_:i_2<a0.length:=by omega
 obtain ⟨EL2,EG2⟩:=List.getElem?_eq_some_iff.1 E2
 simp only [Ze] at K3
 have W5_:IntKind.i64.wrap ((i_2:Int)+1)=(i_2:Int)+1:=Zq W5.1 W5.2
 unfold Zm
 simp+decide [XH,Zb, Tryz.f44,Vk,C1,C1_,EG2,K3,C4,W5_]
theorem Zpf(C4:r3=false):
  Zj 0 (exec Tryz.prog (tab (n+1)) 0 18 (Za 44) big Vk) (Za 44 (Zo 2)) (XH a0 a1 i_2) (.ret) (Zaj):=by
 have C1_:i_2<a0.length:=by omega
 obtain ⟨EL2,EG2⟩:=List.getElem?_eq_some_iff.1 E2
 simp only [Ze] at K3
 unfold Zj
 simp+decide [XH,Zb, Tryz.f44,Zaj,Vk,C1,C1_,EG2,K3,C4]
end
theorem ZmB(C1:¬(i_2:Int)<(a0.length:Int)):
  Zj 0 (exec Tryz.prog (tab (n+1)) 0 18 (Za 44) big Vk) (Za 44 (Zo 2)) (XH a0 a1 i_2) (.exit 0) (Zak):=by
 unfold Zj
 simp+decide [XH,Zb, Tryz.f44,Zak,Vk,C1]
theorem Zwg(L1:Zk Tryz.prog (tab (n+1)) 0 18 (Za 44) 2 Vk (XH a0 a1 0)=some (.ret,Zaj)):
  run (n+1) 44 [.sl 4 (a0.map Zh),.lit (.int .i64 a1)]=some (.lit (.bool false)):=by
 unfold run fnP
 simp+decide [Tryz.f44]
 rw [Zi (C':=Vk) (e:=(XH a0 a1 0)) ?_ ?_,L1]
 rotate_left
 ·kernel_rfl
 ·simp+decide [XH]
 simp+decide [Zaj]
theorem Zwc(L1:Zk Tryz.prog (tab (n+1)) 0 18 (Za 44) 2 Vk (XH a0 a1 0)=some (.exit 0,Zak)):
  run (n+1) 44 [.sl 4 (a0.map Zh),.lit (.int .i64 a1)]=some (.lit (.bool true)):=by
 unfold run fnP
 simp+decide [Tryz.f44]
 rw [Zi (C':=Vk) (e:=(XH a0 a1 0)) ?_ ?_,L1]
 rotate_left
 ·kernel_rfl
 ·simp+decide [XH]
 simp+decide [Zak]
end
noncomputable def X4:Code:=(Zb (ZP Tryz.f17)).getD 0 .skip
noncomputable def Xi:Code:=(Zb (ZP Tryz.f17)).getD 1 .skip
noncomputable def Ws:Code:=(Zb Xi).getD 0 .skip
def QA(a0:List Zf)(a1:Int)(out_6:List Zf)(out2_6:List Zf)(i_6:Nat)(out3_6:List Zf)(mp_6:List (ByteArray × Value)):St:=
 ⟨[(1,.lit (.int .i64 a1)),(6,.ptr 0 0),(7,.own 3 out_6.length),(8,.own 4 out2_6.length),(27,.sl 4 (a0.map Zh)),(28,.lit (.int .i64 (a0.length:Int))),(29,.lit (.int .i64 (i_6:Int)))],
  [(0,some (.box 78 [.own 1 out3_6.length,.mp 2] false)),
   (1,some (.row 28 4 (out3_6.map Zh) 0)),
   (2,some (.mp mp_6)),
   (3,some (.row 28 4 (out_6.map Zh) 0)),
   (4,some (.row 28 4 (out2_6.map Zh) 0))],5⟩
def Q0(a1:Int)(out2_6:List Zf)(out_6:List Zf)(i_16:Nat)(i_20:Nat)(out_20:List Zf)(mp_20:List (ByteArray × Value))(F12:List (Int × Rat))(q12:Rat)(r31:Rat):St:=
 ⟨[(1,.lit (.int .i64 a1)),(6,.ptr 0 0),(8,.own 3 out2_6.length),(12,.ptr 4 0),(13,.ptr 5 0),(53,.own 6 out_6.length),(54,.lit (.int .i64 (out_6.length:Int))),(55,.lit (.int .i64 (i_16:Int))),(62,.own 3 out2_6.length),(63,.lit (.int .i64 (out2_6.length:Int))),(64,.lit (.int .i64 (i_20:Int)))],
  [(0,some (.box 78 [.own 1 out_20.length,.mp 2] false)),
   (1,some (.row 28 4 (out_20.map Zh) 0)),
   (2,some (.mp mp_20)),
   (3,some (.row 28 4 (out2_6.map Zh) 0)),
   (4,some (.box 28 [.sl 4 (F12.map Zr),.lit (.bool (Zd q12).s),Zc (Zd q12).l1,Zc (Zd q12).l2] false)),
   (5,some (.box 26 [.lit (.bool (Zd r31).s),Zc (Zd r31).l1,Zc (Zd r31).l2] false)),
   (6,some (.row 28 4 (out_6.map Zh) 0))],7⟩
def Wz(a1:Int)(out2_6:List Zf)(out_6:List Zf)(i_16:Nat)(out_16:List Zf)(mp_16:List (ByteArray × Value)):St:=
 ⟨[(1,.lit (.int .i64 a1)),(6,.ptr 0 0),(8,.own 3 out2_6.length),(53,.own 4 out_6.length),(54,.lit (.int .i64 (out_6.length:Int))),(55,.lit (.int .i64 (i_16:Int)))],
  [(0,some (.box 78 [.own 1 out_16.length,.mp 2] false)),
   (1,some (.row 28 4 (out_16.map Zh) 0)),
   (2,some (.mp mp_16)),
   (3,some (.row 28 4 (out2_6.map Zh) 0)),
   (4,some (.row 28 4 (out_6.map Zh) 0))],5⟩
def KO(a1:Int)(out_6:List Zf)(out2_6:List Zf)(out3_6:List Zf)(mp_6:List (ByteArray × Value)):St:=
 ⟨[(1,.lit (.int .i64 a1)),(6,.ptr 0 0),(7,.own 3 out_6.length),(8,.own 4 out2_6.length)],
  [(0,some (.box 78 [.own 1 out3_6.length,.mp 2] false)),
   (1,some (.row 28 4 (out3_6.map Zh) 0)),
   (2,some (.mp mp_6)),
   (3,some (.row 28 4 (out_6.map Zh) 0)),
   (4,some (.row 28 4 (out2_6.map Zh) 0))],5⟩
def VY(a1:Int)(out2_6:List Zf)(out_6:List Zf)(i_16:Nat)(out_20:List Zf)(mp_20:List (ByteArray × Value)):St:=
 ⟨[(1,.lit (.int .i64 a1)),(6,.ptr 0 0),(8,.own 3 out2_6.length),(53,.own 4 out_6.length),(54,.lit (.int .i64 (out_6.length:Int))),(55,.lit (.int .i64 (i_16:Int)))],
  [(0,some (.box 78 [.own 1 out_20.length,.mp 2] false)),
   (1,some (.row 28 4 (out_20.map Zh) 0)),
   (2,some (.mp mp_20)),
   (3,some (.row 28 4 (out2_6.map Zh) 0)),
   (4,some (.row 28 4 (out_6.map Zh) 0))],5⟩
def Ud(out_16:List Zf)(mp_16:List (ByteArray × Value)):St:=
 ⟨[(6,.ptr 0 0)],
  [(0,some (.box 78 [.own 1 out_16.length,.mp 2] false)),
   (1,some (.row 28 4 (out_16.map Zh) 0)),
   (2,some (.mp mp_16))],3⟩
section
variable{out2_6:List Zf}{q3:Rat}{a0:List Zf}{a1:Int}{mp_6:List (ByteArray × Value)}{i_6:Nat}{n:Nat}{F3:List (Int × Rat)}{out3_6:List Zf}{r4:Rat}{out_6:List Zf}{mR3:List (ByteArray × Value)}{R3:List Zf}{r42:Zf}{F12:List (Int × Rat)}{r40:Rat}{q12:Rat}{r31:Rat}{r43:Zf}{out_20:List Zf}{q15:Rat}{i_20:Nat}{mp_20:List (ByteArray × Value)}{F15:List (Int × Rat)}{i_16:Nat}{r41:Zf}{mR12:List (ByteArray × Value)}{R12:List Zf}{out_16:List Zf}{mp_16:List (ByteArray × Value)}{r:Bool}
section
variable(C1:(i_6:Int)<(a0.length:Int))(E2:a0[i_6]?=some (F3,q3))(K3:run (n+8) 45 [Ze (F3,q3),.lit (.int .i64 a1)]=some (Zn r4))(B4a:H r4≤17179869184)
include C1 E2 K3 B4a
theorem Zm9(C5:sgR r4=0)(K6:Zp (n+8) 46 [.ptr 0 0,Ze (F3,q3)] [.box 78 [.own 1 out3_6.length,.mp 2] false,.row 28 4 (out3_6.map Zh) 0,.mp mp_6]=some (.tup [],[(0,.box 78 [.own 1 out3_6.length,.mp 2] false),(1,.row 28 4 (out3_6.map Zh) 0),(2,.mp mp_6)]))(W7:InI ((i_6:Int)+1)):
  Zm 0 (exec Tryz.prog (tab (n+9)) 0 93 (Za 17) big X4) (Za 17 6) (QA a0 a1 out_6 out2_6 i_6 out3_6 mp_6) (QA a0 a1 out_6 out2_6 (i_6+1) out3_6 mp_6):=by
 have C1_:i_6<a0.length:=by omega
 obtain ⟨EL2,EG2⟩:=List.getElem?_eq_some_iff.1 E2
 simp only [Zn,Ze] at K3
 have K4:=Yy (p:=r4) B4a
 have C5_:(sgR r4==0)=true:=by rw [C5];simp
 simp only [Ze] at K6
 have W7_:IntKind.i64.wrap ((i_6:Int)+1)=(i_6:Int)+1:=Zq W7.1 W7.2
 unfold Zm
 simp+decide [QA,Zb, Tryz.f17,X4,C1,C1_,EG2,K3,K4,C5_,K6,W7_]
theorem Zqe(C5:sgR r4=0)(K6:Zp (n+8) 46 [.ptr 0 0,Ze (F3,q3)] [.box 78 [.own 1 out3_6.length,.mp 2] false,.row 28 4 (out3_6.map Zh) 0,.mp mp_6]=some (.tup [],[(0,.box 78 [.own 6 R3.length,.mp 2] false),(2,.mp mR3),(6,.row 28 4 (R3.map Zh) 0)]))(W7:InI ((i_6:Int)+1)):
  Zm 0 (exec Tryz.prog (tab (n+9)) 0 93 (Za 17) big X4) (Za 17 6) (QA a0 a1 out_6 out2_6 i_6 out3_6 mp_6) (QA a0 a1 out_6 out2_6 (i_6+1) R3 mR3):=by
 have C1_:i_6<a0.length:=by omega
 obtain ⟨EL2,EG2⟩:=List.getElem?_eq_some_iff.1 E2
 simp only [Zn,Ze] at K3
 have K4:=Yy (p:=r4) B4a
 have C5_:(sgR r4==0)=true:=by rw [C5];simp
 simp only [Ze] at K6
 have W7_:IntKind.i64.wrap ((i_6:Int)+1)=(i_6:Int)+1:=Zq W7.1 W7.2
 unfold Zm
 simp+decide [QA,Zb, Tryz.f17,X4,C1,C1_,EG2,K3,K4,C5_,K6,W7_]
theorem Zpq(C5:¬sgR r4=0)(C6:sgR r4=1)(M7:out_6.length+1≤100000000)(W8:InI ((i_6:Int)+1)):
  Zm 0 (exec Tryz.prog (tab (n+9)) 0 93 (Za 17) big X4) (Za 17 6) (QA a0 a1 out_6 out2_6 i_6 out3_6 mp_6) (QA a0 a1 (out_6++[(F3,q3)]) out2_6 (i_6+1) out3_6 mp_6):=by
 have C1_:i_6<a0.length:=by omega
 obtain ⟨EL2,EG2⟩:=List.getElem?_eq_some_iff.1 E2
 simp only [Zn,Ze] at K3
 have K4:=Yy (p:=r4) B4a
 have C5_:(sgR r4==0)=false:=by simpa using C5
 have C6_:(sgR r4==1)=true:=by rw [C6];simp
 have M7_:∀b,b≤10000→ZT (out_6.length+1) b=true:=fun b hb=>ZD M7 hb
 have W8_:IntKind.i64.wrap ((i_6:Int)+1)=(i_6:Int)+1:=Zq W8.1 W8.2
 unfold Zm
 simp+decide [QA,Zb, Tryz.f17,X4,C1,C1_,EG2,K3,K4,C5_,C6_,M7_,W8_]
theorem Zn6(C5:¬sgR r4=0)(C6:¬sgR r4=1)(M7:out2_6.length+1≤100000000)(W8:InI ((i_6:Int)+1)):
  Zm 0 (exec Tryz.prog (tab (n+9)) 0 93 (Za 17) big X4) (Za 17 6) (QA a0 a1 out_6 out2_6 i_6 out3_6 mp_6) (QA a0 a1 out_6 (out2_6++[(F3,q3)]) (i_6+1) out3_6 mp_6):=by
 have C1_:i_6<a0.length:=by omega
 obtain ⟨EL2,EG2⟩:=List.getElem?_eq_some_iff.1 E2
 simp only [Zn,Ze] at K3
 have K4:=Yy (p:=r4) B4a
 have C5_:(sgR r4==0)=false:=by simpa using C5
 have C6_:(sgR r4==1)=false:=by simpa using C6
 have M7_:∀b,b≤10000→ZT (out2_6.length+1) b=true:=fun b hb=>ZD M7 hb
 have W8_:IntKind.i64.wrap ((i_6:Int)+1)=(i_6:Int)+1:=Zq W8.1 W8.2
 unfold Zm
 simp+decide [QA,Zb, Tryz.f17,X4,C1,C1_,EG2,K3,K4,C5_,C6_,M7_,W8_]
end
theorem ZnD(C1:¬(i_6:Int)<(a0.length:Int)):
  Zj 0 (exec Tryz.prog (tab (n+9)) 0 93 (Za 17) big X4) (Za 17 (Zo 6)) (QA a0 a1 out_6 out2_6 i_6 out3_6 mp_6) (.exit 0) (KO a1 out_6 out2_6 out3_6 mp_6):=by
 unfold Zj
 simp+decide [QA,Zb, Tryz.f17,KO,X4,C1]
section
variable(C1:(i_20:Int)<(out2_6.length:Int))(G2:i_20<out2_6.length)(E3:out2_6[i_20]?=some (F15,q15))(K4:run (n+8) 45 [Ze (F15,q15),.lit (.int .i64 a1)]=some (Zn r40))(B5a:H r40≤17179869184)(K6:run (n+8) 37 [Ze (F12,q12),Zn (-r40)]=some (Ze r41))(K7:run (n+8) 37 [Ze (F15,q15),Zn r31]=some (Ze r42))(K8:run (n+8) 48 [Ze r41,Ze r42]=some (Ze r43))
include C1 G2 E3 K4 B5a K6 K7 K8
theorem ZlH(K9:Zp (n+8) 46 [.ptr 0 0,Ze r43] [.box 78 [.own 1 out_20.length,.mp 2] false,.row 28 4 (out_20.map Zh) 0,.mp mp_20]=some (.tup [],[(0,.box 78 [.own 1 out_20.length,.mp 2] false),(1,.row 28 4 (out_20.map Zh) 0),(2,.mp mp_20)]))(W10:InI ((i_20:Int)+1)):
  Zm 0 (exec Tryz.prog (tab (n+9)) 0 93 (Za 17) big Ws) (Za 17 20) (Q0 a1 out2_6 out_6 i_16 i_20 out_20 mp_20 F12 q12 r31) (Q0 a1 out2_6 out_6 i_16 (i_20+1) out_20 mp_20 F12 q12 r31):=by
 have C1_:i_20<out2_6.length:=by omega
 obtain ⟨EL3,EG3⟩:=List.getElem?_eq_some_iff.1 E3
 simp only [Zn,Ze] at K4
 have K5:=Zf0 (p:=r40) B5a
 simp only [Zn,Ze] at K6
 simp only [Zn,Ze] at K7
 simp only [Ze] at K8
 simp only [Ze] at K9
 have W10_:IntKind.i64.wrap ((i_20:Int)+1)=(i_20:Int)+1:=Zq W10.1 W10.2
 unfold Zm
 simp+decide [Q0,Zb, Tryz.f17,Xi,Ws,C1,C1_,EG3,K4,K5,K6,K7,K8,K9,W10_]
theorem Zkf(K9:Zp (n+8) 46 [.ptr 0 0,Ze r43] [.box 78 [.own 1 out_20.length,.mp 2] false,.row 28 4 (out_20.map Zh) 0,.mp mp_20]=some (.tup [],[(0,.box 78 [.own 6 R12.length,.mp 2] false),(2,.mp mR12),(6,.row 28 4 (R12.map Zh) 0)]))(W10:InI ((i_20:Int)+1)):
  Zm 0 (exec Tryz.prog (tab (n+9)) 0 93 (Za 17) big Ws) (Za 17 20) (Q0 a1 out2_6 out_6 i_16 i_20 out_20 mp_20 F12 q12 r31) (Q0 a1 out2_6 out_6 i_16 (i_20+1) R12 mR12 F12 q12 r31):=by
 have C1_:i_20<out2_6.length:=by omega
 obtain ⟨EL3,EG3⟩:=List.getElem?_eq_some_iff.1 E3
 simp only [Zn,Ze] at K4
 have K5:=Zf0 (p:=r40) B5a
 simp only [Zn,Ze] at K6
 simp only [Zn,Ze] at K7
 simp only [Ze] at K8
 simp only [Ze] at K9
 have W10_:IntKind.i64.wrap ((i_20:Int)+1)=(i_20:Int)+1:=Zq W10.1 W10.2
 unfold Zm
 simp+decide [Q0,Zb, Tryz.f17,Xi,Ws,C1,C1_,EG3,K4,K5,K6,K7,K8,K9,W10_]
end
theorem ZkO(C1:¬(i_20:Int)<(out2_6.length:Int)):
  Zj 0 (exec Tryz.prog (tab (n+9)) 0 93 (Za 17) big Ws) (Za 17 (Zo 20)) (Q0 a1 out2_6 out_6 i_16 i_20 out_20 mp_20 F12 q12 r31) (.exit 5) (VY a1 out2_6 out_6 i_16 out_20 mp_20):=by
 unfold Zj
 simp+decide [Q0,Zb, Tryz.f17,VY,Xi,Ws,C1]
theorem ZlB(C1:(i_16:Int)<(out_6.length:Int))(G2:i_16<out_6.length)(E3:out_6[i_16]?=some (F12,q12))(K4:run (n+8) 45 [Ze (F12,q12),.lit (.int .i64 a1)]=some (Zn r31))(L5:Zk Tryz.prog (tab (n+9)) 0 93 (Za 17) 20 Ws (Q0 a1 out2_6 out_6 i_16 0 out_16 mp_16 F12 q12 r31)=some (.exit 5,VY a1 out2_6 out_6 i_16 out_20 mp_20))(W6:InI ((i_16:Int)+1)):
  Zm 0 (exec Tryz.prog (tab (n+9)) 0 93 (Za 17) big Xi) (Za 17 16) (Wz a1 out2_6 out_6 i_16 out_16 mp_16) (Wz a1 out2_6 out_6 (i_16+1) out_20 mp_20):=by
 have C1_:i_16<out_6.length:=by omega
 obtain ⟨EL3,EG3⟩:=List.getElem?_eq_some_iff.1 E3
 simp only [Zn,Ze] at K4
 have W6_:IntKind.i64.wrap ((i_16:Int)+1)=(i_16:Int)+1:=Zq W6.1 W6.2
 unfold Zm
 simp+decide [Wz,Zb, Tryz.f17,Xi,C1,C1_,EG3,K4]
 rw [Zi (C':=Ws) (e:=(Q0 a1 out2_6 out_6 i_16 0 out_16 mp_16 F12 q12 r31)) ?_ ?_,L5]
 rotate_left
 ·kernel_rfl
 ·simp+decide [Q0, Tryz.f17]
 simp+decide [VY, Tryz.f17,W6_]
theorem Zkb(C1:¬(i_16:Int)<(out_6.length:Int)):
  Zj 0 (exec Tryz.prog (tab (n+9)) 0 93 (Za 17) big Xi) (Za 17 (Zo 16)) (Wz a1 out2_6 out_6 i_16 out_16 mp_16) (.exit 3) (Ud out_16 mp_16):=by
 unfold Zj
 simp+decide [Wz,Zb, Tryz.f17,Ud,Xi,C1]
theorem Zvs(C1:¬a1<0)(K2:run (n+8) 44 [.sl 4 (a0.map Zh),.lit (.int .i64 4611686018427387904)]=some (.lit (.bool r)))(C3:r=true)(L4:Zk Tryz.prog (tab (n+9)) 0 93 (Za 17) 6 X4 (QA a0 a1 [] [] 0 [] [])=some (.exit 0,KO a1 out_6 out2_6 out3_6 mp_6))(L5:Zk Tryz.prog (tab (n+9)) 0 93 (Za 17) 16 Xi (Wz a1 out2_6 out_6 0 out3_6 mp_6)=some (.exit 3,Ud out_16 mp_16))(C6:¬4096<(out_16.length:Int)):
  run (n+9) 17 [.sl 4 (a0.map Zh),.lit (.int .i64 a1)]=some (.tup [.sl 4 (out_16.map Zh),.lit (.int .i64 0)]):=by
 unfold run fnP
 simp+decide [Tryz.f17,C1,K2,C3]
 rw [Zi (C':=X4) (e:=(QA a0 a1 [] [] 0 [] [])) ?_ ?_,L4]
 rotate_left
 ·kernel_rfl
 ·simp+decide [QA]
 simp+decide [KO]
 rw [Zi (C':=Xi) (e:=(Wz a1 out2_6 out_6 0 out3_6 mp_6)) ?_ ?_,L5]
 rotate_left
 ·kernel_rfl
 ·simp+decide [Wz]
 simp+decide [Ud,C6]
end
end
section
open Go.RowKit
noncomputable def XJ:Code:=(Zb (ZP Tryz.f18)).getD 0 .skip
noncomputable def Xk:Code:=(Zb (ZP Tryz.f18)).getD 1 .skip
noncomputable def Wx:Code:=(Zb Xk).getD 0 .skip
def Qu(a0:List Zf)(a1:Int)(out_5:List Zf)(out2_5:List Zf)(out3_5:List Zf)(i_5:Nat):St:=
 ⟨[(0,.sl 4 (a0.map Zh)),(1,.lit (.int .i64 a1)),(6,.own 0 out_5.length),(7,.own 1 out2_5.length),(8,.own 2 out3_5.length),(9,.lit (.int .i64 (i_5:Int)))],
  [(0,some (.row 28 4 (out_5.map Zh) 0)),
   (1,some (.row 28 4 (out2_5.map Zh) 0)),
   (2,some (.row 28 4 (out3_5.map Zh) 0))],3⟩
def QW(a1:Int)(out_19:List Zf)(out2_5:List Zf)(out3_5:List Zf)(i_16:Nat)(i_19:Nat):St:=
 ⟨[(1,.lit (.int .i64 a1)),(6,.own 0 out_19.length),(7,.own 1 out2_5.length),(8,.own 2 out3_5.length),(10,.lit (.int .i64 (i_16:Int))),(11,.lit (.int .i64 (i_19:Int)))],
  [(0,some (.row 28 4 (out_19.map Zh) 0)),
   (1,some (.row 28 4 (out2_5.map Zh) 0)),
   (2,some (.row 28 4 (out3_5.map Zh) 0))],3⟩
def Wu(a1:Int)(out_16:List Zf)(out2_5:List Zf)(out3_5:List Zf)(i_16:Nat):St:=
 ⟨[(1,.lit (.int .i64 a1)),(6,.own 0 out_16.length),(7,.own 1 out2_5.length),(8,.own 2 out3_5.length),(10,.lit (.int .i64 (i_16:Int)))],
  [(0,some (.row 28 4 (out_16.map Zh) 0)),
   (1,some (.row 28 4 (out2_5.map Zh) 0)),
   (2,some (.row 28 4 (out3_5.map Zh) 0))],3⟩
def Jk(a1:Int)(out_5:List Zf)(out2_5:List Zf)(out3_5:List Zf):St:=
 ⟨[(1,.lit (.int .i64 a1)),(4,.any),(5,.any),(6,.own 0 out_5.length),(7,.own 1 out2_5.length),(8,.own 2 out3_5.length)],
  [(0,some (.row 28 4 (out_5.map Zh) 0)),
   (1,some (.row 28 4 (out2_5.map Zh) 0)),
   (2,some (.row 28 4 (out3_5.map Zh) 0))],3⟩
def Uk(a1:Int)(out_19:List Zf)(out2_5:List Zf)(out3_5:List Zf)(i_16:Nat):St:=
 ⟨[(1,.lit (.int .i64 a1)),(6,.own 0 out_19.length),(7,.own 1 out2_5.length),(8,.own 2 out3_5.length),(10,.lit (.int .i64 (i_16:Int)))],
  [(0,some (.row 28 4 (out_19.map Zh) 0)),
   (1,some (.row 28 4 (out2_5.map Zh) 0)),
   (2,some (.row 28 4 (out3_5.map Zh) 0))],3⟩
def Ug(out_16:List Zf):St:=
 ⟨[(6,.own 0 out_16.length)],
  [(0,some (.row 28 4 (out_16.map Zh) 0))],1⟩
section
variable{q3:Rat}{out3_5:List Zf}{out2_5:List Zf}{a0:List Zf}{a1:Int}{out_5:List Zf}{n:Nat}{F3:List (Int × Rat)}{r5:Bool}{i_5:Nat}{r6:Rat}{R3:List Zf}{q21:Rat}{F20:List (Int × Rat)}{r50:Zf}{r48:Rat}{r49:Zf}{r47:Rat}{F21:List (Int × Rat)}{r51:Zf}{q20:Rat}{i_16:Nat}{i_19:Nat}{out_19:List Zf}{R12:List Zf}{out_16:List Zf}
section
variable(C1:(i_5:Int)<(a0.length:Int))(E2:a0[i_5]?=some (F3,q3))(K3:run (n+8) 21 [Ze (F3,q3),.lit (.int .i64 1099511627776)]=some (.lit (.bool r5)))(C4:r5=true)(K5:run (n+8) 22 [Ze (F3,q3),.lit (.int .i64 a1)]=some (Zn r6))(B6a:H r6≤17179869184)
include C1 E2 K3 C4 K5 B6a
theorem Zp6(C7:sgR r6=0)(K8:Zp (n+8) 49 [.own 0 out_5.length,Ze (F3,q3)] [.row 28 4 (out_5.map Zh) 0]=some (.own 0 out_5.length,[(0,.row 28 4 (out_5.map Zh) 0)]))(W9:InI ((i_5:Int)+1)):
  Zm 0 (exec Tryz.prog (tab (n+9)) 0 103 (Za 18) big XJ) (Za 18 5) (Qu a0 a1 out_5 out2_5 out3_5 i_5) (Qu a0 a1 out_5 out2_5 out3_5 (i_5+1)):=by
 have C1_:i_5<a0.length:=by omega
 obtain ⟨EL2,EG2⟩:=List.getElem?_eq_some_iff.1 E2
 simp only [Ze] at K3
 simp only [Zn,Ze] at K5
 have K6:=Yy (p:=r6) B6a
 have C7_:(sgR r6==0)=true:=by rw [C7];simp
 simp only [Ze] at K8
 have W9_:IntKind.i64.wrap ((i_5:Int)+1)=(i_5:Int)+1:=Zq W9.1 W9.2
 unfold Zm
 simp+decide [Qu,Zb, Tryz.f18,XJ,C1,C1_,EG2,K3,C4,K5,K6,C7_,K8,W9_]
theorem Zp2(C7:sgR r6=0)(K8:Zp (n+8) 49 [.own 0 out_5.length,Ze (F3,q3)] [.row 28 4 (out_5.map Zh) 0]=some (.own 3 R3.length,[(3,.row 28 4 (R3.map Zh) 0)]))(W9:InI ((i_5:Int)+1)):
  Zm 0 (exec Tryz.prog (tab (n+9)) 0 103 (Za 18) big XJ) (Za 18 5) (Qu a0 a1 out_5 out2_5 out3_5 i_5) (Qu a0 a1 R3 out2_5 out3_5 (i_5+1)):=by
 have C1_:i_5<a0.length:=by omega
 obtain ⟨EL2,EG2⟩:=List.getElem?_eq_some_iff.1 E2
 simp only [Ze] at K3
 simp only [Zn,Ze] at K5
 have K6:=Yy (p:=r6) B6a
 have C7_:(sgR r6==0)=true:=by rw [C7];simp
 simp only [Ze] at K8
 have W9_:IntKind.i64.wrap ((i_5:Int)+1)=(i_5:Int)+1:=Zq W9.1 W9.2
 unfold Zm
 simp+decide [Qu,Zb, Tryz.f18,XJ,C1,C1_,EG2,K3,C4,K5,K6,C7_,K8,W9_]
theorem Zo4(C7:¬sgR r6=0)(C8:sgR r6=1)(M9:out2_5.length+1≤100000000)(W10:InI ((i_5:Int)+1)):
  Zm 0 (exec Tryz.prog (tab (n+9)) 0 103 (Za 18) big XJ) (Za 18 5) (Qu a0 a1 out_5 out2_5 out3_5 i_5) (Qu a0 a1 out_5 (out2_5++[(F3,q3)]) out3_5 (i_5+1)):=by
 have C1_:i_5<a0.length:=by omega
 obtain ⟨EL2,EG2⟩:=List.getElem?_eq_some_iff.1 E2
 simp only [Ze] at K3
 simp only [Zn,Ze] at K5
 have K6:=Yy (p:=r6) B6a
 have C7_:(sgR r6==0)=false:=by simpa using C7
 have C8_:(sgR r6==1)=true:=by rw [C8];simp
 have M9_:∀b,b≤10000→ZT (out2_5.length+1) b=true:=fun b hb=>ZD M9 hb
 have W10_:IntKind.i64.wrap ((i_5:Int)+1)=(i_5:Int)+1:=Zq W10.1 W10.2
 unfold Zm
 simp+decide [Qu,Zb, Tryz.f18,XJ,C1,C1_,EG2,K3,C4,K5,K6,C7_,C8_,M9_,W10_]
theorem ZnH(C7:¬sgR r6=0)(C8:¬sgR r6=1)(M9:out3_5.length+1≤100000000)(W10:InI ((i_5:Int)+1)):
  Zm 0 (exec Tryz.prog (tab (n+9)) 0 103 (Za 18) big XJ) (Za 18 5) (Qu a0 a1 out_5 out2_5 out3_5 i_5) (Qu a0 a1 out_5 out2_5 (out3_5++[(F3,q3)]) (i_5+1)):=by
 have C1_:i_5<a0.length:=by omega
 obtain ⟨EL2,EG2⟩:=List.getElem?_eq_some_iff.1 E2
 simp only [Ze] at K3
 simp only [Zn,Ze] at K5
 have K6:=Yy (p:=r6) B6a
 have C7_:(sgR r6==0)=false:=by simpa using C7
 have C8_:(sgR r6==1)=false:=by simpa using C8
 have M9_:∀b,b≤10000→ZT (out3_5.length+1) b=true:=fun b hb=>ZD M9 hb
 have W10_:IntKind.i64.wrap ((i_5:Int)+1)=(i_5:Int)+1:=Zq W10.1 W10.2
 unfold Zm
 simp+decide [Qu,Zb, Tryz.f18,XJ,C1,C1_,EG2,K3,C4,K5,K6,C7_,C8_,M9_,W10_]
end
theorem Zns(C1:¬(i_5:Int)<(a0.length:Int)):
  Zj 0 (exec Tryz.prog (tab (n+9)) 0 103 (Za 18) big XJ) (Za 18 (Zo 5)) (Qu a0 a1 out_5 out2_5 out3_5 i_5) (.exit 0) (Jk a1 out_5 out2_5 out3_5):=by
 unfold Zj
 simp+decide [Qu,Zb, Tryz.f18,Jk,XJ,C1]
section
variable(C1:(i_19:Int)<(out3_5.length:Int))(G2:i_16<out2_5.length)(E3:out2_5[i_16]?=some (F20,q20))(K4:run (n+8) 22 [Ze (F20,q20),.lit (.int .i64 a1)]=some (Zn r47))(G5:i_19<out3_5.length)(E6:out3_5[i_19]?=some (F21,q21))(K7:run (n+8) 22 [Ze (F21,q21),.lit (.int .i64 a1)]=some (Zn r48))(B8a:H r48≤17179869184)(K10:run (n+8) 41 [Ze (F20,q20),Zn (-r48)]=some (Ze r49))(K12:run (n+8) 41 [Ze (F21,q21),Zn r47]=some (Ze r50))(K13:run (n+8) 50 [Ze r49,Ze r50]=some (Ze r51))
include C1 G2 E3 K4 G5 E6 K7 B8a K10 K12 K13
theorem ZlG(K14:Zp (n+8) 49 [.own 0 out_19.length,Ze r51] [.row 28 4 (out_19.map Zh) 0]=some (.own 0 out_19.length,[(0,.row 28 4 (out_19.map Zh) 0)]))(W15:InI ((i_19:Int)+1)):
  Zm 0 (exec Tryz.prog (tab (n+9)) 0 103 (Za 18) big Wx) (Za 18 19) (QW a1 out_19 out2_5 out3_5 i_16 i_19) (QW a1 out_19 out2_5 out3_5 i_16 (i_19+1)):=by
 have C1_:i_19<out3_5.length:=by omega
 obtain ⟨EL3,EG3⟩:=List.getElem?_eq_some_iff.1 E3
 simp only [Zn,Ze] at K4
 obtain ⟨EL6,EG6⟩:=List.getElem?_eq_some_iff.1 E6
 simp only [Zn,Ze] at K7
 have K8:=Zf0 (p:=r48) B8a
 simp only [Zn,Ze] at K10
 simp only [Zn,Ze] at K12
 simp only [Ze] at K13
 simp only [Ze] at K14
 have W15_:IntKind.i64.wrap ((i_19:Int)+1)=(i_19:Int)+1:=Zq W15.1 W15.2
 unfold Zm
 simp+decide [QW,Zb, Tryz.f18,Xk,Wx,C1,C1_,G2,EG3,K4,EG6,K7,K8,K10,K12,K13,K14,W15_]
theorem ZkI(K14:Zp (n+8) 49 [.own 0 out_19.length,Ze r51] [.row 28 4 (out_19.map Zh) 0]=some (.own 3 R12.length,[(3,.row 28 4 (R12.map Zh) 0)]))(W15:InI ((i_19:Int)+1)):
  Zm 0 (exec Tryz.prog (tab (n+9)) 0 103 (Za 18) big Wx) (Za 18 19) (QW a1 out_19 out2_5 out3_5 i_16 i_19) (QW a1 R12 out2_5 out3_5 i_16 (i_19+1)):=by
 have C1_:i_19<out3_5.length:=by omega
 obtain ⟨EL3,EG3⟩:=List.getElem?_eq_some_iff.1 E3
 simp only [Zn,Ze] at K4
 obtain ⟨EL6,EG6⟩:=List.getElem?_eq_some_iff.1 E6
 simp only [Zn,Ze] at K7
 have K8:=Zf0 (p:=r48) B8a
 simp only [Zn,Ze] at K10
 simp only [Zn,Ze] at K12
 simp only [Ze] at K13
 simp only [Ze] at K14
 have W15_:IntKind.i64.wrap ((i_19:Int)+1)=(i_19:Int)+1:=Zq W15.1 W15.2
 unfold Zm
 simp+decide [QW,Zb, Tryz.f18,Xk,Wx,C1,C1_,G2,EG3,K4,EG6,K7,K8,K10,K12,K13,K14,W15_]
end
theorem Zlc(C1:¬(i_19:Int)<(out3_5.length:Int)):
  Zj 0 (exec Tryz.prog (tab (n+9)) 0 103 (Za 18) big Wx) (Za 18 (Zo 19)) (QW a1 out_19 out2_5 out3_5 i_16 i_19) (.exit 5) (Uk a1 out_19 out2_5 out3_5 i_16):=by
 unfold Zj
 simp+decide [QW,Zb, Tryz.f18,Uk,Xk,Wx,C1]
theorem ZlA(C1:(i_16:Int)<(out2_5.length:Int))(L2:Zk Tryz.prog (tab (n+9)) 0 103 (Za 18) 19 Wx (QW a1 out_16 out2_5 out3_5 i_16 0)=some (.exit 5,Uk a1 out_19 out2_5 out3_5 i_16))(W3:InI ((i_16:Int)+1)):
  Zm 0 (exec Tryz.prog (tab (n+9)) 0 103 (Za 18) big Xk) (Za 18 16) (Wu a1 out_16 out2_5 out3_5 i_16) (Wu a1 out_19 out2_5 out3_5 (i_16+1)):=by
 have W3_:IntKind.i64.wrap ((i_16:Int)+1)=(i_16:Int)+1:=Zq W3.1 W3.2
 unfold Zm
 simp+decide [Wu,Zb, Tryz.f18,Xk,C1]
 rw [Zi (C':=Wx) (e:=(QW a1 out_16 out2_5 out3_5 i_16 0)) ?_ ?_,L2]
 rotate_left
 ·kernel_rfl
 ·simp+decide [QW, Tryz.f18]
 simp+decide [Uk, Tryz.f18,W3_]
theorem Zlz(C1:¬(i_16:Int)<(out2_5.length:Int)):
  Zj 0 (exec Tryz.prog (tab (n+9)) 0 103 (Za 18) big Xk) (Za 18 (Zo 16)) (Wu a1 out_16 out2_5 out3_5 i_16) (.exit 3) (Ug out_16):=by
 unfold Zj
 simp+decide [Wu,Zb, Tryz.f18,Ug,Xk,C1]
theorem Zuy(C1:¬a1<0)(L2:Zk Tryz.prog (tab (n+9)) 0 103 (Za 18) 5 XJ (Qu a0 a1 [] [] [] 0)=some (.exit 0,Jk a1 out_5 out2_5 out3_5))(L3:Zk Tryz.prog (tab (n+9)) 0 103 (Za 18) 16 Xk (Wu a1 out_5 out2_5 out3_5 0)=some (.exit 3,Ug out_16))(C4:¬4096<(out_16.length:Int)):
  run (n+9) 18 [.sl 4 (a0.map Zh),.lit (.int .i64 a1)]=some (.tup [.sl 4 (out_16.map Zh),.lit (.int .i64 0)]):=by
 unfold run fnP
 simp+decide [Tryz.f18,C1]
 rw [Zi (C':=XJ) (e:=(Qu a0 a1 [] [] [] 0)) ?_ ?_,L2]
 rotate_left
 ·kernel_rfl
 ·simp+decide [Qu]
 simp+decide [Jk]
 rw [Zi (C':=Xk) (e:=(Wu a1 out_5 out2_5 out3_5 0)) ?_ ?_,L3]
 rotate_left
 ·kernel_rfl
 ·simp+decide [Wu]
 simp+decide [Ug,C4]
end
end
section
open Go.RowKit
noncomputable def Y6:Code:=(Zb (ZP Tryz.f67)).getD 0 .skip
def YJ(a0:Zf)(a1:Int)(i_2:Nat):St:=
 ⟨[(1,.lit (.int .i64 a1)),(2,.ptr 0 0),(8,.sl 4 (a0.1.map Zr)),(9,.lit (.int .i64 (a0.1.length:Int))),(10,.lit (.int .i64 (i_2:Int)))],
  [(0,some (.box 28 [.sl 4 (a0.1.map Zr),.lit (.bool (Zd a0.2).s),Zc (Zd a0.2).l1,Zc (Zd a0.2).l2] false))],1⟩
def Q2(a0:Zf):St:=
 ⟨[(2,.ptr 0 0),(4,.lit (.bool false))],
  [(0,some (.box 28 [.sl 4 (a0.1.map Zr),.lit (.bool (Zd a0.2).s),Zc (Zd a0.2).l1,Zc (Zd a0.2).l2] false))],1⟩
def ZaX(a0:Zf):St:=
 ⟨[(2,.ptr 0 0),(4,.any)],
  [(0,some (.box 28 [.sl 4 (a0.1.map Zr),.lit (.bool (Zd a0.2).s),Zc (Zd a0.2).l1,Zc (Zd a0.2).l2] false))],1⟩
section
variable {q5 : Rat} {v5 : Int} {a0 : Zf} {q4 : Rat} {a1 : Int} {i_2 : Nat} {n : Nat} {v4 : Int}
section
variable(C1:(i_2:Int)<(a0.1.length:Int))(E2:a0.1[i_2]?=some (v4,q4))
include C1 E2
theorem ZoK(C3:¬v4<0)(C4:¬a1≤v4)(C5:0<(i_2:Int))(W6:InI ((i_2:Int)-1))(E7:a0.1[i_2-1]?=some (v5,q5))(Z7:1≤i_2)(C8:¬v4≤v5)(B9a:H q4≤17179869184)(C10:¬sgR q4=0)(W12:InI ((i_2:Int)+1)):
  Zm 0 (exec Tryz.prog (tab n) 0 56 (Za 67) big Y6) (Za 67 2) (YJ a0 a1 i_2) (YJ a0 a1 (i_2+1)):=by
 have C1_:i_2<a0.1.length:=by omega
 obtain ⟨EL2,EG2⟩:=List.getElem?_eq_some_iff.1 E2
 have C5_:0<i_2:=by omega
 have W6_:IntKind.i64.wrap ((i_2:Int)-1)=(i_2:Int)-1:=Zq W6.1 W6.2
 obtain ⟨EL7,EG7⟩:=List.getElem?_eq_some_iff.1 E7
 have Z7_0:(1:Int)≤(i_2:Int):=by omega
 have K9:=Yy (p:=q4) B9a
 have C10_:(sgR q4==0)=false:=by simpa using C10
 have K11:=Ji (p:=q4) B9a
 have W12_:IntKind.i64.wrap ((i_2:Int)+1)=(i_2:Int)+1:=Zq W12.1 W12.2
 unfold Zm
 simp+decide [YJ,Zb, Tryz.f67,Y6,C1,C1_,EG2,C3,C4,C5_,W6_,EL7,EG7,Z7_0,C8,K9,C10_,K11,W12_]
theorem ZnO(C3:¬v4<0)(C4:¬a1≤v4)(C5:¬0<(i_2:Int))(B6a:H q4≤17179869184)(C7:¬sgR q4=0)(W9:InI ((i_2:Int)+1)):
  Zm 0 (exec Tryz.prog (tab n) 0 56 (Za 67) big Y6) (Za 67 2) (YJ a0 a1 i_2) (YJ a0 a1 (i_2+1)):=by
 have C1_:i_2<a0.1.length:=by omega
 obtain ⟨EL2,EG2⟩:=List.getElem?_eq_some_iff.1 E2
 have C5_:¬0<i_2:=by omega
 have K6:=Yy (p:=q4) B6a
 have C7_:(sgR q4==0)=false:=by simpa using C7
 have K8:=Ji (p:=q4) B6a
 have W9_:IntKind.i64.wrap ((i_2:Int)+1)=(i_2:Int)+1:=Zq W9.1 W9.2
 unfold Zm
 simp+decide [YJ,Zb, Tryz.f67,Y6,C1,C1_,EG2,C3,C4,C5_,K6,C7_,K8,W9_]
theorem Zf9(C3:v4<0):
  Zj 0 (exec Tryz.prog (tab n) 0 56 (Za 67) big Y6) (Za 67 (Zo 2)) (YJ a0 a1 i_2) (.ret) (Q2 a0):=by
 have C1_:i_2<a0.1.length:=by omega
 obtain ⟨EL2,EG2⟩:=List.getElem?_eq_some_iff.1 E2
 unfold Zj
 simp+decide [YJ,Zb, Tryz.f67,Q2,Y6,C1,C1_,EG2,C3]
theorem ZgE(C3:¬v4<0)(C4:a1≤v4):
  Zj 0 (exec Tryz.prog (tab n) 0 56 (Za 67) big Y6) (Za 67 (Zo 2)) (YJ a0 a1 i_2) (.ret) (Q2 a0):=by
 have C1_:i_2<a0.1.length:=by omega
 obtain ⟨EL2,EG2⟩:=List.getElem?_eq_some_iff.1 E2
 unfold Zj
 simp+decide [YJ,Zb, Tryz.f67,Q2,Y6,C1,C1_,EG2,C3,C4]
theorem ZpW(C3:¬v4<0)(C4:¬a1≤v4)(C5:0<(i_2:Int))(W6:InI ((i_2:Int)-1))(E7:a0.1[i_2-1]?=some (v5,q5))(Z7:1≤i_2)(C8:v4≤v5):
  Zj 0 (exec Tryz.prog (tab n) 0 56 (Za 67) big Y6) (Za 67 (Zo 2)) (YJ a0 a1 i_2) (.ret) (Q2 a0):=by
 have C1_:i_2<a0.1.length:=by omega
 obtain ⟨EL2,EG2⟩:=List.getElem?_eq_some_iff.1 E2
 have C5_:0<i_2:=by omega
 have W6_:IntKind.i64.wrap ((i_2:Int)-1)=(i_2:Int)-1:=Zq W6.1 W6.2
 obtain ⟨EL7,EG7⟩:=List.getElem?_eq_some_iff.1 E7
 have Z7_0:(1:Int)≤(i_2:Int):=by omega
 unfold Zj
 simp+decide [YJ,Zb, Tryz.f67,Q2,Y6,C1,C1_,EG2,C3,C4,C5_,W6_,EL7,EG7,Z7_0,C8]
theorem Zn4(C3:¬v4<0)(C4:¬a1≤v4)(C5:0<(i_2:Int))(W6:InI ((i_2:Int)-1))(E7:a0.1[i_2-1]?=some (v5,q5))(Z7:1≤i_2)(C8:¬v4≤v5)(B9a:H q4≤17179869184)(C10:sgR q4=0):
  Zj 0 (exec Tryz.prog (tab n) 0 56 (Za 67) big Y6) (Za 67 (Zo 2)) (YJ a0 a1 i_2) (.ret) (Q2 a0):=by
 have C1_:i_2<a0.1.length:=by omega
 obtain ⟨EL2,EG2⟩:=List.getElem?_eq_some_iff.1 E2
 have C5_:0<i_2:=by omega
 have W6_:IntKind.i64.wrap ((i_2:Int)-1)=(i_2:Int)-1:=Zq W6.1 W6.2
 obtain ⟨EL7,EG7⟩:=List.getElem?_eq_some_iff.1 E7
 have Z7_0:(1:Int)≤(i_2:Int):=by omega
 have K9:=Yy (p:=q4) B9a
 have C10_:(sgR q4==0)=true:=by rw [C10];simp
 unfold Zj
 simp+decide [YJ,Zb, Tryz.f67,Q2,Y6,C1,C1_,EG2,C3,C4,C5_,W6_,EL7,EG7,Z7_0,C8,K9,C10_]
theorem ZnU(C3:¬v4<0)(C4:¬a1≤v4)(C5:¬0<(i_2:Int))(B6a:H q4≤17179869184)(C7:sgR q4=0):
  Zj 0 (exec Tryz.prog (tab n) 0 56 (Za 67) big Y6) (Za 67 (Zo 2)) (YJ a0 a1 i_2) (.ret) (Q2 a0):=by
 have C1_:i_2<a0.1.length:=by omega
 obtain ⟨EL2,EG2⟩:=List.getElem?_eq_some_iff.1 E2
 have C5_:¬0<i_2:=by omega
 have K6:=Yy (p:=q4) B6a
 have C7_:(sgR q4==0)=true:=by rw [C7];simp
 unfold Zj
 simp+decide [YJ,Zb, Tryz.f67,Q2,Y6,C1,C1_,EG2,C3,C4,C5_,K6,C7_]
end
theorem ZnI(C1:¬(i_2:Int)<(a0.1.length:Int)):
  Zj 0 (exec Tryz.prog (tab n) 0 56 (Za 67) big Y6) (Za 67 (Zo 2)) (YJ a0 a1 i_2) (.exit 0) (ZaX a0):=by
 unfold Zj
 simp+decide [YJ,Zb, Tryz.f67,ZaX,Y6,C1]
theorem Zvm(L1:Zk Tryz.prog (tab n) 0 56 (Za 67) 2 Y6 (YJ a0 a1 0)=some (.ret,Q2 a0)):
  run n 67 [Ze a0,.lit (.int .i64 a1)]=some (.lit (.bool false)):=by
 unfold run fnP
 simp+decide [Tryz.f67]
 rw [Zi (C':=Y6) (e:=(YJ a0 a1 0)) ?_ ?_,L1]
 rotate_left
 ·kernel_rfl
 ·simp+decide [YJ]
 simp+decide [Q2]
theorem Zu3(L1:Zk Tryz.prog (tab n) 0 56 (Za 67) 2 Y6 (YJ a0 a1 0)=some (.exit 0,ZaX a0))(B2a:H a0.2≤17179869184):
  run n 67 [Ze a0,.lit (.int .i64 a1)]=some (.lit (.bool true)):=by
 have K2:=Ji (p:=a0.2) B2a
 unfold run fnP
 simp+decide [Tryz.f67]
 rw [Zi (C':=Y6) (e:=(YJ a0 a1 0)) ?_ ?_,L1]
 rotate_left
 ·kernel_rfl
 ·simp+decide [YJ]
 simp+decide [ZaX,K2]
end
end
section
open Go.RowKit
attribute [local irreducible] run Zp Zk exec
theorem Zmy{n:Nat}{f:Zf}{vars:Int}(hB:BdF 17179869184 f):run n 67 [Ze f,.lit (.int .i64 vars)]=some (.lit (.bool (tv (OkFm f vars)))):=by
 have hl:=hB.l
 have L:=Q1 (O:=tab n) (P:= Tryz.prog) (m:=0) (N:=56) (lives:=Za 67) (r:=2) (C:=Y6) (M:=f.1.length) (enc:=YJ f vars) (p:=fun i=>tv (ZuI f.1 vars i)) (exN:=.exit 0) (exE:=.ret) (out:=ZaX f) (outE:=Q2 f) (by omega) (by simp) (by simp)
  (fun i hi hI=>by
   have hx:f.1[i]?=some f.1[i]:=List.getElem?_eq_getElem hi
   generalize f.1[i]=t at hx
   obtain ⟨v,c⟩:=t
   have hc:H c≤17179869184:=hB.t _ (List.mem_of_getElem? hx)
   have C1:(i:Int)<(f.1.length:Int):=by omega
   have W:InI ((i:Int)+1):=⟨by omega,by omega⟩
   have W2:InI ((i:Int)-1):=⟨by omega,by omega⟩
   have hs:sgR c=0↔c=0:=Yi
   by_cases h0:0<i
   ·have hy:f.1[i-1]?=some (f.1[i-1]'(by omega)):=List.getElem?_eq_getElem _
    generalize f.1[i-1]'(by omega)=t at hy
    obtain ⟨v',c'⟩:=t
    refine ⟨fun hp=>?_,fun hp=>?_⟩
    ·obtain ⟨a1,a2,a3,a4⟩:=YG hp v c hx
     have a5:=a4 v' c' h0 hy
     exact ZoK C1 hx (by omega) (by omega) (by omega) W2 hy (by omega) (by omega) hc (fun h=>a3 (hs.1 h)) W
    ·by_cases b1:v<0
     ·exact Zf9 C1 hx b1
     ·by_cases b2:vars≤v
      ·exact ZgE C1 hx b1 b2
      ·by_cases b3:v≤v'
       ·exact ZpW C1 hx b1 b2 (by omega) W2 hy (by omega) b3
       ·by_cases b4:c=0
        ·exact Zn4 C1 hx b1 b2 (by omega) W2 hy (by omega) b3 hc (hs.2 b4)
        ·refine absurd (fun u d hu=>?_) (QV hp)
         rw [hx] at hu;cases hu
         exact ⟨by omega,by omega,b4,fun v2 c2 _ h2=>by rw [hy] at h2;cases h2;omega⟩
   ·refine ⟨fun hp=>?_,fun hp=>?_⟩
    ·obtain ⟨a1,a2,a3,a4⟩:=YG hp v c hx
     exact ZnO C1 hx (by omega) (by omega) (by omega) hc (fun h=>a3 (hs.1 h)) W
    ·by_cases b1:v<0
     ·exact Zf9 C1 hx b1
     ·by_cases b2:vars≤v
      ·exact ZgE C1 hx b1 b2
      ·by_cases b4:c=0
       ·exact ZnU C1 hx b1 b2 (by omega) hc (hs.2 b4)
       ·refine absurd (fun u d hu=>?_) (QV hp)
        rw [hx] at hu;cases hu
        exact ⟨by omega,by omega,b4,fun v2 c2 h2=>absurd h2 h0⟩)
  (ZnI (by omega))
 by_cases h:OkFm f vars
 ·rw [if_pos (fun i hi=>Q8 (h i hi))] at L
  rw [Q8 h]
  exact Zu3 L hB.k
 ·rw [if_neg (fun h2=>h fun i hi=>YG (h2 i hi))] at L
  rw [Xx h]
  exact Zvm L
end
end Go.Proofs.YtdaonnnlgfhlaaaGreatDoor
