import Derived.Test.YtdaonnnlgfhlaaaGreatDoorGF26
import Derived.Test.YtdaonnnlgfhlaaaGreatDoorGF21
import Derived.Test.YtdaonnnlgfhlaaaGreatDoorGF16
import Derived.Test.YtdaonnnlgfhlaaaGreatDoorGF17
import Derived.Test.YtdaonnnlgfhlaaaGreatDoorGF25
import Derived.Test.YtdaonnnlgfhlaaaGreatDoorRows
import Derived.Deep.Slices
import Derived.ChangeArms
import Derived.ChangeSlices
import Derived.DataReads
import Derived.OpenShut
import Derived.Lib.LaidTab
import Derived.Stop.LaidErr
set_option linter.all false
set_option maxHeartbeats 6400000
set_option maxRecDepth 100000
namespace Go.Proofs.YtdaonnnlgfhlaaaGreatDoor
section
open Go.RowKit
attribute [local irreducible] run Zp Zk exec
theorem ZcN{k:Int}:∀{F:List (Int × Rat)} {a:Int},Srt F→(∀t∈F,a≤t.1∧t.1<k)→F.length≤(k-a).toNat
 | [],a,_,_=>Nat.zero_le _
 | t::F,a,hs,h=>by
   have h1:=h t List.mem_cons_self
   have:=ZcN (F:=F) (a:=t.1+1) hs.tail fun u hu=>⟨by have:=hs.head u hu;omega,(h u (List.mem_cons_of_mem _ hu)).2⟩
   rw [List.length_cons]
   omega
structure RowV (k m:Nat) (R:List Zf):Prop where
 r:∀f∈R,FB m f∧InR k f.1
theorem RowV.mono{k m p:Nat}{R:List Zf}(h:RowV k m R)(hp:m≤p):RowV k p R:=⟨fun f hf=>⟨(h.r f hf).1.mono hp,(h.r f hf).2⟩⟩
theorem RowV.rb{k m:Nat}{R:List Zf}(h:RowV k m R)(hk:k≤50)(hn:R.length≤2500):RB m R:=by
 refine ⟨fun f hf=>⟨(h.r f hf).1,?_⟩,hn⟩
 have:=ZcN (F:=f.1) (a:=0) (k:=(k:Int)) (h.r f hf).1.s (h.r f hf).2
 omega
theorem RowV.elim{k m:Nat}{R:List Zf}{v:Int}(h:RowV k m R)(hk:k≤50)(hn:R.length≤2500)(h1:1≤m):RowV k (8*m+2) (Y3 v R):=by
 have a:=Zsk (v:=v) (h.rb hk hn) h1
 have b:=Zjb (v:=v) (k:=k) (R:=R) fun f hf=>⟨(h.r f hf).1.s,(h.r f hf).2⟩
 exact ⟨fun f hf=>⟨a f hf,(b f hf).2⟩⟩
def hh(m:Nat):Nat→Nat
 | 0=>m
 | i+1=>8*hh m i+2
def cc:Nat→Nat
 | 0=>9
 | 1=>20
 | 2=>100
 | _=>2500
theorem ZeR{m:Nat}(h:1≤m):∀i,1≤hh m i
 | 0=>h
 | i+1=>by rw [hh];omega
theorem Zft{k m:Nat}{R:List Zf}(h:RowV k m R)(hk:k≤50)(hn:R.length≤9)(h1:1≤m):∀i,i≤3→RowV k (hh m i) (YU i R)∧(YU i R).length≤cc i
 | 0,_=>⟨h,hn⟩
 | i+1,hi=>by
   obtain ⟨a,b⟩:=Zft h hk hn h1 i (by omega)
   have hc:4≤cc i∧cc i≤100∧cc i*cc i<4*cc (i+1)+4:=by
    match i,hi with
    | 0,_=>decide
    | 1,_=>decide
    | 2,_=>decide
   have hl:=ZkV (v:=(i:Int)) b hc.1
   rw [YU,hh]
   exact ⟨a.elim hk (by omega) (ZeR h1 i),by omega⟩
section
variable {n m k vars : Nat} {R : List Zf}
theorem ZhI{L:List Zf}(hL:∀f∈L,FB m f)(h1:1≤m)(hm:m≤5000)(hl:L.length≤5000):
  Zk Tryz.prog (tab (n+10)) 0 42 (Za 58) 11 Wr (QZ L 0 [] [])=some (.exit 2,V7 (L.foldl ZV []) (Qp (L.foldl ZV []))):=by
 have X:=XM (O:=tab (n+10)) (P:= Tryz.prog) (m:=0) (N:=42) (lives:=Za 58) (r:=11) (C:=Wr) (exN:=.exit 2) (L:=L) (enc:=fun i b=>QZ L i b (Qp b)) (f:=fun _ b (f:Zf)=>ZV b f) (Inv:=fun i b=>Vpos b∧b.length≤i) (out:=fun b=>V7 b (Qp b)) [] ⟨Vpos.nil,by simp⟩ (by omega) (by simp)
  (fun i f b hi hI=>by
   obtain ⟨hI1,hI2⟩:=hI
   have hlt:=(List.getElem?_eq_some_iff.1 hi).1
   have hf:=hL f (List.mem_of_getElem? hi)
   have hln:=US b f
   refine ⟨?_,hI1.col hf,by omega⟩
   rcases Zhr (n:=n+1) hf h1 hm hI1 (by omega) with ⟨e,K⟩|K
   ·rw [e]
    exact ZlO (by omega) hi K ⟨by omega,by omega⟩
   ·exact ZkJ (by omega) hi K ⟨by omega,by omega⟩)
  (fun b hI=>Zlf (by omega))
 rw [Qs] at X
 exact X.1
theorem ZkW(h:RowV k m R)(hk:k≤50)(hn:R.length≤9)(h1:1≤m)(hm:m≤5)(hv:vars≤3):
  run (n+10) 58 [.sl 4 (R.map Zh),.lit (.int .i64 (vars:Int))]=some (.tup [.sl 4 ((Uo vars R).map Zh),.lit (.int .i64 0)]):=by
 have hb:=Zft h hk hn h1
 have hm3:∀i,i≤3→hh m i≤2706:=fun i hi=>by
  match i,hi with
  | 0,_=>simp only [hh];omega
  | 1,_=>simp only [hh];omega
  | 2,_=>simp only [hh];omega
  | 3,_=>simp only [hh];omega
 have hm2:∀i,i≤2→hh m i≤1200:=fun i hi=>by
  match i,hi with
  | 0,_=>simp only [hh];omega
  | 1,_=>simp only [hh];omega
  | 2,_=>simp only [hh];omega
 have hc3:∀i,i≤3→cc i≤2500:=fun i hi=>by
  match i,hi with
  | 0,_=>decide
  | 1,_=>decide
  | 2,_=>decide
  | 3,_=>decide
 obtain ⟨b,L1,e⟩:=QJ (O:=tab (n+10)) (P:= Tryz.prog) (m:=0) (N:=42) (lives:=Za 58) (r:=2) (C:=Jy) (exN:=.exit 0) (M:=vars) (enc:=fun i b=>UO (vars:Int) b i) (out:=fun b=>Zar b) (fun i b=>b=YU i R) R rfl (by omega) (by simp)
  (fun i b hi hI=>by
   subst hI
   obtain ⟨a1,a2⟩:=hb i (by omega)
   obtain ⟨c1,c2⟩:=hb (i+1) (by omega)
   have:=hc3 i (by omega)
   have:=hc3 (i+1) (by omega)
   have K:=ZvD (n:=n) (v:=(i:Int)) (a1.rb hk (by omega)) (ZeR h1 i) (hm2 i (by omega)) (by omega) (by rw [YU] at c2;omega)
   exact ⟨_,Zop (by omega) K rfl ⟨by omega,by omega⟩,rfl⟩)
  (fun b hI=>ZpU (by omega))
 subst e
 obtain ⟨a1,a2⟩:=hb vars hv
 have:=hc3 vars hv
 have:=hm3 vars hv
 have L2:=ZhI (n:=n) (L:=YU vars R) (m:=hh m vars) (fun f hf=>(a1.r f hf).1) (ZeR h1 _) (by omega) (by omega)
 exact Zu1 L1 L2
theorem Zl6{v:Int}(hB:Bds R)(hl:R.length≤100000):run (n+1) 59 [.sl 4 (R.map Zh),.lit (.int .i64 v)]=some (.lit (.bool (tv (0≤v∧∀f∈R,OkFm f v)))):=by
 have X:=Q1 (O:=tab (n+1)) (P:= Tryz.prog) (m:=0) (N:=21) (lives:=Za 59) (r:=2) (C:=Vu) (M:=R.length) (enc:=fun i=>XO R v i) (p:=fun i=>tv (∀f,R[i]?=some f→OkFm f v)) (exN:=.exit 0) (exE:=.ret) (out:=Zaw v) (outE:=Zap v) (by omega) (by simp) (by simp)
  (fun i hi _=>by
   have hx:R[i]?=some R[i]:=List.getElem?_eq_getElem hi
   obtain ⟨g,hg⟩:∃g,R[i]=g:=⟨_,rfl⟩
   rw [hg] at hx
   obtain ⟨G,q⟩:=g
   have K:=Zg0 (n:=n) (vars:=v) (hB _ (List.mem_of_getElem? hx))
   refine ⟨fun hp=>ZnF (by omega) hx K (Q8 (YG hp _ hx)) ⟨by omega,by omega⟩,fun hp=>ZpC (by omega) hx K (Xx fun h9=>QV hp fun f hf=>?_)⟩
   rw [hx] at hf;cases hf
   exact h9)
  (ZnJ (by omega))
 by_cases h:∀f∈R,OkFm f v
 ·rw [if_pos (fun i hi=>Q8 fun f hf=>h f (List.mem_of_getElem? hf))] at X
  have Z:=ZuG X
  rw [Z]
  by_cases h0:0≤v
  ·rw [Q8 ⟨h0,h⟩,decide_eq_true h0]
  ·rw [Xx (fun h9=>h0 h9.1),decide_eq_false h0]
 ·rw [if_neg (fun h2=>h fun f hf=>by
   obtain ⟨i,hi⟩:=List.mem_iff_getElem?.1 hf
   exact YG (h2 i (List.getElem?_eq_some_iff.1 hi).1) f hi)] at X
  rw [Xx (fun h9=>h h9.2)]
  exact Zwh X
theorem RowV.col(h:RowV k m R)(h1:1≤m):RowV k (m+m) (R.foldl ZV [])∧(R.foldl ZV []).length≤R.length:=by
 have key:∀(R L:List Zf),RowV k m R→RowV k (m+m) L→RowV k (m+m) (R.foldl ZV L)∧(R.foldl ZV L).length≤L.length+R.length:=fun R=>by
  induction R with
  | nil=>intro L _ h;exact ⟨h,by simp⟩
  | cons f R ih=>
    intro L hR hL
    have hf:=hR.r f List.mem_cons_self
    have hc:RowV k (m+m) (ZV L f):=by
     refine ⟨fun g hg=>?_⟩
     unfold ZV at hg
     split at hg
     ·exact hL.r g hg
     split at hg
     ·exact hL.r g hg
     ·rcases List.mem_append.1 hg with h2|h2
      ·exact hL.r g h2
      ·rw [List.mem_singleton.1 h2]
       exact ⟨hf.1.norm h1,(ZeZ hf.1.s.2).2 hf.2⟩
    obtain ⟨a,b⟩:=ih (ZV L f) ⟨fun g hg=>hR.r g (List.mem_cons_of_mem _ hg)⟩ hc
    have:=US L f
    rw [List.foldl_cons,List.length_cons]
    exact ⟨a,by omega⟩
 have:=key R [] h ⟨fun g hg=>by cases hg⟩
 simpa using this
theorem ZhM{L:List Zf}{v:Int}(hL:∀f∈L,FB m f)(h1:1≤m)(hm:m≤5000)(hl:L.length≤5000):
  Zk Tryz.prog (tab (n+10)) 0 37 (Za 60) 3 Vg (Xq L v [] 0)=some (.exit 0,UU v (L.foldl ZV [])):=by
 have X:=XM (O:=tab (n+10)) (P:= Tryz.prog) (m:=0) (N:=37) (lives:=Za 60) (r:=3) (C:=Vg) (exN:=.exit 0) (L:=L) (enc:=fun i b=>Xq L v b i) (f:=fun _ b (f:Zf)=>ZV b f) (Inv:=fun i b=>Bds b∧b.length≤i) (out:=fun b=>UU v b) [] ⟨Bds.nil,by simp⟩ (by omega) (by simp)
  (fun i f b hi hI=>by
   obtain ⟨hI1,hI2⟩:=hI
   have hlt:=(List.getElem?_eq_some_iff.1 hi).1
   have hf:=hL f (List.mem_of_getElem? hi)
   have hln:=US b f
   refine ⟨?_,hI1.col hf h1 hm,by omega⟩
   rcases Zh9 (n:=n+1) hf h1 hm hI1 (by omega) with ⟨e,K⟩|K
   ·rw [e]
    exact ZlT (by omega) hi K ⟨by omega,by omega⟩
   ·exact Zm3 (by omega) hi K ⟨by omega,by omega⟩)
  (fun b hI=>ZmE (by omega))
 rw [Qs] at X
 exact X.1
theorem ZuD(h:RowV k m R)(hk:k≤50)(hn:R.length≤9)(h1:1≤m)(hm:m≤5)(hv:vars≤3):
  run (n+10) 60 [.sl 4 (R.map Zh),.lit (.int .i64 (vars:Int))]=some (.tup [.sl 4 ((Zpz vars R).map Zh),.lit (.int .i64 0)]):=by
 have L1:=ZhM (n:=n) (L:=R) (v:=(vars:Int)) (m:=m) (fun f hf=>(h.r f hf).1) h1 (by omega) (by omega)
 obtain ⟨hc,hcl⟩:=h.col h1
 have hb:=Zft hc hk (by omega) (by omega)
 have hm2:∀i,i≤2→hh (m+m) i≤1200:=fun i hi=>by
  match i,hi with
  | 0,_=>simp only [hh];omega
  | 1,_=>simp only [hh];omega
  | 2,_=>simp only [hh];omega
 have hc3:∀i,i≤3→cc i≤2500:=fun i hi=>by
  match i,hi with
  | 0,_=>decide
  | 1,_=>decide
  | 2,_=>decide
  | 3,_=>decide
 have step:∀i,i<vars→run (n+9) 18 [.sl 4 ((YU i (R.foldl ZV [])).map Zh),.lit (.int .i64 (i:Int))]=some (.tup [.sl 4 ((YU (i+1) (R.foldl ZV [])).map Zh),.lit (.int .i64 0)]):=fun i hi=>by
  obtain ⟨a1,a2⟩:=hb i (by omega)
  obtain ⟨c1,c2⟩:=hb (i+1) (by omega)
  have:=hc3 i (by omega)
  have:=hc3 (i+1) (by omega)
  exact ZrS (n:=n) (v:=(i:Int)) (a1.rb hk (by omega)) (ZeR (by omega) i) (hm2 i (by omega)) (by omega) (by rw [YU] at c2;omega)
 by_cases h0:vars=0
 ·subst h0
  obtain ⟨_,L2,_⟩:=QJ (O:=tab (n+10)) (P:= Tryz.prog) (m:=0) (N:=37) (lives:=Za 60) (r:=7) (C:=XU) (exN:=.exit 2) (M:=0) (enc:=fun i (_:Unit)=>WV ((0:Nat):Int) (R.foldl ZV [])) (out:=fun _=>Zao (R.foldl ZV [])) (fun _ _=>True) () trivial (by omega) (by simp)
   (fun i b hi _=>absurd hi (by omega)) (fun b _=>Zo3 (by omega))
  exact ZvZ L1 L2
 ·obtain ⟨b,L2,e⟩:=QJ (O:=tab (n+10)) (P:= Tryz.prog) (m:=0) (N:=37) (lives:=Za 60) (r:=7) (C:=XU) (exN:=.exit 2) (M:=vars) (enc:=fun i b=>if i=0 then WV (vars:Int) b else VJ (vars:Int) b i) (out:=fun b=>JW b) (fun i b=>b=YU i (R.foldl ZV [])) (R.foldl ZV []) rfl (by omega) (by simp)
   (fun i b hi hI=>by
    subst hI
    refine ⟨_,?_,rfl⟩
    rw [if_neg (by omega:¬i+1=0)]
    by_cases hi0:i=0
    ·subst hi0
     rw [if_pos rfl]
     exact Zoy (by omega) (step 0 hi) rfl
    ·rw [if_neg hi0]
     exact ZkB (by omega) (step i hi) rfl ⟨by omega,by omega⟩)
   (fun b hI=>by
    rw [if_neg h0]
    exact ZkS (by omega))
  subst e
  rw [if_pos rfl] at L2
  exact ZvG L1 L2
end
theorem Zvp{n:Nat}{R:List Zf}{v:Int}(hR:∀f∈R,FB 2 f)(hn:R.length≤7)(hv:v≤3):
  (¬(0≤v∧∀f∈R,OkFm f v)→run (n+11) 27 [.sl 4 (R.map Zh),.lit (.int .i64 v)]=some (.tup [.lit (.bool false),.lit (.int .i64 1)])∧run (n+11) 28 [.sl 4 (R.map Zh),.lit (.int .i64 v)]=some (.tup [.lit (.bool false),.lit (.int .i64 1)]))∧
  ((0≤v∧∀f∈R,OkFm f v)→run (n+11) 27 [.sl 4 (R.map Zh),.lit (.int .i64 v)]=some (.tup [.lit (.bool (tv (Uo v.toNat R=[]))),.lit (.int .i64 0)])∧run (n+11) 28 [.sl 4 (R.map Zh),.lit (.int .i64 v)]=some (.tup [.lit (.bool (tv (Uo v.toNat R=[]))),.lit (.int .i64 0)])):=by
 have hB:Bds R:=fun f hf=>(hR f hf).bd (by omega)
 have Kc:=Zma (n:=n+9) (vars:=v) hB (by omega)
 have Kv:=Zl6 (n:=n+9) (v:=v) hB (by omega)
 refine ⟨fun h=>?_,fun h=>?_⟩
 ·rw [Xx h] at Kv
  refine ⟨?_,Zv3 Kv rfl⟩
  by_cases h0:v<0
  ·exact Zup h0
  ·rw [Xx (fun h9=>h ⟨by omega,h9⟩)] at Kc
   exact ZvH h0 Kc rfl
 ·rw [Q8 h] at Kv
  rw [Q8 h.2] at Kc
  obtain ⟨k,rfl⟩:∃k:Nat,v=(k:Int):=⟨v.toNat,by omega⟩
  have hRV:RowV k 2 R:=⟨fun f hf=>⟨hR f hf,fun t ht=>(h.2 f hf).srt.2 t ht⟩⟩
  have Kp:=ZkW (n:=n) (vars:=k) hRV (by omega) (by omega) (by omega) (by omega) (by omega)
  have Kr:=ZuD (n:=n) (vars:=k) hRV (by omega) (by omega) (by omega) (by omega) (by omega)
  rw [←Zrl (fun f hf=>(hR f hf).s)] at Kr
  have e:(((Uo k R).length:Int)==0)=tv (Uo k R=[]):=by
   by_cases h9:Uo k R=[]
   ·rw [Q8 h9,h9];rfl
   ·rw [Xx h9]
    have:(Uo k R).length≠0:=fun e=>h9 (List.eq_nil_of_length_eq_zero e)
    simpa using h9
  have r1:=Zua (by omega) Kc rfl Kp rfl
  have r2:=Zux Kv rfl Kr rfl
  rw [e] at r1 r2
  rw [Int.toNat_natCast]
  exact ⟨r1,r2⟩
end
section
open Go.RowKit
end
section
open Go.RowKit
attribute [local irreducible] run Zp Zk exec
end
section
set_option maxHeartbeats 1600000
open Go.RowKit
attribute [local irreducible] run Zp Zk exec
section
variable {m k : Nat} {f : Zf} {X : List Rat}
theorem InR.up{F:List (Int × Rat)}(h:InR m F):InR (m+1) F:=fun t ht=>by have:=h t ht;omega
theorem Zjl(hf:Srt f.1)(hi:InR m f.1)(h1:InR (m+1) (Vt m f).1)(h2:InR (m+1) (Zbx m f).1):Qo X (Vt m f)=X.getD m 0-Qo X f∧Qo X (Zbx m f)=Qo X f-X.getD m 0:=by
 obtain ⟨c1,c2,s1,s2,e1,e2⟩:=ZiA (m:=m) hf
 have hs:∀j:Nat,(((j:Int)=(m:Int))↔j=m):=fun j=>by omega
 have S:Ya (fun j=>if j=m then X.getD j 0 else 0) (m+1)=X.getD m 0:=by
  rw [WH (k:=m) (by omega) (fun i _ h=>if_neg h),if_pos rfl]
 have a1:Ya (fun j=>cof (Vt m f).1 (j:Int)*X.getD j 0) (m+1)=X.getD m 0+(-1)*Ya (fun j=>cof f.1 (j:Int)*X.getD j 0) (m+1):=by
  rw [←QN,←S,←QS]
  refine ZH fun j _=>?_
  rw [c1]
  by_cases h:j=m
  ·rw [if_pos ((hs j).2 h),if_pos h];grind
  ·rw [if_neg (fun h9=>h ((hs j).1 h9)),if_neg h];grind
 have a2:Ya (fun j=>cof (Zbx m f).1 (j:Int)*X.getD j 0) (m+1)=(-1)*X.getD m 0+Ya (fun j=>cof f.1 (j:Int)*X.getD j 0) (m+1):=by
  rw [←S,←QN,←QS]
  refine ZH fun j _=>?_
  rw [c2]
  by_cases h:j=m
  ·rw [if_pos ((hs j).2 h),if_pos h];grind
  ·rw [if_neg (fun h9=>h ((hs j).1 h9)),if_neg h];grind
 rw [KQ s1 h1,KQ s2 h2,KQ hf hi.up,a1,a2,e1,e2]
 constructor <;>grind
theorem JO{Y:List Rat}(hs:Srt f.1)(hi:InR m f.1)(h:∀j,j<m→X.getD j 0=Y.getD j 0):Qo X f=Qo Y f:=by
 rw [KQ hs hi,KQ hs hi,ZH fun j hj=>by rw [h j hj]]
theorem Zfa{x:Rat}{j:Nat}(hX:X.length=m):(j<m→(X++[x]).getD j 0=X.getD j 0)∧(X++[x]).getD m 0=x:=by
 constructor
 ·intro hj
  rw [List.getD_eq_getElem?_getD,List.getD_eq_getElem?_getD,List.getElem?_append_left (by omega)]
 ·rw [List.getD_eq_getElem?_getD,List.getElem?_append_right (by omega),hX,Nat.sub_self];rfl
theorem Zjc{j:Nat}(hj:j<m):(X.take m).getD j 0=X.getD j 0:=by
 rw [List.getD_eq_getElem?_getD,List.getD_eq_getElem?_getD,List.getElem?_take_of_lt hj]
theorem Zwx{R:List Zf}(hf:FB 2 f)(hi:InR m f.1)(hm:m≤50)(hR:∀g∈R,FB 2 g∧InR m g.1)(t:Rat):AtT m (Ux m f R) t↔∃X:List Rat,X.length=m∧Za6 X R∧Qo X f=t:=by
 obtain ⟨b1,b2,i1,i2⟩:=Zh0 hf (by omega) hi hm
 constructor
 ·rintro ⟨X,hX,ht,hs⟩
  obtain ⟨v1,v2⟩:=Zjl (X:=X) hf.s hi i1 i2
  have h1:=(hs (Vt m f) (by simp [Ux])).2
  have h2:=(hs (Zbx m f) (by simp [Ux])).2
  have hl:(X.take m).length=m:=by rw [List.length_take];omega
  refine ⟨X.take m,hl,fun g hg=>⟨by rw [hl];exact (hR g hg).2,?_⟩,?_⟩
  ·rw [JO (Y:=X) (hR g hg).1.s (hR g hg).2 (fun j hj=>Zjc hj)]
   exact (hs g (List.mem_append_right _ hg)).2
  ·rw [JO (Y:=X) hf.s hi (fun j hj=>Zjc hj)]
   grind
 ·rintro ⟨X,hX,hs,ht⟩
  have hl:(X++[t]).length=m+1:=by rw [List.length_append,hX];rfl
  obtain ⟨v1,v2⟩:=Zjl (X:=X++[t]) hf.s hi i1 i2
  have e:Qo (X++[t]) f=t:=by rw [JO (Y:=X) hf.s hi (fun j hj=>(Zfa hX).1 hj)];exact ht
  rw [e,(Zfa (j:=m) hX).2] at v1 v2
  refine ⟨X++[t],hl,(Zfa (j:=m) hX).2,fun g hg=>?_⟩
  rw [hl]
  rcases List.mem_append.1 hg with h|h
  ·simp only [List.mem_cons,List.not_mem_nil,or_false] at h
   rcases h with rfl|rfl
   ·exact ⟨i1,by rw [v1];grind⟩
   ·exact ⟨i2,by rw [v2];grind⟩
  ·exact ⟨(hR g h).2.up,by rw [JO (Y:=X) (hR g h).1.s (hR g h).2 (fun j hj=>(Zfa hX).1 hj)];exact (hs g h).2⟩
end
theorem ZiL:FB 2 (([],0):Zf):=⟨Srt.nil,⟨(fun t ht=>by cases ht),by decide+kernel⟩,by simp,(fun t ht=>by cases ht)⟩
theorem ZyY{m:Nat}{R:List Zf}:XY ⟨(m:Int),R,([],0)⟩=.agg [.lit (.int .i64 (m:Int)),.sl 4 (R.map Zh),.sl 4 [],.lit (.bool false),.sl 1 [],.sl 1 []]:=by
 show AV.agg [.lit (.int .i64 (m:Int)),.sl 4 (R.map Zh),.sl 4 [],.lit (.bool (Zd 0).s),Zc (Zd 0).l1,Zc (Zd 0).l2]=_
 rw [show Zd 0=⟨false,[],[]⟩ from by decide+kernel]
 rfl
theorem Zu7{n:Nat}{a0:List Yo}{v:Int}(hl:a0.length≤1000000000)(hB:∀f∈a0,Zne f):lfR n [.sl 4 (a0.map Yw),.lit (.int .i64 v)]=some (.lit (.bool true)):=by
 have K1:=ZuN (n:=n+9) hl hB
 by_cases hf:(a0.length:Int)≤7∧∀f∈a0,SmR f
 ·rw [Q8 hf] at K1
  obtain ⟨hR,hR7⟩:=ZvE hf
  have e:=(SmR.all hf.2).1
  by_cases hv:3<v
  ·exact ZuJ K1 rfl hv
  ·have hF:=Zvp (n:=n+1) (R:=a0.map unR) (v:=v) (fun f hf=>(hR.r f hf).1) hR7 (by omega)
   by_cases hok:0≤v∧∀f∈a0.map unR,OkFm f v
   ·obtain ⟨K4,K5⟩:=hF.2 hok
    rw [←e] at K4 K5
    obtain ⟨m,rfl⟩:∃m:Nat,v=(m:Int):=⟨v.toNat,by omega⟩
    rw [Int.toNat_natCast] at K4 K5
    have hRR:∀g∈a0.map unR,FB 2 g∧InR m g.1:=fun g hg=>⟨(hR.r g hg).1,fun t ht=>(hok.2 g hg).srt.2 t ht⟩
    obtain ⟨s,z,K9,G,_,_⟩:=Zr5 (n:=n+8) (m:=m) (f:=([],0)) (Q:=a0.map unR) (by omega) hRR hR7 ZiL (fun t ht=>by cases ht)
    rw [ZyY,←e] at K9
    by_cases h0:s=0
    ·exact ZuK K1 rfl hv K4 K5 rfl rfl rfl K9 h0
    ·have R:=ZtU K1 rfl hv K4 K5 rfl rfl rfl K9 h0
     rw [R]
     have FL:=Zpc (k:=m) (R:=a0.map unR) (fun g hg=>⟨(hRR g hg).1.s,(hRR g hg).2⟩)
     have AT:=Zwx (m:=m) (f:=([],0)) (R:=a0.map unR) ZiL (fun t ht=>by cases ht) (by omega) hRR
     have yes:∀t,AtT m (Ux m ([],0) (a0.map unR)) t→Uo m (a0.map unR)=[]:=fun t ht=>by
      obtain ⟨X,h1,h2,_⟩:=(AT t).1 ht
      exact FL.2 ⟨X,h1,h2⟩
     rcases G with h|⟨rfl,h⟩|⟨rfl,h⟩|⟨rfl,h,_⟩
     ·exact absurd h h0
     ·rw [Xx (fun h9=>by
       obtain ⟨X,h1,h2⟩:=FL.1 h9
       exact h _ ((AT _).2 ⟨X,h1,h2,rfl⟩))]
      rfl
     ·obtain ⟨t,ht,_⟩:=h 0
      rw [Q8 (yes t ht)];rfl
     ·rw [Q8 (yes z h)];rfl
   ·obtain ⟨K4,K5⟩:=hF.1 hok
    rw [←e] at K4 K5
    exact ZuP K1 rfl hv K4 K5 rfl rfl (by omega)
 ·rw [Xx hf] at K1
  exact ZvP K1 rfl
end
section
open Go.ChangeShapes Go.WideShapes Go.RowKit Go.Deep
def okT:Nat→Nat→Prop:=fun _ _=>True
theorem ZgF{H:Type}(d:DataW H):1≤Rows.uptoBulk d:=by
 cases d with
 | lit l=>cases l <;>simp [Rows.uptoBulk]
 | nil=>simp [Rows.uptoBulk]
 | ptr d=>simp [Rows.uptoBulk]
 | slice Zgy spare=>simp [Rows.uptoBulk]
 | agg parts=>simp [Rows.uptoBulk]
 | iface t d=>simp [Rows.uptoBulk]
 | map entries=>simp [Rows.uptoBulk]
 | held h=>simp [Rows.uptoBulk]
theorem JV{H:Type}{d:DataW H}{l:List (DataW H)}(h:d∈l):Rows.uptoBulk d≤Rows.uptoBulkAll l:=by
 induction l with
 | nil=>cases h
 | cons x r ih=>
   simp only [Rows.uptoBulkAll]
   cases List.mem_cons.1 h with
   | inl e=>subst e;omega
   | inr e=>have:=ih e;omega
theorem Zcl{H:Type}(l:List (DataW H)):l.length≤Rows.uptoBulkAll l:=by
 induction l with
 | nil=>simp [Rows.uptoBulkAll]
 | cons x r ih=>have:=ZgF x;simp only [Rows.uptoBulkAll,List.length_cons];omega
theorem Zmx{H:Type}{d:DataW H}{l:List (DataW H)}(h:d∈l):Rows.uptoBulk d≤Rows.uptoBulk (.agg l):=by
 have:=JV h
 simp only [Rows.uptoBulk]
 omega
theorem Zh2{H:Type}{d:DataW H}{l r:List (DataW H)}(h:d∈l):Rows.uptoBulk d≤Rows.uptoBulk (.slice l r):=by
 have:=JV h
 simp only [Rows.uptoBulk]
 omega
theorem Zcx{H:Type}(l r:List (DataW H)):l.length≤Rows.uptoBulk (.slice l r):=by
 have:=Zcl l
 simp only [Rows.uptoBulk]
 omega
def Opens(w:World)(t:TypeId)(A:Nat→List AV→Prop):Prop:=
 ∀(H:Type) (enc:TypeId × Value→H) (base:Nat) (spare:Nat→Bool) (held:Bool) (fuel:Nat) (cs:List Value) (x:DataW H × List MemPlace),DataW.trod enc Tryz.prog w base spare held fuel t cs=some x→∃us,A (Rows.uptoBulk x.1) us∧RV (RepT w okT) us cs
def Up1(A:Nat→List AV→Prop):Prop:=∀N M us,N≤M→A N us→A M us
theorem Opens.mono{w:World}{t:TypeId}{A B:Nat→List AV→Prop}(h:Opens w t A)(hA:∀N us,A N us→B N us):Opens w t B:=fun H enc base spare held fuel cs x hx=>by
 obtain ⟨us,h1,h2⟩:=h H enc base spare held fuel cs x hx
 exact ⟨us,hA _ _ h1,h2⟩
theorem ZmU{R:AV→Value→Prop}{a:AV}{v:Value}(h:R a v):RV R [a] [v]:=⟨rfl,fun i d hi=>by
 match i,hi with
 | 0,hi=>cases hi;exact ⟨v,rfl,h⟩
 | i+1,hi=>simp at hi⟩
theorem JI{R:AV→Value→Prop}{us bs:List AV}{cs:List Value}{o n:Nat}(h1:RV R us ((cs.drop o).take n))(h2:RV R bs (cs.drop (o+n)))(hn:o+n≤cs.length):RV R (us++bs) (cs.drop o):=by
 have l1:=h1.1
 have l2:=h2.1
 rw [List.length_take,List.length_drop] at l1
 rw [List.length_drop] at l2
 refine ⟨by rw [List.length_append,List.length_drop];omega,fun i d hi=>?_⟩
 by_cases hl:i<us.length
 ·rw [List.getElem?_append_left hl] at hi
  obtain ⟨u,h3,h4⟩:=h1.2 i d hi
  rw [List.getElem?_take,if_pos (by omega)] at h3
  exact ⟨u,h3,h4⟩
 ·rw [List.getElem?_append_right (by omega)] at hi
  obtain ⟨u,h3,h4⟩:=h2.2 _ d hi
  refine ⟨u,?_,h4⟩
  rw [List.getElem?_drop] at h3 ⊢
  rw [←h3]
  congr 1
  omega
theorem Zh3{R:AV→Value→Prop}{cs:List Value}{N:Nat}(h:cs.length=N):RV R [] (cs.drop N):=by
 rw [List.drop_of_length_le (by omega)]
 exact ⟨rfl,fun i d hi=>by simp at hi⟩
section
variable {w : World}
theorem Znd{t:TypeId}{k:IntKind}(ht: Tryz.prog.underlying t=some (.int k)):Opens w t (fun _ us=>∃z,us=[.lit (.int k z)]∧(Lit.int k z).wf=true):=fun H enc base spare held fuel cs x hx=>by
 obtain ⟨n,rfl,rfl,hw⟩:=DataW.trod_int ht hx
 exact ⟨_,⟨n,rfl,hw⟩,ZmU (.lit _)⟩
theorem Zru{t:TypeId}(ht: Tryz.prog.underlying t=some .bool):Opens w t (fun _ us=>∃b,us=[.lit (.bool b)]):=fun H enc base spare held fuel cs x hx=>by
 obtain ⟨b,rfl,_⟩:=DataW.trod_bool ht hx
 exact ⟨_,⟨b,rfl⟩,ZmU (.lit _)⟩
theorem Zue{H:Type}{enc:TypeId × Value→H}{base:Nat}{spare:Nat→Bool}{held:Bool}{t:TypeId}{fs:Array Field}{fuel:Nat}{cs:List Value}{x:DataW H × List MemPlace}(hs: Tryz.prog.underlying t=some (.struct fs))(h:DataW.trod enc Tryz.prog w base spare held fuel t cs=some x):
  cs.length= Tryz.prog.cellsOf t∧∀(i:Nat) (f:Field) (T:TypeId) (o:Nat),fs[i]?=some f→f.type=T→f.offset=o→∃n y,DataW.trod enc Tryz.prog w base spare held n T ((cs.drop o).take (Tryz.prog.cellsOf T))=some y∧Rows.uptoBulk y.1≤Rows.uptoBulk x.1:=by
 obtain ⟨xs,n,_,hx,hl,hlen,hg⟩:=DataW.trod_struct hs h
 refine ⟨hl,fun i f T o hf hT ho=>⟨n,xs[i]'(by rw [hlen];exact (Array.getElem?_eq_some_iff.1 hf).1),?_,?_⟩⟩
 ·subst hT ho
  rw [hg i f hf]
  exact List.getElem?_eq_getElem _
 ·subst hx
  exact Zmx (List.mem_map_of_mem (List.getElem_mem _))
theorem ZjC{b o i:Nat}:(⟨b,o,none⟩:Addr).add i=⟨b,o+i,none⟩:=by
 unfold Addr.add
 split
 ·rename_i h;subst h;rfl
 ·rfl
theorem Zyp{t e:TypeId}{k:Nat}{A:Nat→List AV→Prop}(ht: Tryz.prog.underlying t=some (.slice e))(hk: Tryz.prog.cellsOf e=k)(h0k:0<k)(he:Opens w e A)(hA:Up1 A):
  Opens w t (fun N us=>∃es:List (List AV),us=[.sl k es]∧es.length≤N∧∀e∈es,A N e):=fun H enc base spare held fuel cs x hx=>by
 rcases open_slice ht hx with ⟨rfl,_⟩|⟨a,len,cap,m,n,D,Pl,rfl,_,hl,hm,hmm,hxe,hi⟩
 ·exact ⟨_,⟨[],rfl,by simp,fun e he=>by cases he⟩,ZmU (.nil none 0)⟩
 ·have hlm:len≤m:=by rw [hmm];split <;>omega
  have hb:∀i,i<len→Rows.uptoBulk (D i)≤Rows.uptoBulk x.1:=fun i hil=>by
   subst hxe
   exact Zh2 (List.mem_map.2 ⟨i,List.mem_range.2 hil,rfl⟩)
  have hbl:len≤Rows.uptoBulk x.1:=by
   subst hxe
   have:=Zcx ((List.range len).map D) ((List.range (m-len)).map fun j=>D (len+j))
   rw [List.length_map,List.length_range] at this
   exact this
  obtain ⟨U,hU⟩:=choose_lt (n:=len) (p:=fun i (u:List AV)=>A (Rows.uptoBulk x.1) u∧∃cs',RV (RepT w okT) u cs'∧w.cells? base (a.add (i*k)) k=some cs') (fun i hil=>by
   obtain ⟨cs',h1,h2⟩:=hi i (by omega)
   rw [hk] at h1
   obtain ⟨u,hu,hr⟩:=he H enc base spare held _ _ _ h2
   exact ⟨u,hA _ _ _ (hb i hil) hu,cs',hr,h1⟩)
  refine ⟨[.sl k ((List.range len).map U)],⟨_,rfl,by rw [List.length_map,List.length_range];exact hbl,fun e he=>?_⟩,?_⟩
  ·obtain ⟨i,hir,rfl⟩:=List.mem_map.1 he
   exact (hU i (List.mem_range.1 hir)).1
  ·by_cases h0:len=0
   ·subst h0;exact ZmU (.nil (some a) cap)
   ·have hz:=(hU 0 (by omega)).2.choose_spec.2
    obtain ⟨_,hz1,hz2⟩:=World.cells?_some hz
    have hz3:=hz2 0 h0k
    rw [List.getElem?_eq_getElem (by omega)] at hz3
    have hs0:=World.cell?_spot hz3
    obtain ⟨b,o,sp⟩:=a
    have hsp:sp=none:=by
     simp [Addr.add] at hs0
     exact hs0
    subst hsp
    have key:∀(i j:Nat) (e:List AV) (d:AV),((List.range len).map U)[i]?=some e→e[j]?=some d→∃u,w.cell? ⟨b,o+i*k+j,none⟩=some u∧RepT w okT d u:=fun i j e d hie hjd=>by
     have hil:i<len:=by have:=(List.getElem?_eq_some_iff.1 hie).1;rw [List.length_map,List.length_range] at this;exact this
     rw [List.getElem?_map,List.getElem?_range hil] at hie
     cases hie
     obtain ⟨_,cs',hr,hc⟩:=hU i hil
     obtain ⟨_,q1,q2⟩:=World.cells?_some hc
     obtain ⟨u,g1,g2⟩:=hr.2 j d hjd
     have hj:j<k:=by
      have:=(List.getElem?_eq_some_iff.1 g1).1
      omega
     have:=q2 j hj
     rw [ZjC,ZjC] at this
     exact ⟨u,this.trans g1,g2⟩
    have R:=RepT.sl (w:=w) (ok:=okT) (k:=k) (b:=b) (o:=o) (c:=cap) (es:=(List.range len).map U) (fun e he=>by
      obtain ⟨i,hir,rfl⟩:=List.mem_map.1 he
      obtain ⟨_,cs',hr,hc⟩:=hU i (List.mem_range.1 hir)
      obtain ⟨_,q1,_⟩:=World.cells?_some hc
      have:=hr.1
      omega) (by rw [List.length_map,List.length_range];exact hl) (fun i j e d he hd=>by
      obtain ⟨u,h1,_⟩:=key i j e d he hd
      exact ⟨trivial,by rw [h1];rfl⟩) (fun i j e d he hd=>by
      obtain ⟨u,h1,h2⟩:=key i j e d he hd
      rw [h1]
      exact h2)
    rw [List.length_map,List.length_range] at R
    exact ZmU R
theorem Zjs{α:Type}{enc:α→List AV}{ok:α→Prop}:∀{es:List (List AV)},(∀e∈es,∃x,e=enc x∧ok x)→∃L:List α,es=L.map enc∧∀x∈L,ok x
 | [],_=>⟨[],rfl,fun x hx=>by cases hx⟩
 | e::es,h=>by
   obtain ⟨x,rfl,hx⟩:=h e (List.mem_cons_self ..)
   obtain ⟨L,rfl,hL⟩:=Zjs fun e he=>h e (List.mem_cons_of_mem _ he)
   exact ⟨x::L,rfl,fun y hy=>by
    rcases List.mem_cons.1 hy with rfl|hy
    ·exact hx
    ·exact hL y hy⟩
theorem ZeQ{α:Type}{t e:TypeId}{k:Nat}{enc:α→List AV}{ok:Nat→α→Prop}(ht: Tryz.prog.underlying t=some (.slice e))(hk: Tryz.prog.cellsOf e=k)(h0k:0<k)(he:Opens w e (fun N us=>∃x,us=enc x∧ok N x))(hm:∀N M x,N≤M→ok N x→ok M x):
  Opens w t (fun N us=>∃L:List α,us=[.sl k (L.map enc)]∧L.length≤N∧∀x∈L,ok N x):=
 (Zyp ht hk h0k he (fun N M us hN ⟨x,h1,h2⟩=>⟨x,h1,hm N M x hN h2⟩)).mono fun N us ⟨es,h1,h2,h3⟩=>by
  obtain ⟨L,rfl,hL⟩:=Zjs h3
  exact ⟨L,h1,by simpa using h2,hL⟩
def okInt(k:IntKind)(_:Nat)(z:Int):Prop:=(Lit.int k z).wf=true
theorem okInt.up{k:IntKind}{N M:Nat}{z:Int}(hN:N≤M)(h:okInt k N z):okInt k M z:=h
def okBool(_:Nat)(_:Bool):Prop:=True
theorem okBool.up{N M:Nat}{b:Bool}(hN:N≤M)(h:okBool N b):okBool M b:=h
theorem Zq1{t:TypeId}{k:IntKind}(ht: Tryz.prog.underlying t=some (.int k)):Opens w t (fun N us=>∃z,us=[.lit (.int k z)]∧okInt k N z):=Znd ht
theorem Zqh{t:TypeId}(ht: Tryz.prog.underlying t=some .bool):Opens w t (fun N us=>∃b,us=[.lit (.bool b)]∧okBool N b):=(Zru ht).mono fun N us ⟨b,h⟩=>⟨b,h,trivial⟩
def okNat(N:Nat)(l:List Nat):Prop:=Lim l∧l.length≤N
theorem okNat.up{N M:Nat}{l:List Nat}(hN:N≤M)(h:okNat N l):okNat M l:=⟨h.1,Nat.le_trans h.2 hN⟩
theorem ZA5: Tryz.prog.cellsOf 114=1:=by kernel_rfl
theorem ZjJ:Opens w 24 (fun N us=>∃l,us=[Zc l]∧okNat N l):=
 (ZeQ (α:=Nat) (enc:=fun x=>[.lit (.int .u32 (x:Int))]) (ok:=fun _ x=>x<4294967296) Tryz.underlying24 ZA5 (by omega) ((Znd Tryz.underlying114).mono fun N us ⟨z,h1,h2⟩=>by
  have h3:0≤z∧z≤4294967295:=by simpa [Lit.wf,IntKind.min,IntKind.max,IntKind.signed,IntKind.bits] using h2
  exact ⟨z.toNat,by rw [h1,Int.toNat_of_nonneg h3.1],by omega⟩) (fun N M x _ h=>h)).mono fun N us ⟨L,h1,h2,h3⟩=>⟨L,h1,fun x hx=>h3 x hx,h2⟩
def okRaw(N:Nat)(r:Raw):Prop:=okNat N r.l1∧okNat N r.l2
theorem okRaw.up{N M:Nat}{r:Raw}(hN:N≤M)(h:okRaw N r):okRaw M r:=⟨h.1.up hN,h.2.up hN⟩
theorem Zrf{d:AV}{v:Value}(hv:v.cells=#[v])(h:RV (RepT w okT) [d] v.cells.toList):RepT w okT d v:=by
 rw [hv] at h
 obtain ⟨u,h1,h2⟩:=h.2 0 d rfl
 cases h1
 exact h2
theorem Zrn{R:AV→Value→Prop}:RV R [] []:=⟨rfl,fun i d hi=>by simp at hi⟩
theorem ZgJ{R:AV→Value→Prop}{a:AV}{v:Value}{l:List AV}{vs:List Value}(h:R a v)(hl:RV R l vs):RV R (a::l) (v::vs):=⟨by simp [hl.1],fun i d hi=>by
 match i,hi with
 | 0,hi=>cases hi;exact ⟨v,rfl,h⟩
 | i+1,hi=>exact hl.2 i d (by simpa using hi)⟩
end
end
section
open Go.ChangeShapes Go.WideShapes Go.RowKit Go.Deep
section
variable {w : World}
theorem Zuw: Tryz.prog.cellsOf 26=3:=by kernel_rfl
theorem ZpR: Tryz.prog.cellsOf 4=1:=by kernel_rfl
theorem ZmT: Tryz.prog.cellsOf 24=1:=by kernel_rfl
theorem Zol: Tryz.prog.cellsOf 24=1:=by kernel_rfl
set_option maxRecDepth 100000 in
theorem ZoR:Opens w 26 (fun N us=>∃x:Raw,us=ZrA x∧okRaw N x):=fun H enc base spare held fuel cs x hx=>by
 obtain ⟨hl,hf⟩:=Zue Tryz.underlying26 hx
 rw [Zuw] at hl
 obtain ⟨n0,y0,g0,b0⟩:=hf 0 _ 4 0 rfl rfl rfl
 obtain ⟨a0,⟨x0,e0,p0⟩,r0⟩:=(Zqh Tryz.underlying4) _ _ _ _ _ _ _ _ g0
 rw [ZpR] at r0
 subst e0
 obtain ⟨n1,y1,g1,b1⟩:=hf 1 _ 24 1 rfl rfl rfl
 obtain ⟨a1,⟨x1,e1,p1⟩,r1⟩:=ZjJ _ _ _ _ _ _ _ _ g1
 rw [ZmT] at r1
 subst e1
 obtain ⟨n2,y2,g2,b2⟩:=hf 2 _ 24 2 rfl rfl rfl
 obtain ⟨a2,⟨x2,e2,p2⟩,r2⟩:=ZjJ _ _ _ _ _ _ _ _ g2
 rw [Zol] at r2
 subst e2
 exact ⟨_,⟨(⟨x0,x1,x2⟩:Raw),rfl,⟨okNat.up b1 p1,okNat.up b2 p2⟩⟩,JI (o:=0) (n:=1) r0 (JI (o:=1) (n:=1) r1 (JI (o:=2) (n:=1) r2 (Zh3 hl) (by omega)) (by omega)) (by omega)⟩
def okO_Term(N:Nat)(x:Int × Raw):Prop:=okInt .i64 N x.1∧okRaw N x.2
theorem okO_Term.up{N M:Nat}{x:Int × Raw}(hN:N≤M)(h:okO_Term N x):okO_Term M x:=⟨okInt.up hN h.1,okRaw.up hN h.2⟩
theorem Zsq: Tryz.prog.cellsOf 68=4:=by kernel_rfl
theorem Zkd: Tryz.prog.cellsOf 3=1:=by kernel_rfl
theorem ZkC: Tryz.prog.cellsOf 26=3:=by kernel_rfl
set_option maxRecDepth 100000 in
theorem Zrj:Opens w 68 (fun N us=>∃x:Int × Raw,us=YR x∧okO_Term N x):=fun H enc base spare held fuel cs x hx=>by
 obtain ⟨hl,hf⟩:=Zue Tryz.underlying68 hx
 rw [Zsq] at hl
 obtain ⟨n0,y0,g0,b0⟩:=hf 0 _ 3 0 rfl rfl rfl
 obtain ⟨a0,⟨x0,e0,p0⟩,r0⟩:=(Zq1 Tryz.underlying3) _ _ _ _ _ _ _ _ g0
 rw [Zkd] at r0
 subst e0
 obtain ⟨n1,y1,g1,b1⟩:=hf 1 _ 26 1 rfl rfl rfl
 obtain ⟨a1,⟨x1,e1,p1⟩,r1⟩:=ZoR _ _ _ _ _ _ _ _ g1
 rw [ZkC] at r1
 subst e1
 exact ⟨_,⟨(⟨x0,x1⟩:Int × Raw),rfl,⟨okInt.up b0 p0,okRaw.up b1 p1⟩⟩,JI (o:=0) (n:=1) r0 (JI (o:=1) (n:=3) r1 (Zh3 hl) (by omega)) (by omega)⟩
def okO_LTerm(N:Nat)(L:List (Int × Raw)):Prop:=L.length≤N∧∀x∈L,okO_Term N x
theorem okO_LTerm.up{N M:Nat}{L:List (Int × Raw)}(hN:N≤M)(h:okO_LTerm N L):okO_LTerm M L:=⟨Nat.le_trans h.1 hN,fun x hx=>okO_Term.up hN (h.2 x hx)⟩
theorem Zkr: Tryz.prog.cellsOf 68=4:=by kernel_rfl
theorem Znj:Opens w 22 (fun N us=>∃L:List (Int × Raw),us=[.sl 4 (L.map YR)]∧okO_LTerm N L):=
 (ZeQ (α:=Int × Raw) (enc:=YR) (ok:=okO_Term) Tryz.underlying22 Zkr (by omega) Zrj (fun N M x h g=>okO_Term.up h g)).mono fun N us ⟨L,h1,h2,h3⟩=>⟨L,h1,h2,h3⟩
def okO_Affine(N:Nat)(x:Yo):Prop:=okO_LTerm N x.1∧okRaw N x.2
theorem okO_Affine.up{N M:Nat}{x:Yo}(hN:N≤M)(h:okO_Affine N x):okO_Affine M x:=⟨okO_LTerm.up hN h.1,okRaw.up hN h.2⟩
theorem Zk8: Tryz.prog.cellsOf 28=4:=by kernel_rfl
theorem ZfP: Tryz.prog.cellsOf 22=1:=by kernel_rfl
theorem ZfX: Tryz.prog.cellsOf 26=3:=by kernel_rfl
set_option maxRecDepth 100000 in
theorem Zj0:Opens w 28 (fun N us=>∃x:Yo,us=Yw x∧okO_Affine N x):=fun H enc base spare held fuel cs x hx=>by
 obtain ⟨hl,hf⟩:=Zue Tryz.underlying28 hx
 rw [Zk8] at hl
 obtain ⟨n0,y0,g0,b0⟩:=hf 0 _ 22 0 rfl rfl rfl
 obtain ⟨a0,⟨x0,e0,p0⟩,r0⟩:=Znj _ _ _ _ _ _ _ _ g0
 rw [ZfP] at r0
 subst e0
 obtain ⟨n1,y1,g1,b1⟩:=hf 1 _ 26 1 rfl rfl rfl
 obtain ⟨a1,⟨x1,e1,p1⟩,r1⟩:=ZoR _ _ _ _ _ _ _ _ g1
 rw [ZfX] at r1
 subst e1
 exact ⟨_,⟨(⟨x0,x1⟩:Yo),rfl,⟨okO_LTerm.up b0 p0,okRaw.up b1 p1⟩⟩,JI (o:=0) (n:=1) r0 (JI (o:=1) (n:=3) r1 (Zh3 hl) (by omega)) (by omega)⟩
def okO_LRat(N:Nat)(L:List (Raw)):Prop:=L.length≤N∧∀x∈L,okRaw N x
theorem okO_LRat.up{N M:Nat}{L:List (Raw)}(hN:N≤M)(h:okO_LRat N L):okO_LRat M L:=⟨Nat.le_trans h.1 hN,fun x hx=>okRaw.up hN (h.2 x hx)⟩
def okO_LAffine(N:Nat)(L:List (Yo)):Prop:=L.length≤N∧∀x∈L,okO_Affine N x
theorem okO_LAffine.up{N M:Nat}{L:List (Yo)}(hN:N≤M)(h:okO_LAffine N L):okO_LAffine M L:=⟨Nat.le_trans h.1 hN,fun x hx=>okO_Affine.up hN (h.2 x hx)⟩
theorem Zgz: Tryz.prog.cellsOf 28=4:=by kernel_rfl
theorem Zhm:Opens w 40 (fun N us=>∃L:List (Yo),us=[.sl 4 (L.map Yw)]∧okO_LAffine N L):=
 (ZeQ (α:=Yo) (enc:=Yw) (ok:=okO_Affine) Tryz.underlying40 Zgz (by omega) Zj0 (fun N M x h g=>okO_Affine.up h g)).mono fun N us ⟨L,h1,h2,h3⟩=>⟨L,h1,h2,h3⟩
end
end
section
open Go.ChangeShapes Go.WideShapes Go.RowKit Go.Deep
theorem gT: Tryz.prog.globalNamed "internal/strconv.uint64pow10"=some 0:=by kernel_rfl
theorem tT:(Tryz.prog.globals[0]?).map (·.type)=some 178:=by kernel_rfl
theorem Zqf{g:Nat}{cs:List AV}(h:Zlj g=some cs):g= 0∧cs=Lib.pow10Tab.map fun z=>AV.lit (.int .u64 z):=by
 unfold Zlj at h
 split at h
 ·rename_i e
  subst e
  cases h
  exact ⟨rfl,rfl⟩
 ·cases h
theorem Zj3 {w:World} (hT:Lib.TabIs Tryz.prog w "internal/strconv.uint64pow10" .u64 Lib.pow10Tab):Glob w okT:=by
 refine ⟨fun g cs hg=>?_,fun g hg=>?_,fun g hg=>absurd hg (by simp [Zyz])⟩
 ·obtain ⟨rfl,rfl⟩:=Zqf hg
  unfold Lib.TabIs World.var? at hT
  rw [gT] at hT
  simp only [Option.bind_some] at hT
  split at hT
  ·rename_i c t fr hc
   cases hT
   have key:∀(j:Nat) (d:AV),(Lib.pow10Tab.map fun z=>AV.lit (.int .u64 z))[j]?=some d→∃v,w.cell? ⟨0,0+j,none⟩=some v∧d=.lit v:=fun j d hj=>by
    rw [List.getElem?_map] at hj
    obtain ⟨z,hz,rfl⟩:=Option.map_eq_some_iff.1 hj
    refine ⟨.int .u64 z,?_,rfl⟩
    rw [Nat.zero_add]
    simp only [World.cell?,hc]
    simp [hz]
   refine ⟨.mem (fun j d hj=>?_) (fun j d hj=>?_),t,?_⟩
   ·obtain ⟨v,h1,_⟩:=key j d hj
    exact ⟨trivial,by rw [h1];rfl⟩
   ·obtain ⟨v,h1,rfl⟩:=key j d hj
    rw [h1]
    exact .lit _
   ·simp [World.shape?,hc]
  ·cases hT
 ·exact absurd hg (by simp [ZyC])
theorem ZkL {W:World} (h:laidMet Tryz.prog [("math/bits.deBruijn32tab",Rows.laid_math_bits_deBruijn32tab),("math/bits.deBruijn64tab",Rows.laid_math_bits_deBruijn64tab),("internal/strconv.uint64pow10",Rows.laid_internal_strconv_uint64pow10)] W):Glob W okT:=by
 have h3:=laidMet.tail (laidMet.tail h)
 have hT:Lib.TabIs Tryz.prog W "internal/strconv.uint64pow10" .u64 Lib.pow10Tab:=Lib.tabIs_of_head gT tT Tryz.underlying178 Tryz.underlying91 (by kernel_rfl) (by kernel_rfl) h3
 exact Zj3 hT
theorem Zp8{w:World}{ok:Nat→Nat→Prop}{e:Ending}{w':World}(h:∃v,e=.returned v∧RepT w' (okN ok w w') (.lit (.bool true)) v∧Below w.heap.size w w'):RetB true w e w':=by
 obtain ⟨v,rfl,h2,h3⟩:=h
 cases h2
 exact ⟨rfl,h3⟩
end
section
open Go.ChangeShapes Go.WideShapes Go.RowKit Go.Deep
theorem ZtQ{N:Nat}{r:Raw}(h:okRaw N r)(hN:N≤1048576):RawB r:=⟨h.1.1,h.2.1,by have:=h.1.2;omega,by have:=h.2.2;omega⟩
theorem ZxN{N:Nat}{f:Yo}(h:okO_Affine N f)(hN:N≤1048576):Zne f:=⟨fun t ht=>ZtQ (h.1.2 t ht).2 hN,ZtQ h.2 hN⟩
theorem Zwt(w:World){v0:Value}{l:List Yo}{z:Int}{N:Nat}(r0:RepT w okT (.sl 4 (l.map Yw)) v0)(k0:okO_LAffine N l)(hN:N≤1048576)(hG:Glob w okT):
  Calls Tryz.prog 6 #[v0,.int .i64 z] w (RetB true w):=
 (Zrz (Zu7 (n:=0) (by have:=k0.1;omega) (fun f hf=>ZxN (k0.2 f hf) hN)) w okT _ hG (ZgJ r0 (ZgJ (.lit _) Zrn))).mono fun _ _ h=>Zp8 h
end
end Go.Proofs.YtdaonnnlgfhlaaaGreatDoor
