import Derived.Test.YtdaonnnlgfhlaaaGreatDoorGF24
import Derived.Test.YtdaonnnlgfhlaaaGreatDoorGF25
import Derived.Test.YtdaonnnlgfhlaaaGreatDoorGF19
import Derived.Test.YtdaonnnlgfhlaaaGreatDoorGF16
import Derived.Test.YtdaonnnlgfhlaaaGreatDoorGF17
import Derived.Test.YtdaonnnlgfhlaaaGreatDoorGF21
set_option linter.all false
set_option maxHeartbeats 6400000
set_option maxRecDepth 100000
namespace Go.Proofs.YtdaonnnlgfhlaaaGreatDoor
section
open Go.RowKit
attribute [local irreducible] run Zp Zk exec
theorem Qs{α β:Type}(g:β→α→β):∀(L:List α) (i:Nat) (b:β),VL (fun _ b x=>g b x) i b L=L.foldl g b
 | [],_,_=>rfl
 | x::L,i,b=>by rw [VL,Qs g L];rfl
theorem Zt2{f:Zf}{vars:Int}(hs:Srt f.1)(hv:∀t∈f.1,0≤t.1∧t.1<vars):OkFm f vars:=fun i hi v c hx=>by
 obtain ⟨hlt,he⟩:=List.getElem?_eq_some_iff.1 hx
 have hm:=List.mem_of_getElem? hx
 refine ⟨(hv _ hm).1,(hv _ hm).2,hs.2 _ hm,fun v' c' h0 hy=>?_⟩
 obtain ⟨hlt2,he2⟩:=List.getElem?_eq_some_iff.1 hy
 have:=(List.pairwise_iff_getElem.1 hs.1) (i-1) i hlt2 hlt (by omega)
 rw [he,he2] at this
 exact this
theorem FB.ok{m:Nat}{f:Zf}(h:FB m f){vars:Int}(hv:1099511627776≤vars):OkFm f vars:=Zt2 h.s fun t ht=>⟨(h.v t ht).1,by have:=(h.v t ht).2;omega⟩
theorem JY(F:List (Int × Rat))(c:Rat):(Yf F c).length≤F.length:=by
 induction F with
 | nil=>exact Nat.le_refl _
 | cons t F ih=>
   have e:Yf (t::F) c=Z4 t.1 (t.2*c)++Yf F c:=rfl
   have h1:(Z4 t.1 (t.2*c)).length≤1:=by unfold Z4;split <;>simp
   rw [e,List.length_append,List.length_cons]
   omega
theorem FB.inr{m:Nat}{f:Zf}(h:FB m f):InR 1099511627776 f.1:=fun t ht=>⟨(h.v t ht).1,by have:=(h.v t ht).2;omega⟩
theorem FB.scl{m k:Nat}{f:Zf}{c:Rat}(h:FB m f)(hc:H c≤k):FB (m+k) (Yf f.1 c,f.2*c):=by
 refine ⟨(YH h.s).1,⟨FH.scl h.h.1 hc,?_⟩,Nat.le_trans (JY _ _) h.l,fun t ht=>?_⟩
 ·have a:=UX f.2 c
  have b:=h.h.2
  show H (f.2*c)≤_
  omega
 ·have:=InR.scl (c:=c) h.inr t ht
  exact ⟨this.1,by have:=this.2;omega⟩
structure RB (m:Nat) (R:List Zf):Prop where
 r:∀f∈R,FB m f∧f.1.length≤50
 n:R.length≤2500
theorem FB.comb{m:Nat}{v:Int}{f g:Zf}(hf:FB m f)(hg:FB m g)(lf:f.1.length≤50)(lg:g.1.length≤50)(h1:1≤m):FB (4*m+1) (Yv v f g):=by
 refine ⟨(WM hf.s hg.s).1,FH.comb hf.s hg.s hf.h hg.h h1,?_,fun t ht=>?_⟩
 ·have a:=Zgj (Yf g.1 (cof f.1 v)) (Yf f.1 (-cof g.1 v))
  have b:=JY g.1 (cof f.1 v)
  have c:=JY f.1 (-cof g.1 v)
  show (X7 (Yf f.1 (-cof g.1 v)) (Yf g.1 (cof f.1 v))).length≤100
  omega
 ·have:=InR.add (InR.scl (c:=-cof g.1 v) hf.inr) (InR.scl (c:=cof f.1 v) hg.inr) t ht
  exact ⟨this.1,by have:=this.2;omega⟩
def Bds(L:List Zf):Prop:=∀g∈L,BdF 17179869184 g
theorem Bds.nil:Bds []:=fun g hg=>by cases hg
theorem Bds.col{m:Nat}{L:List Zf}{f:Zf}(hL:Bds L)(h:FB m f)(h1:1≤m)(hm:m≤5000):Bds (ZV L f):=fun g hg=>by
 unfold ZV at hg
 split at hg
 ·exact hL g hg
 split at hg
 ·exact hL g hg
 ·rcases List.mem_append.1 hg with h2|h2
  ·exact hL g h2
  ·rw [List.mem_singleton.1 h2]
   exact (h.norm h1).bd (by omega)
def stE(v:Int)(b:List Zf × List Zf × List Zf)(f:Zf):List Zf × List Zf × List Zf:=
 if cof f.1 v=0 then (ZV b.1 f,b.2.1,b.2.2) else if 0<cof f.1 v then (b.1,b.2.1++[f],b.2.2) else (b.1,b.2.1,b.2.2++[f])
theorem U8(v:Int):∀(R:List Zf) (o u d:List Zf),R.foldl (stE v) (o,u,d)=((QM v R).foldl ZV o,u++upL v R,d++QP v R)
 | [],o,u,d=>by simp [QM,upL,QP]
 | f::R,o,u,d=>by
   rw [List.foldl_cons]
   by_cases h0:cof f.1 v=0
   ·have e:stE v (o,u,d) f=(ZV o f,u,d):=if_pos h0
    rw [e,U8 v R,Zbz h0,ZaF (by rw [h0];decide),V9 (by rw [h0];decide)];rfl
   ·rw [KR h0]
    by_cases h1:0<cof f.1 v
    ·have e:stE v (o,u,d) f=(o,u++[f],d):=by unfold stE;rw [if_neg h0,if_pos h1]
     rw [e,U8 v R,ZeD h1,V9 (by grind)];simp
    ·have e:stE v (o,u,d) f=(o,u,d++[f]):=by unfold stE;rw [if_neg h0,if_neg h1]
     rw [e,U8 v R,ZaF h1,ZbA (by grind)];simp
theorem ZdD(v:Int)(R:List Zf):(upL v R).foldl (fun b f=>(QP v R).foldl (fun b g=>ZV b (Yv v f g)) b) ((QM v R).foldl ZV [])=Y3 v R:=by
 unfold Y3 ZbS
 rw [List.foldl_append]
 generalize (QM v R).foldl ZV []=b
 generalize upL v R=U
 induction U generalizing b with
 | nil=>rfl
 | cons f U ih=>rw [List.foldl_cons,List.flatMap_cons,List.foldl_append,ih,List.foldl_map]
section
variable {n m : Nat} {R : List Zf} {v : Int}
theorem Zma{vars:Int}(hB:Bds R)(hl:R.length≤100000):run (n+1) 44 [.sl 4 (R.map Zh),.lit (.int .i64 vars)]=some (.lit (.bool (tv (∀f∈R,OkFm f vars)))):=by
 have X:=Q1 (O:=tab (n+1)) (P:= Tryz.prog) (m:=0) (N:=18) (lives:=Za 44) (r:=2) (C:=Vk) (M:=R.length) (enc:=fun i=>XH R vars i) (p:=fun i=>tv (∀f,R[i]?=some f→OkFm f vars)) (exN:=.exit 0) (exE:=.ret) (out:=Zak) (outE:=Zaj) (by omega) (by simp) (by simp)
  (fun i hi _=>by
   have hx:R[i]?=some R[i]:=List.getElem?_eq_getElem hi
   obtain ⟨g,hg⟩:∃g,R[i]=g:=⟨_,rfl⟩
   rw [hg] at hx
   obtain ⟨G,q⟩:=g
   have K:=Zmy (n:=n) (vars:=vars) (hB _ (List.mem_of_getElem? hx))
   refine ⟨fun hp=>Zpr (by omega) hx K (Q8 (YG hp _ hx)) ⟨by omega,by omega⟩,fun hp=>Zpf (by omega) hx K (Xx fun h9=>QV hp fun f hf=>?_)⟩
   rw [hx] at hf;cases hf
   exact h9)
  (ZmB (by omega))
 by_cases h:∀f∈R,OkFm f vars
 ·rw [if_pos (fun i hi=>Q8 fun f hf=>h f (List.mem_of_getElem? hf))] at X
  rw [Q8 h]
  exact Zwc X
 ·rw [if_neg (fun h2=>h fun f hf=>by
   obtain ⟨i,hi⟩:=List.mem_iff_getElem?.1 hf
   exact YG (h2 i (List.getElem?_eq_some_iff.1 hi).1) f hi)] at X
  rw [Xx h]
  exact Zwg X
theorem ZfU(hR:RB m R):(∀f∈upL v R,FB m f∧f.1.length≤50)∧(∀f∈QP v R,FB m f∧f.1.length≤50)∧(upL v R).length≤2500∧(QP v R).length≤2500:=by
 have:=Zcu v R
 have:=hR.n
 exact ⟨fun f hf=>hR.r f (List.mem_filter.1 hf).1,fun f hf=>hR.r f (List.mem_filter.1 hf).1,by omega,by omega⟩
theorem Zul{f g:Zf}(hf:FB m f)(hg:FB m g)(lf:f.1.length≤50)(lg:g.1.length≤50)(h1:1≤m)(hm:m≤1200):
  ∃r s:Zf,run (n+8) 37 [Ze f,Zn (-cof g.1 v)]=some (Ze r)∧run (n+8) 37 [Ze g,Zn (cof f.1 v)]=some (Ze s)∧run (n+8) 48 [Ze r,Ze s]=some (Ze (Yv v f g)):=by
 have c1:H (-cof g.1 v)≤m:=by rw [Zcz];exact J7 h1 hg.h.1
 have c2:H (cof f.1 v)≤m:=J7 h1 hf.h.1
 have r1:=hf.scl c1
 have r2:=hg.scl c2
 have K1:=ZhE (n:=n+6) (f:=f) (c:=-cof g.1 v) (b:=m) hf.h.1 (by omega) (by have:=hf.h.2;omega) (by omega) (by omega)
 have K2:=ZhE (n:=n+6) (f:=g) (c:=cof f.1 v) (b:=m) hg.h.1 (by omega) (by have:=hg.h.2;omega) (by omega) (by omega)
 rw [Jl] at K1 K2
 have K3:=ZvU (n:=n+6) (b:=m+m) r1.h.1 r2.h.1 (by omega) (by have:=r1.h.2;omega) (by have:=r2.h.2;omega) (by have:=r1.l;omega) (by have:=r2.l;omega)
 rw [ZdJ r1.s r2.s,ZrD r2.s] at K3
 exact ⟨_,_,K1,K2,K3⟩
theorem ZvO{f g:Zf}(hf:FB m f)(hg:FB m g)(lf:f.1.length≤50)(lg:g.1.length≤50)(h1:1≤m)(hm:m≤1200):
  ∃r s:Zf,run (n+8) 41 [Ze f,Zn (-cof g.1 v)]=some (Ze r)∧run (n+8) 41 [Ze g,Zn (cof f.1 v)]=some (Ze s)∧run (n+8) 50 [Ze r,Ze s]=some (Ze (Yv v f g)):=by
 have c1:H (-cof g.1 v)≤m:=by rw [Zcz];exact J7 h1 hg.h.1
 have c2:H (cof f.1 v)≤m:=J7 h1 hf.h.1
 have r1:=hf.scl c1
 have r2:=hg.scl c2
 have K1:=Zay (n:=n+7) (f:=f) (c:=-cof g.1 v) (hf.mono (k:=1000000) (by omega)).tm (by omega) (by have:=hf.h.2;omega) (by omega)
 have K2:=Zay (n:=n+7) (f:=g) (c:=cof f.1 v) (hg.mono (k:=1000000) (by omega)).tm (by omega) (by have:=hg.h.2;omega) (by omega)
 have hl1:(Yf f.1 (-cof g.1 v)).length≤50:=Nat.le_trans (JY _ _) lf
 have hl2:(Yf g.1 (cof f.1 v)).length≤50:=Nat.le_trans (JY _ _) lg
 have K3:=ZtI (n:=n+6) (m:=2400) (b:=2400) (r2.mono (by omega)).tm (by dsimp only;omega) (r1.mono (by omega)).tm (by dsimp only;omega) (by
  dsimp only
  have:(2400+1)*((Yf g.1 (cof f.1 v)).length+1)≤(2400+1)*51:=Nat.mul_le_mul_left _ (by omega)
  omega) (by have:=r1.h.2;omega) (by have:=r2.h.2;omega)
 exact ⟨_,_,K1,K2,K3⟩
theorem ZrX{up down o:List Zf}{f:Zf}{i0:Nat}(hf:FB m f∧f.1.length≤50)(hd:∀g∈down,FB m g∧g.1.length≤50)(hdl:down.length≤2500)(h1:1≤m)(hm:m≤1200)(ho:Vpos o)(hol:o.length≤7000000):
  Zk Tryz.prog (tab (n+9)) 0 93 (Za 17) 20 Ws (Q0 v down up i0 0 o (Qp o) f.1 f.2 (cof f.1 v))=some (.exit 5,VY v down up i0 (down.foldl (fun b g=>ZV b (Yv v f g)) o) (Qp (down.foldl (fun b g=>ZV b (Yv v f g)) o)))∧(Vpos (down.foldl (fun b g=>ZV b (Yv v f g)) o)∧(down.foldl (fun b g=>ZV b (Yv v f g)) o).length≤o.length+down.length):=by
 have X:=XM (O:=tab (n+9)) (P:= Tryz.prog) (m:=0) (N:=93) (lives:=Za 17) (r:=20) (C:=Ws) (exN:=.exit 5) (L:=down) (enc:=fun i b=>Q0 v down up i0 i b (Qp b) f.1 f.2 (cof f.1 v)) (f:=fun _ b (g:Zf)=>ZV b (Yv v f g)) (Inv:=fun i b=>Vpos b∧b.length≤o.length+i) (out:=fun b=>VY v down up i0 b (Qp b)) o ⟨ho,by omega⟩ (by omega) (by simp)
  (fun i g b hi hI=>by
   obtain ⟨hI1,hI2⟩:=hI
   have hlt:=(List.getElem?_eq_some_iff.1 hi).1
   obtain ⟨hg,lg⟩:=hd g (List.mem_of_getElem? hi)
   obtain ⟨r,s,K1,K2,K3⟩:=Zul (n:=n) (v:=v) hf.1 hg hf.2 lg h1 hm
   have hc:=FB.comb (v:=v) hf.1 hg hf.2 lg h1
   have Kc:=Zmb (n:=n+5) (v:=v) (hg.bd (k:=17179869184) (by omega))
   have hcH:H (cof g.1 v)≤17179869184:=Nat.le_trans (J7 h1 hg.h.1) (by omega)
   have hln:=US b (Yv v f g)
   refine ⟨?_,hI1.col hc,by omega⟩
   rcases Zhr (n:=n) hc (by omega) (by omega) hI1 (by omega) with ⟨e,K⟩|K
   ·rw [e]
    exact ZlH (by omega) hlt hi Kc hcH K1 K2 K3 K ⟨by omega,by omega⟩
   ·exact Zkf (by omega) hlt hi Kc hcH K1 K2 K3 K ⟨by omega,by omega⟩)
  (fun b hI=>ZkO (by omega))
 rw [Qs] at X
 exact X
theorem Zrh{up down o:List Zf}(hu:∀g∈up,FB m g∧g.1.length≤50)(hul:up.length≤2500)(hd:∀g∈down,FB m g∧g.1.length≤50)(hdl:down.length≤2500)(h1:1≤m)(hm:m≤1200)(ho:Vpos o)(hol:o.length≤2500):
  Zk Tryz.prog (tab (n+9)) 0 93 (Za 17) 16 Xi (Wz v down up 0 o (Qp o))=some (.exit 3,Ud (up.foldl (fun b f=>down.foldl (fun b g=>ZV b (Yv v f g)) b) o) (Qp (up.foldl (fun b f=>down.foldl (fun b g=>ZV b (Yv v f g)) b) o))):=by
 have X:=XM (O:=tab (n+9)) (P:= Tryz.prog) (m:=0) (N:=93) (lives:=Za 17) (r:=16) (C:=Xi) (exN:=.exit 3) (L:=up) (enc:=fun i b=>Wz v down up i b (Qp b)) (f:=fun _ b (f:Zf)=>down.foldl (fun b g=>ZV b (Yv v f g)) b) (Inv:=fun i b=>Vpos b∧b.length≤2500+i*2500) (out:=fun b=>Ud b (Qp b)) o ⟨ho,by omega⟩ (by omega) (by simp)
  (fun i f b hi hI=>by
   obtain ⟨hI1,hI2⟩:=hI
   have hlt:=(List.getElem?_eq_some_iff.1 hi).1
   have hf:=hu f (List.mem_of_getElem? hi)
   have Kc:=Zmb (n:=n+5) (v:=v) (hf.1.bd (k:=17179869184) (by omega))
   obtain ⟨L5,a1,a2⟩:=ZrX (n:=n) (v:=v) (up:=up) (i0:=i) hf hd hdl h1 hm hI1 (by omega)
   exact ⟨ZlB (by omega) hlt hi Kc L5 ⟨by omega,by omega⟩,a1,by omega⟩)
  (fun b hI=>Zkb (by omega))
 rw [Qs] at X
 exact X.1
theorem ZrV(hR:RB m R)(h1:1≤m)(hm:m≤1200):
  Zk Tryz.prog (tab (n+9)) 0 93 (Za 17) 6 X4 (QA R v [] [] 0 [] [])=some (.exit 0,KO v (upL v R) (QP v R) ((QM v R).foldl ZV []) (Qp ((QM v R).foldl ZV [])))∧Vpos ((QM v R).foldl ZV [])∧((QM v R).foldl ZV []).length≤2500:=by
 have hn:=hR.n
 have X:=XM (O:=tab (n+9)) (P:= Tryz.prog) (m:=0) (N:=93) (lives:=Za 17) (r:=6) (C:=X4) (exN:=.exit 0) (L:=R) (enc:=fun i (b:List Zf × List Zf × List Zf)=>QA R v b.2.1 b.2.2 i b.1 (Qp b.1)) (f:=fun _ b f=>stE v b f) (Inv:=fun i b=>Vpos b.1∧b.1.length≤i∧b.2.1.length≤i∧b.2.2.length≤i) (out:=fun b=>KO v b.2.1 b.2.2 b.1 (Qp b.1)) ([],[],[]) ⟨Vpos.nil,by simp,by simp,by simp⟩ (by omega) (by simp)
  (fun i f b hi hI=>by
   obtain ⟨o,u,d⟩:=b
   obtain ⟨hI1,hI2,hI3,hI4⟩:=hI
   dsimp only at hI1 hI2 hI3 hI4
   have hlt:=(List.getElem?_eq_some_iff.1 hi).1
   obtain ⟨hf,lf⟩:=hR.r f (List.mem_of_getElem? hi)
   have Kc:=Zmb (n:=n+5) (v:=v) (hf.bd (k:=17179869184) (by omega))
   have hcH:H (cof f.1 v)≤17179869184:=Nat.le_trans (J7 h1 hf.h.1) (by omega)
   have hln:=US o f
   unfold stE
   dsimp only
   rcases Wd (cof f.1 v) with ⟨c1,c2⟩|⟨c1,c2⟩|⟨c1,c2⟩
   ·rw [if_neg (by grind),if_pos c1]
    exact ⟨Zpq (by omega) hi Kc hcH (by omega) c2 (by omega) ⟨by omega,by omega⟩,hI1,by dsimp only;omega,by simp;omega,by dsimp only;omega⟩
   ·rw [if_neg (by grind),if_neg (by grind)]
    exact ⟨Zn6 (by omega) hi Kc hcH (by omega) (by omega) (by omega) ⟨by omega,by omega⟩,hI1,by dsimp only;omega,by dsimp only;omega,by simp;omega⟩
   ·rw [if_pos c1]
    refine ⟨?_,hI1.col hf,by dsimp only;omega,by dsimp only;omega,by dsimp only;omega⟩
    rcases Zhr (n:=n) hf h1 (by omega) hI1 (by omega) with ⟨e,K⟩|K
    ·rw [e]
     exact Zm9 (by omega) hi Kc hcH c2 K ⟨by omega,by omega⟩
    ·exact Zqe (by omega) hi Kc hcH c2 K ⟨by omega,by omega⟩)
  (fun b hI=>ZnD (by omega))
 rw [Qs,U8] at X
 obtain ⟨X1,X2,X3,_⟩:=X
 simp only [List.nil_append] at X1
 exact ⟨X1,X2,by dsimp only at X3;omega⟩
theorem RB.bds(hR:RB m R)(hm:m≤1200):Bds R:=fun f hf=>(hR.r f hf).1.bd (by omega)
theorem ZvD(hR:RB m R)(h1:1≤m)(hm:m≤1200)(hv:0≤v)(he:(Y3 v R).length≤4096):
  run (n+9) 17 [.sl 4 (R.map Zh),.lit (.int .i64 v)]=some (.tup [.sl 4 ((Y3 v R).map Zh),.lit (.int .i64 0)]):=by
 have K2:=Zma (n:=n+7) (vars:=4611686018427387904) (hR.bds hm) (by have:=hR.n;omega)
 obtain ⟨L4,a1,a2⟩:=ZrV (n:=n) (v:=v) hR h1 hm
 obtain ⟨p1,p2,p3,p4⟩:=ZfU (v:=v) hR
 have L5:=Zrh (n:=n) (v:=v) p1 p3 p2 p4 h1 hm a1 a2
 rw [ZdD] at L5
 exact Zvs (by omega) K2 (Q8 fun f hf=>(hR.r f hf).1.ok (by omega)) L4 L5 (by omega)
theorem Zsb{up down o:List Zf}{f:Zf}{i0:Nat}(hi0:up[i0]?=some f)(hf:FB m f∧f.1.length≤50)(hd:∀g∈down,FB m g∧g.1.length≤50)(hdl:down.length≤2500)(h1:1≤m)(hm:m≤1200)(ho:Bds o)(hol:o.length≤7000000):
  Zk Tryz.prog (tab (n+9)) 0 103 (Za 18) 19 Wx (QW v o up down i0 0)=some (.exit 5,Uk v (down.foldl (fun b g=>ZV b (Yv v f g)) o) up down i0)∧(Bds (down.foldl (fun b g=>ZV b (Yv v f g)) o)∧(down.foldl (fun b g=>ZV b (Yv v f g)) o).length≤o.length+down.length):=by
 have hl0:=(List.getElem?_eq_some_iff.1 hi0).1
 have X:=XM (O:=tab (n+9)) (P:= Tryz.prog) (m:=0) (N:=103) (lives:=Za 18) (r:=19) (C:=Wx) (exN:=.exit 5) (L:=down) (enc:=fun i b=>QW v b up down i0 i) (f:=fun _ b (g:Zf)=>ZV b (Yv v f g)) (Inv:=fun i b=>Bds b∧b.length≤o.length+i) (out:=fun b=>Uk v b up down i0) o ⟨ho,by omega⟩ (by omega) (by simp)
  (fun i g b hi hI=>by
   obtain ⟨hI1,hI2⟩:=hI
   have hlt:=(List.getElem?_eq_some_iff.1 hi).1
   obtain ⟨hg,lg⟩:=hd g (List.mem_of_getElem? hi)
   obtain ⟨r,s,K1,K2,K3⟩:=ZvO (n:=n) (v:=v) hf.1 hg hf.2 lg h1 hm
   have hc:=FB.comb (v:=v) hf.1 hg hf.2 lg h1
   have Kf:=Zjk (n:=n+8) (f:=f) (v:=v) (by have:=hf.2;omega)
   have Kg:=Zjk (n:=n+8) (f:=g) (v:=v) (by omega)
   have hcH:H (cof g.1 v)≤17179869184:=Nat.le_trans (J7 h1 hg.h.1) (by omega)
   have hln:=US b (Yv v f g)
   refine ⟨?_,hI1.col hc (by omega) (by omega),by omega⟩
   rcases Zh9 (n:=n) hc (by omega) (by omega) hI1 (by omega) with ⟨e,K⟩|K
   ·rw [e]
    exact ZlG (by omega) hl0 hi0 Kf hlt hi Kg hcH K1 K2 K3 K ⟨by omega,by omega⟩
   ·exact ZkI (by omega) hl0 hi0 Kf hlt hi Kg hcH K1 K2 K3 K ⟨by omega,by omega⟩)
  (fun b hI=>Zlc (by omega))
 rw [Qs] at X
 exact X
theorem ZrN{up down o:List Zf}(hu:∀g∈up,FB m g∧g.1.length≤50)(hul:up.length≤2500)(hd:∀g∈down,FB m g∧g.1.length≤50)(hdl:down.length≤2500)(h1:1≤m)(hm:m≤1200)(ho:Bds o)(hol:o.length≤2500):
  Zk Tryz.prog (tab (n+9)) 0 103 (Za 18) 16 Xk (Wu v o up down 0)=some (.exit 3,Ug (up.foldl (fun b f=>down.foldl (fun b g=>ZV b (Yv v f g)) b) o)):=by
 have X:=XM (O:=tab (n+9)) (P:= Tryz.prog) (m:=0) (N:=103) (lives:=Za 18) (r:=16) (C:=Xk) (exN:=.exit 3) (L:=up) (enc:=fun i b=>Wu v b up down i) (f:=fun _ b (f:Zf)=>down.foldl (fun b g=>ZV b (Yv v f g)) b) (Inv:=fun i b=>Bds b∧b.length≤2500+i*2500) (out:=fun b=>Ug b) o ⟨ho,by omega⟩ (by omega) (by simp)
  (fun i f b hi hI=>by
   obtain ⟨hI1,hI2⟩:=hI
   have hlt:=(List.getElem?_eq_some_iff.1 hi).1
   have hf:=hu f (List.mem_of_getElem? hi)
   obtain ⟨L5,a1,a2⟩:=Zsb (n:=n) (v:=v) hi hf hd hdl h1 hm hI1 (by omega)
   exact ⟨ZlA (by omega) L5 ⟨by omega,by omega⟩,a1,by omega⟩)
  (fun b hI=>Zlz (by omega))
 rw [Qs] at X
 exact X.1
theorem Zr6(hR:RB m R)(h1:1≤m)(hm:m≤1200):
  Zk Tryz.prog (tab (n+9)) 0 103 (Za 18) 5 XJ (Qu R v [] [] [] 0)=some (.exit 0,Jk v ((QM v R).foldl ZV []) (upL v R) (QP v R))∧Bds ((QM v R).foldl ZV [])∧((QM v R).foldl ZV []).length≤2500:=by
 have hn:=hR.n
 have X:=XM (O:=tab (n+9)) (P:= Tryz.prog) (m:=0) (N:=103) (lives:=Za 18) (r:=5) (C:=XJ) (exN:=.exit 0) (L:=R) (enc:=fun i (b:List Zf × List Zf × List Zf)=>Qu R v b.1 b.2.1 b.2.2 i) (f:=fun _ b f=>stE v b f) (Inv:=fun i b=>Bds b.1∧b.1.length≤i∧b.2.1.length≤i∧b.2.2.length≤i) (out:=fun b=>Jk v b.1 b.2.1 b.2.2) ([],[],[]) ⟨Bds.nil,by simp,by simp,by simp⟩ (by omega) (by simp)
  (fun i f b hi hI=>by
   obtain ⟨o,u,d⟩:=b
   obtain ⟨hI1,hI2,hI3,hI4⟩:=hI
   dsimp only at hI1 hI2 hI3 hI4
   have hlt:=(List.getElem?_eq_some_iff.1 hi).1
   obtain ⟨hf,lf⟩:=hR.r f (List.mem_of_getElem? hi)
   have Kv:=Zg0 (n:=n+8) (vars:=1099511627776) (hf.bd (k:=17179869184) (by omega))
   have hok:tv (OkFm f 1099511627776)=true:=Q8 (hf.ok (by omega))
   have Kc:=Zjk (n:=n+8) (f:=f) (v:=v) (by omega)
   have hcH:H (cof f.1 v)≤17179869184:=Nat.le_trans (J7 h1 hf.h.1) (by omega)
   have hln:=US o f
   unfold stE
   dsimp only
   rcases Wd (cof f.1 v) with ⟨c1,c2⟩|⟨c1,c2⟩|⟨c1,c2⟩
   ·rw [if_neg (by grind),if_pos c1]
    exact ⟨Zo4 (by omega) hi Kv hok Kc hcH (by omega) c2 (by omega) ⟨by omega,by omega⟩,hI1,by dsimp only;omega,by simp;omega,by dsimp only;omega⟩
   ·rw [if_neg (by grind),if_neg (by grind)]
    exact ⟨ZnH (by omega) hi Kv hok Kc hcH (by omega) (by omega) (by omega) ⟨by omega,by omega⟩,hI1,by dsimp only;omega,by dsimp only;omega,by simp;omega⟩
   ·rw [if_pos c1]
    refine ⟨?_,hI1.col hf h1 (by omega),by dsimp only;omega,by dsimp only;omega,by dsimp only;omega⟩
    rcases Zh9 (n:=n) hf h1 (by omega) hI1 (by omega) with ⟨e,K⟩|K
    ·rw [e]
     exact Zp6 (by omega) hi Kv hok Kc hcH c2 K ⟨by omega,by omega⟩
    ·exact Zp2 (by omega) hi Kv hok Kc hcH c2 K ⟨by omega,by omega⟩)
  (fun b hI=>Zns (by omega))
 rw [Qs,U8] at X
 obtain ⟨X1,X2,X3,_⟩:=X
 simp only [List.nil_append] at X1
 exact ⟨X1,X2,by dsimp only at X3;omega⟩
theorem ZrS(hR:RB m R)(h1:1≤m)(hm:m≤1200)(hv:0≤v)(he:(Y3 v R).length≤4096):
  run (n+9) 18 [.sl 4 (R.map Zh),.lit (.int .i64 v)]=some (.tup [.sl 4 ((Y3 v R).map Zh),.lit (.int .i64 0)]):=by
 obtain ⟨L4,a1,a2⟩:=Zr6 (n:=n) (v:=v) hR h1 hm
 obtain ⟨p1,p2,p3,p4⟩:=ZfU (v:=v) hR
 have L5:=ZrN (n:=n) (v:=v) p1 p3 p2 p4 h1 hm a1 a2
 rw [ZdD] at L5
 exact Zuy (by omega) L4 L5 (by omega)
end
end
section
open Go.RowKit
noncomputable def YL:Code:=(Zb (ZP Tryz.f21)).getD 0 .skip
def Yp(a0:Yo)(a1:Int)(i_2:Nat):St:=
 ⟨[(1,.lit (.int .i64 a1)),(2,.ptr 0 0),(5,.lit (.int .i64 (i_2:Int)))],
  [(0,some (.box 28 [.sl 4 (a0.1.map YR),.lit (.bool a0.2.s),Zc a0.2.l1,Zc a0.2.l2] false))],1⟩
def Y4(a0:Yo):St:=
 ⟨[(2,.ptr 0 0),(4,.lit (.bool false))],
  [(0,some (.box 28 [.sl 4 (a0.1.map YR),.lit (.bool a0.2.s),Zc a0.2.l1,Zc a0.2.l2] false))],1⟩
def Zae(a0:Yo):St:=
 ⟨[(2,.ptr 0 0),(4,.any)],
  [(0,some (.box 28 [.sl 4 (a0.1.map YR),.lit (.bool a0.2.s),Zc a0.2.l1,Zc a0.2.l2] false))],1⟩
section
variable {v5 : Int} {a0 : Yo} {a1 : Int} {i_2 : Nat} {n : Nat} {r5 : Raw} {v4 : Int} {r4 : Raw}
section
variable(C1:(i_2:Int)<(a0.1.length:Int))(E2:a0.1[i_2]?=some (v4,r4))
include C1 E2
theorem Znn(C3:¬v4<0)(C4:¬a1≤v4)(C5:0<(i_2:Int))(W6:InI ((i_2:Int)-1))(E7:a0.1[i_2-1]?=some (v5,r5))(Z7:1≤i_2)(C8:¬v4≤v5)(B9a:RawB r4)(C10:¬sgR r4.q=0)(C12:QQ r4.s r4.l1 r4.l2)(W13:InI ((i_2:Int)+1)):
  Zm 0 (exec Tryz.prog (tab n) 0 59 (Za 21) big YL) (Za 21 2) (Yp a0 a1 i_2) (Yp a0 a1 (i_2+1)):=by
 have C1_:i_2<a0.1.length:=by omega
 obtain ⟨EL2,EG2⟩:=List.getElem?_eq_some_iff.1 E2
 have C5_:0<i_2:=by omega
 have W6_:IntKind.i64.wrap ((i_2:Int)-1)=(i_2:Int)-1:=Zq W6.1 W6.2
 obtain ⟨EL7,EG7⟩:=List.getElem?_eq_some_iff.1 E7
 have Z7_0:(1:Int)≤(i_2:Int):=by omega
 have K9:=VE B9a
 have C10_:(sgR r4.q==0)=false:=by simpa using C10
 have K11:=Uh B9a
 have W13_:IntKind.i64.wrap ((i_2:Int)+1)=(i_2:Int)+1:=Zq W13.1 W13.2
 unfold Zm
 simp+decide [Yp,Zb, Tryz.f21,YL,C1,C1_,EG2,C3,C4,C5_,W6_,EL7,EG7,Z7_0,C8,K9,C10_,K11,C12,W13_]
theorem Zoq(C3:¬v4<0)(C4:¬a1≤v4)(C5:¬0<(i_2:Int))(B6a:RawB r4)(C7:¬sgR r4.q=0)(C9:QQ r4.s r4.l1 r4.l2)(W10:InI ((i_2:Int)+1)):
  Zm 0 (exec Tryz.prog (tab n) 0 59 (Za 21) big YL) (Za 21 2) (Yp a0 a1 i_2) (Yp a0 a1 (i_2+1)):=by
 have C1_:i_2<a0.1.length:=by omega
 obtain ⟨EL2,EG2⟩:=List.getElem?_eq_some_iff.1 E2
 have C5_:¬0<i_2:=by omega
 have K6:=VE B6a
 have C7_:(sgR r4.q==0)=false:=by simpa using C7
 have K8:=Uh B6a
 have W10_:IntKind.i64.wrap ((i_2:Int)+1)=(i_2:Int)+1:=Zq W10.1 W10.2
 unfold Zm
 simp+decide [Yp,Zb, Tryz.f21,YL,C1,C1_,EG2,C3,C4,C5_,K6,C7_,K8,C9,W10_]
theorem Znm(C3:v4<0):
  Zj 0 (exec Tryz.prog (tab n) 0 59 (Za 21) big YL) (Za 21 (Zo 2)) (Yp a0 a1 i_2) (.ret) (Y4 a0):=by
 have C1_:i_2<a0.1.length:=by omega
 obtain ⟨EL2,EG2⟩:=List.getElem?_eq_some_iff.1 E2
 unfold Zj
 simp+decide [Yp,Zb, Tryz.f21,Y4,YL,C1,C1_,EG2,C3]
theorem ZoG(C3:¬v4<0)(C4:a1≤v4):
  Zj 0 (exec Tryz.prog (tab n) 0 59 (Za 21) big YL) (Za 21 (Zo 2)) (Yp a0 a1 i_2) (.ret) (Y4 a0):=by
 have C1_:i_2<a0.1.length:=by omega
 obtain ⟨EL2,EG2⟩:=List.getElem?_eq_some_iff.1 E2
 unfold Zj
 simp+decide [Yp,Zb, Tryz.f21,Y4,YL,C1,C1_,EG2,C3,C4]
section
variable(C3:¬v4<0)(C4:¬a1≤v4)
include C3 C4
section
variable(C5:0<(i_2:Int))(W6:InI ((i_2:Int)-1))(E7:a0.1[i_2-1]?=some (v5,r5))(Z7:1≤i_2)
include C5 W6 E7 Z7
theorem Zmq(C8:v4≤v5):
  Zj 0 (exec Tryz.prog (tab n) 0 59 (Za 21) big YL) (Za 21 (Zo 2)) (Yp a0 a1 i_2) (.ret) (Y4 a0):=by
 have C1_:i_2<a0.1.length:=by omega
 obtain ⟨EL2,EG2⟩:=List.getElem?_eq_some_iff.1 E2
 have C5_:0<i_2:=by omega
 have W6_:IntKind.i64.wrap ((i_2:Int)-1)=(i_2:Int)-1:=Zq W6.1 W6.2
 obtain ⟨EL7,EG7⟩:=List.getElem?_eq_some_iff.1 E7
 have Z7_0:(1:Int)≤(i_2:Int):=by omega
 unfold Zj
 simp+decide [Yp,Zb, Tryz.f21,Y4,YL,C1,C1_,EG2,C3,C4,C5_,W6_,EL7,EG7,Z7_0,C8]
theorem ZmZ(C8:¬v4≤v5)(B9a:RawB r4)(C10:sgR r4.q=0):
  Zj 0 (exec Tryz.prog (tab n) 0 59 (Za 21) big YL) (Za 21 (Zo 2)) (Yp a0 a1 i_2) (.ret) (Y4 a0):=by
 have C1_:i_2<a0.1.length:=by omega
 obtain ⟨EL2,EG2⟩:=List.getElem?_eq_some_iff.1 E2
 have C5_:0<i_2:=by omega
 have W6_:IntKind.i64.wrap ((i_2:Int)-1)=(i_2:Int)-1:=Zq W6.1 W6.2
 obtain ⟨EL7,EG7⟩:=List.getElem?_eq_some_iff.1 E7
 have Z7_0:(1:Int)≤(i_2:Int):=by omega
 have K9:=VE B9a
 have C10_:(sgR r4.q==0)=true:=by rw [C10];simp
 unfold Zj
 simp+decide [Yp,Zb, Tryz.f21,Y4,YL,C1,C1_,EG2,C3,C4,C5_,W6_,EL7,EG7,Z7_0,C8,K9,C10_]
theorem ZmO(C8:¬v4≤v5)(B9a:RawB r4)(C10:¬sgR r4.q=0)(C12:¬(QQ r4.s r4.l1 r4.l2)):
  Zj 0 (exec Tryz.prog (tab n) 0 59 (Za 21) big YL) (Za 21 (Zo 2)) (Yp a0 a1 i_2) (.ret) (Y4 a0):=by
 have C1_:i_2<a0.1.length:=by omega
 obtain ⟨EL2,EG2⟩:=List.getElem?_eq_some_iff.1 E2
 have C5_:0<i_2:=by omega
 have W6_:IntKind.i64.wrap ((i_2:Int)-1)=(i_2:Int)-1:=Zq W6.1 W6.2
 obtain ⟨EL7,EG7⟩:=List.getElem?_eq_some_iff.1 E7
 have Z7_0:(1:Int)≤(i_2:Int):=by omega
 have K9:=VE B9a
 have C10_:(sgR r4.q==0)=false:=by simpa using C10
 have K11:=Uh B9a
 unfold Zj
 simp+decide [Yp,Zb, Tryz.f21,Y4,YL,C1,C1_,EG2,C3,C4,C5_,W6_,EL7,EG7,Z7_0,C8,K9,C10_,K11,C12]
end
theorem Zmn(C5:¬0<(i_2:Int))(B6a:RawB r4)(C7:sgR r4.q=0):
  Zj 0 (exec Tryz.prog (tab n) 0 59 (Za 21) big YL) (Za 21 (Zo 2)) (Yp a0 a1 i_2) (.ret) (Y4 a0):=by
 have C1_:i_2<a0.1.length:=by omega
 obtain ⟨EL2,EG2⟩:=List.getElem?_eq_some_iff.1 E2
 have C5_:¬0<i_2:=by omega
 have K6:=VE B6a
 have C7_:(sgR r4.q==0)=true:=by rw [C7];simp
 unfold Zj
 simp+decide [Yp,Zb, Tryz.f21,Y4,YL,C1,C1_,EG2,C3,C4,C5_,K6,C7_]
theorem ZmL(C5:¬0<(i_2:Int))(B6a:RawB r4)(C7:¬sgR r4.q=0)(C9:¬(QQ r4.s r4.l1 r4.l2)):
  Zj 0 (exec Tryz.prog (tab n) 0 59 (Za 21) big YL) (Za 21 (Zo 2)) (Yp a0 a1 i_2) (.ret) (Y4 a0):=by
 have C1_:i_2<a0.1.length:=by omega
 obtain ⟨EL2,EG2⟩:=List.getElem?_eq_some_iff.1 E2
 have C5_:¬0<i_2:=by omega
 have K6:=VE B6a
 have C7_:(sgR r4.q==0)=false:=by simpa using C7
 have K8:=Uh B6a
 unfold Zj
 simp+decide [Yp,Zb, Tryz.f21,Y4,YL,C1,C1_,EG2,C3,C4,C5_,K6,C7_,K8,C9]
end
end
theorem ZoL(C1:¬(i_2:Int)<(a0.1.length:Int)):
  Zj 0 (exec Tryz.prog (tab n) 0 59 (Za 21) big YL) (Za 21 (Zo 2)) (Yp a0 a1 i_2) (.exit 0) (Zae a0):=by
 unfold Zj
 simp+decide [Yp,Zb, Tryz.f21,Zae,YL,C1]
theorem Zud(L1:Zk Tryz.prog (tab n) 0 59 (Za 21) 2 YL (Yp a0 a1 0)=some (.ret,Y4 a0)):
  run n 21 [.agg [.sl 4 (a0.1.map YR),.lit (.bool a0.2.s),Zc a0.2.l1,Zc a0.2.l2],.lit (.int .i64 a1)]=some (.lit (.bool false)):=by
 unfold run fnP
 simp+decide [Tryz.f21]
 rw [Zi (C':=YL) (e:=(Yp a0 a1 0)) ?_ ?_,L1]
 rotate_left
 ·kernel_rfl
 ·simp+decide [Yp]
 simp+decide [Y4]
theorem Zur(L1:Zk Tryz.prog (tab n) 0 59 (Za 21) 2 YL (Yp a0 a1 0)=some (.exit 0,Zae a0))(B2a:RawB a0.2):
  run n 21 [.agg [.sl 4 (a0.1.map YR),.lit (.bool a0.2.s),Zc a0.2.l1,Zc a0.2.l2],.lit (.int .i64 a1)]=some (.lit (.bool (decide (QQ a0.2.s a0.2.l1 a0.2.l2)))):=by
 have K2:=Uh B2a
 unfold run fnP
 simp+decide [Tryz.f21]
 rw [Zi (C':=YL) (e:=(Yp a0 a1 0)) ?_ ?_,L1]
 rotate_left
 ·kernel_rfl
 ·simp+decide [Yp]
 simp+decide [Zae,K2]
end
end
section
open Go.RowKit
attribute [local irreducible] run Zp Zk exec
def frV(f:Yo):AV:=.agg [.sl 4 (f.1.map YR),.lit (.bool f.2.s),Zc f.2.l1,Zc f.2.l2]
def ZtR(r:Raw):Prop:=Lim r.l1∧Lim r.l2
structure ZCA (f:Yo):Prop where
 t:∀t∈f.1,ZtR t.2
 k:ZtR f.2
def Two(r:Raw):Prop:=r.l1.length≤2∧r.l2.length≤2
def Cn(r:Raw):Prop:=QQ r.s r.l1 r.l2
theorem Cn.raw{r:Raw}(h:Cn r):r=Zd r.q:=by
 obtain ⟨s,l1,l2⟩:=r
 obtain ⟨h1,h2,h3⟩:=h
 dsimp only at h1 h2 h3
 unfold Raw.q Zd
 dsimp only
 rw [←h1,←h2,←h3]
theorem ZvS(d:Nat):(lmb d).length≤max 1 (QK d).length:=by
 unfold QK
 split
 ·rename_i h;subst h;rw [Q4];simp
 ·exact Nat.le_max_right _ _
theorem Cn.HB{r:Raw}{m:Nat}(h:Cn r)(hm:1≤m)(h1:r.l1.length≤m)(h2:r.l2.length≤m):H r.q≤m:=by
 have e:=h.raw
 have a1:(lmb r.q.num.natAbs).length≤m:=by have:=congrArg Raw.l1 e;rw [this] at h1;exact h1
 have a2:(QK r.q.den).length≤m:=by have:=congrArg Raw.l2 e;rw [this] at h2;exact h2
 have a3:=ZvS r.q.den
 unfold Go.Proofs.YtdaonnnlgfhlaaaGreatDoor.H
 omega
theorem Cn.H{r:Raw}(h:Cn r)(ht:Two r):H r.q≤2:=h.HB (by omega) ht.1 ht.2
def ZnR(F:List (Int × Raw))(vars:Int)(i:Nat):Prop:=∀v c,F[i]?=some (v,c)→0≤v∧v<vars∧c.q≠0∧Cn c∧∀v' c',0<i→F[i-1]?=some (v',c')→v'<v
def ZpP(f:Yo)(vars:Int):Prop:=(∀i,i<f.1.length→ZnR f.1 vars i)∧Cn f.2
theorem Zj9{n:Nat}{f:Yo}{vars:Int}(h8:f.1.length≤100000)(hrbs:∀t∈f.1,RawB t.2)(hkb:RawB f.2):run n 21 [frV f,.lit (.int .i64 vars)]=some (.lit (.bool (tv (ZpP f vars)))):=by
 have L:=Q1 (O:=tab n) (P:= Tryz.prog) (m:=0) (N:=59) (lives:=Za 21) (r:=2) (C:=YL) (M:=f.1.length) (enc:=Yp f vars) (p:=fun i=>tv (ZnR f.1 vars i)) (exN:=.exit 0) (exE:=.ret) (out:=Zae f) (outE:=Y4 f) (by omega) (fun h=>by cases h) (fun h=>by cases h)
  (fun i hi _=>by
   have hx:f.1[i]?=some f.1[i]:=List.getElem?_eq_getElem hi
   obtain ⟨t,ht⟩:∃t,f.1[i]=t:=⟨_,rfl⟩
   rw [ht] at hx
   obtain ⟨v,r⟩:=t
   have hm:(v,r)∈f.1:=List.mem_of_getElem? hx
   have hrb:RawB r:=hrbs _ hm
   have C1:(i:Int)<(f.1.length:Int):=by omega
   have hp:0<i→∃v' r',f.1[i-1]?=some (v',r'):=fun h0=>⟨(f.1[i-1]'(by omega)).1,(f.1[i-1]'(by omega)).2,List.getElem?_eq_getElem _⟩
   refine ⟨fun hp'=>?_,fun hp'=>?_⟩
   ·obtain ⟨a1,a2,a3,a4,a5⟩:=YG hp' v r hx
    have s0:¬sgR r.q=0:=fun h=>a3 (Yi.1 h)
    by_cases h0:0<i
    ·obtain ⟨v',r',hx'⟩:=hp h0
     have:=a5 v' r' h0 hx'
     exact Znn C1 hx (by omega) (by omega) (by omega) ⟨by omega,by omega⟩ hx' (by omega) (by omega) hrb s0 a4 ⟨by omega,by omega⟩
    ·exact Zoq C1 hx (by omega) (by omega) (by omega) hrb s0 a4 ⟨by omega,by omega⟩
   ·have hq:=QV hp'
    by_cases b1:v<0
    ·exact Znm C1 hx b1
    by_cases b2:vars≤v
    ·exact ZoG C1 hx b1 b2
    by_cases h0:0<i
    ·obtain ⟨v',r',hx'⟩:=hp h0
     by_cases b3:v≤v'
     ·exact Zmq C1 hx b1 b2 (by omega) ⟨by omega,by omega⟩ hx' (by omega) b3
     by_cases b4:sgR r.q=0
     ·exact ZmZ C1 hx b1 b2 (by omega) ⟨by omega,by omega⟩ hx' (by omega) b3 hrb b4
     refine ZmO C1 hx b1 b2 (by omega) ⟨by omega,by omega⟩ hx' (by omega) b3 hrb b4 fun b5=>hq fun v2 c2 h2=>?_
     rw [hx] at h2;cases h2
     refine ⟨by omega,by omega,fun h=>b4 (Yi.2 h),b5,fun v3 c3 _ h3=>?_⟩
     rw [hx'] at h3;cases h3
     omega
    ·by_cases b4:sgR r.q=0
     ·exact Zmn C1 hx b1 b2 (by omega) hrb b4
     refine ZmL C1 hx b1 b2 (by omega) hrb b4 fun b5=>hq fun v2 c2 h2=>?_
     rw [hx] at h2;cases h2
     exact ⟨by omega,by omega,fun h=>b4 (Yi.2 h),b5,fun v3 c3 h9 h3=>absurd h9 h0⟩)
  (ZoL (by omega))
 by_cases hA:∀i,i<f.1.length→tv (ZnR f.1 vars i)=true
 ·rw [if_pos hA] at L
  have h:=Zur L hkb
  have e:decide (QQ f.2.s f.2.l1 f.2.l2)=tv (ZpP f vars):=by
   by_cases hk:Cn f.2
   ·rw [Q8 ⟨fun i hi=>YG (hA i hi),hk⟩];exact decide_eq_true hk
   ·rw [Xx fun h=>hk h.2];exact decide_eq_false hk
  rw [e] at h
  exact h
 ·rw [if_neg hA] at L
  rw [Xx fun h=>hA fun i hi=>Q8 (h.1 i hi)]
  exact Zud L
def unR(f:Yo):Zf:=(f.1.map fun t=>(t.1,t.2.q),f.2.q)
theorem ZfS{f:Yo}{vars:Int}{m:Nat}(hm:1≤m)(ht:∀t∈f.1,t.2.l1.length≤m∧t.2.l2.length≤m)(hk:f.2.l1.length≤m∧f.2.l2.length≤m)(ho:ZpP f vars):frV f=Ze (unR f)∧(unR f).1.length=f.1.length∧(∀t∈(unR f).1,H t.2≤m)∧H (unR f).2≤m∧OkFm (unR f) vars:=by
 have hc:∀t∈f.1,Cn t.2:=fun t ht=>by
  obtain ⟨i,hi⟩:=List.mem_iff_getElem?.1 ht
  exact (ho.1 i (List.getElem?_eq_some_iff.1 hi).1 t.1 t.2 hi).2.2.2.1
 refine ⟨?_,by simp [unR],fun t h9=>?_,ho.2.HB hm hk.1 hk.2,fun i hi v c h=>?_⟩
 ·have e1:f.1.map YR=(unR f).1.map Zr:=by
   simp only [unR,List.map_map]
   apply List.map_congr_left
   intro t ht
   have e:=(hc t ht).raw
   simp only [Function.comp,YR,Zr,ZpA]
   rw [←e]
  have e2:=ho.2.raw
  unfold frV
  simp only [Ze,e1]
  have e3:Zd (unR f).2=f.2:=e2.symm
  rw [e3]
 ·simp only [unR,List.mem_map] at h9
  obtain ⟨u,hu,rfl⟩:=h9
  exact (hc u hu).HB hm (ht u hu).1 (ht u hu).2
 ·simp only [unR,List.length_map] at hi
  simp only [unR,List.getElem?_map] at h
  obtain ⟨u,hu,he⟩:=Option.map_eq_some_iff.1 h
  cases he
  obtain ⟨a1,a2,a3,_,a5⟩:=ho.1 i hi u.1 u.2 hu
  refine ⟨a1,a2,a3,fun v' c' h0 h'=>?_⟩
  simp only [unR,List.getElem?_map] at h'
  obtain ⟨u',hu',he'⟩:=Option.map_eq_some_iff.1 h'
  cases he'
  exact a5 u'.1 u'.2 h0 hu'
end
section
open Go.RowKit
section
variable {a0 : Raw} {n : Nat}
theorem Zt0(C1:(a0.l1.length:Int)≤2)(C2:(a0.l2.length:Int)≤2)(B3a:RawB a0):
  run n 33 [.agg [.lit (.bool a0.s),Zc a0.l1,Zc a0.l2]]=some (.lit (.bool (decide (QQ a0.s a0.l1 a0.l2)))):=by
 have K3:=Uh B3a
 unfold run fnP
 simp+decide [Tryz.f33,C1,C2,K3]
theorem Zug(C1:(a0.l1.length:Int)≤2)(C2:¬(a0.l2.length:Int)≤2):
  run n 33 [.agg [.lit (.bool a0.s),Zc a0.l1,Zc a0.l2]]=some (.lit (.bool false)):=by
 unfold run fnP
 simp+decide [Tryz.f33,C1,C2]
theorem ZuB(C1:¬(a0.l1.length:Int)≤2):
  run n 33 [.agg [.lit (.bool a0.s),Zc a0.l1,Zc a0.l2]]=some (.lit (.bool false)):=by
 unfold run fnP
 simp+decide [Tryz.f33,C1]
end
noncomputable def Vq:Code:=(Zb (ZP Tryz.f9)).getD 0 .skip
def XX(a0:Yo)(i_4:Nat):St:=
 ⟨[(1,.ptr 0 0),(3,.lit (.int .i64 (i_4:Int)))],
  [(0,some (.box 28 [.sl 4 (a0.1.map YR),.lit (.bool a0.2.s),Zc a0.2.l1,Zc a0.2.l2] false))],1⟩
def JR:St:=
 ⟨[(2,.lit (.bool false))],
  [],0⟩
def Zab:St:=
 ⟨[(2,.any)],
  [],0⟩
section
variable {i_4 : Nat} {v3 : Int} {a0 : Yo} {r8 : Bool} {n : Nat} {r7 : Raw} {r : Bool} {r2 : Bool}
section
variable(C1:(i_4:Int)<(a0.1.length:Int))(E2:a0.1[i_4]?=some (v3,r7))(K3:run n 33 [.agg [.lit (.bool r7.s),Zc r7.l1,Zc r7.l2]]=some (.lit (.bool r8)))
include C1 E2 K3
theorem Zni(C4:r8=true)(W5:InI ((i_4:Int)+1)):
  Zm 0 (exec Tryz.prog (tab (n+1)) 0 34 (Za 9) big Vq) (Za 9 4) (XX a0 i_4) (XX a0 (i_4+1)):=by
 have C1_:i_4<a0.1.length:=by omega
 obtain ⟨EL2,EG2⟩:=List.getElem?_eq_some_iff.1 E2
 have W5_:IntKind.i64.wrap ((i_4:Int)+1)=(i_4:Int)+1:=Zq W5.1 W5.2
 unfold Zm
 simp+decide [XX,Zb, Tryz.f9,Vq,C1,C1_,EG2,K3,C4,W5_]
theorem ZnE(C4:r8=false):
  Zj 0 (exec Tryz.prog (tab (n+1)) 0 34 (Za 9) big Vq) (Za 9 (Zo 4)) (XX a0 i_4) (.ret) (JR):=by
 have C1_:i_4<a0.1.length:=by omega
 obtain ⟨EL2,EG2⟩:=List.getElem?_eq_some_iff.1 E2
 unfold Zj
 simp+decide [XX,Zb, Tryz.f9,JR,Vq,C1,C1_,EG2,K3,C4]
end
theorem ZnX(C1:¬(i_4:Int)<(a0.1.length:Int)):
  Zj 0 (exec Tryz.prog (tab (n+1)) 0 34 (Za 9) big Vq) (Za 9 (Zo 4)) (XX a0 i_4) (.exit 0) (Zab):=by
 unfold Zj
 simp+decide [XX,Zb, Tryz.f9,Zab,Vq,C1]
theorem Zun(C1:8<(a0.1.length:Int)):
  run (n+1) 9 [.agg [.sl 4 (a0.1.map YR),.lit (.bool a0.2.s),Zc a0.2.l1,Zc a0.2.l2]]=some (.lit (.bool false)):=by
 unfold run fnP
 simp+decide [Tryz.f9,C1]
section
variable(C1:¬8<(a0.1.length:Int))(K2:run n 33 [.agg [.lit (.bool a0.2.s),Zc a0.2.l1,Zc a0.2.l2]]=some (.lit (.bool r)))
include C1 K2
theorem Zu4(C3:r=false):
  run (n+1) 9 [.agg [.sl 4 (a0.1.map YR),.lit (.bool a0.2.s),Zc a0.2.l1,Zc a0.2.l2]]=some (.lit (.bool false)):=by
 unfold run fnP
 simp+decide [Tryz.f9,C1,K2,C3]
section
variable(C3:r=true)(K4:run n 21 [.agg [.sl 4 (a0.1.map YR),.lit (.bool a0.2.s),Zc a0.2.l1,Zc a0.2.l2],.lit (.int .i64 1048576)]=some (.lit (.bool r2)))
include C3 K4
theorem ZvN(C5:r2=false):
  run (n+1) 9 [.agg [.sl 4 (a0.1.map YR),.lit (.bool a0.2.s),Zc a0.2.l1,Zc a0.2.l2]]=some (.lit (.bool false)):=by
 unfold run fnP
 simp+decide [Tryz.f9,C1,K2,C3,K4,C5]
theorem Zwe(C5:r2=true)(L6:Zk Tryz.prog (tab (n+1)) 0 34 (Za 9) 4 Vq (XX a0 0)=some (.ret,JR)):
  run (n+1) 9 [.agg [.sl 4 (a0.1.map YR),.lit (.bool a0.2.s),Zc a0.2.l1,Zc a0.2.l2]]=some (.lit (.bool false)):=by
 unfold run fnP
 simp+decide [Tryz.f9,C1,K2,C3,K4,C5]
 rw [Zi (C':=Vq) (e:=(XX a0 0)) ?_ ?_,L6]
 rotate_left
 ·kernel_rfl
 ·simp+decide [XX]
 simp+decide [JR]
theorem Zt3(C5:r2=true)(L6:Zk Tryz.prog (tab (n+1)) 0 34 (Za 9) 4 Vq (XX a0 0)=some (.exit 0,Zab)):
  run (n+1) 9 [.agg [.sl 4 (a0.1.map YR),.lit (.bool a0.2.s),Zc a0.2.l1,Zc a0.2.l2]]=some (.lit (.bool true)):=by
 unfold run fnP
 simp+decide [Tryz.f9,C1,K2,C3,K4,C5]
 rw [Zi (C':=Vq) (e:=(XX a0 0)) ?_ ?_,L6]
 rotate_left
 ·kernel_rfl
 ·simp+decide [XX]
 simp+decide [Zab]
end
end
end
noncomputable def Vz:Code:=(Zb (ZP Tryz.f43)).getD 0 .skip
def XP(a0:List Yo)(i_4:Nat):St:=
 ⟨[(0,.sl 4 (a0.map Yw)),(5,.lit (.int .i64 (i_4:Int)))],
  [],0⟩
def Zav:St:=
 ⟨[(4,.lit (.bool false))],
  [],0⟩
def ZaK:St:=
 ⟨[(4,.any)],
  [],0⟩
section
variable{i_4:Nat}{a0:List Yo}{n:Nat}{r5:Raw}{F3:List (Int × Raw)}{r6:Bool}{a1:Int}
section
variable(C1:(i_4:Int)<(a0.length:Int))(E2:a0[i_4]?=some (F3,r5))(K3:run (n+1) 9 [.agg [.sl 4 (F3.map YR),.lit (.bool r5.s),Zc r5.l1,Zc r5.l2]]=some (.lit (.bool r6)))
include C1 E2 K3
theorem Zqd(C4:r6=true)(W5:InI ((i_4:Int)+1)):
  Zm 0 (exec Tryz.prog (tab (n+2)) 0 22 (Za 43) big Vz) (Za 43 4) (XP a0 i_4) (XP a0 (i_4+1)):=by
 have C1_:i_4<a0.length:=by omega
 obtain ⟨EL2,EG2⟩:=List.getElem?_eq_some_iff.1 E2
 have W5_:IntKind.i64.wrap ((i_4:Int)+1)=(i_4:Int)+1:=Zq W5.1 W5.2
 unfold Zm
 simp+decide [XP,Zb, Tryz.f43,Vz,C1,C1_,EG2,K3,C4,W5_]
theorem Zm8(C4:r6=false):
  Zj 0 (exec Tryz.prog (tab (n+2)) 0 22 (Za 43) big Vz) (Za 43 (Zo 4)) (XP a0 i_4) (.ret) (Zav):=by
 have C1_:i_4<a0.length:=by omega
 obtain ⟨EL2,EG2⟩:=List.getElem?_eq_some_iff.1 E2
 unfold Zj
 simp+decide [XP,Zb, Tryz.f43,Zav,Vz,C1,C1_,EG2,K3,C4]
end
theorem Zpx(C1:¬(i_4:Int)<(a0.length:Int)):
  Zj 0 (exec Tryz.prog (tab (n+2)) 0 22 (Za 43) big Vz) (Za 43 (Zo 4)) (XP a0 i_4) (.exit 0) (ZaK):=by
 unfold Zj
 simp+decide [XP,Zb, Tryz.f43,ZaK,Vz,C1]
theorem ZuW(C1:a1<(a0.length:Int)):
  run (n+2) 43 [.sl 4 (a0.map Yw),.lit (.int .i64 a1)]=some (.lit (.bool false)):=by
 unfold run fnP
 simp+decide [Tryz.f43,C1]
theorem Zvr(C1:¬a1<(a0.length:Int))(L2:Zk Tryz.prog (tab (n+2)) 0 22 (Za 43) 4 Vz (XP a0 0)=some (.ret,Zav)):
  run (n+2) 43 [.sl 4 (a0.map Yw),.lit (.int .i64 a1)]=some (.lit (.bool false)):=by
 unfold run fnP
 simp+decide [Tryz.f43,C1]
 rw [Zi (C':=Vz) (e:=(XP a0 0)) ?_ ?_,L2]
 rotate_left
 ·kernel_rfl
 ·simp+decide [XP]
 simp+decide [Zav]
theorem Zvv(C1:¬a1<(a0.length:Int))(L2:Zk Tryz.prog (tab (n+2)) 0 22 (Za 43) 4 Vz (XP a0 0)=some (.exit 0,ZaK)):
  run (n+2) 43 [.sl 4 (a0.map Yw),.lit (.int .i64 a1)]=some (.lit (.bool true)):=by
 unfold run fnP
 simp+decide [Tryz.f43,C1]
 rw [Zi (C':=Vz) (e:=(XP a0 0)) ?_ ?_,L2]
 rotate_left
 ·kernel_rfl
 ·simp+decide [XP]
 simp+decide [ZaK]
end
theorem Ztb{n:Nat}{a0:List Yo}{r:Bool}(K1:run (n+2) 43 [.sl 4 (a0.map Yw),.lit (.int .i64 7)]=some (.lit (.bool r))):
  run (n+3) 16 [.sl 4 (a0.map Yw)]=some (.lit (.bool r)):=by
 unfold run fnP
 simp+decide [Tryz.f16,K1]
end
section
open Go.RowKit
attribute [local irreducible] run Zp Zk exec
def SmQ(r:Raw):Prop:=Two r∧Cn r
structure Zne (f:Yo):Prop where
 t:∀t∈f.1,RawB t.2
 k:RawB f.2
def SmR(f:Yo):Prop:=f.1.length≤8∧SmQ f.2∧ZpP f 1048576∧∀t∈f.1,SmQ t.2
section
variable {n : Nat}
theorem ZtT{r:Raw}(hR:RawB r):run n 33 [.agg [.lit (.bool r.s),Zc r.l1,Zc r.l2]]=some (.lit (.bool (tv (SmQ r)))):=by
 by_cases h1:r.l1.length≤2
 ·by_cases h2:r.l2.length≤2
  ·have K:=Zt0 (n:=n) (a0:=r) (by omega) (by omega) hR
   by_cases h3:QQ r.s r.l1 r.l2
   ·rw [decide_eq_true h3] at K
    rw [Q8 (p:=SmQ r) ⟨⟨h1,h2⟩,h3⟩]
    exact K
   ·rw [decide_eq_false h3] at K
    rw [Xx (p:=SmQ r) (fun h=>h3 h.2)]
    exact K
  ·rw [Xx (p:=SmQ r) (fun h=>h2 h.1.2)]
   exact Zug (by omega) (by omega)
 ·rw [Xx (p:=SmQ r) (fun h=>h1 h.1.1)]
  exact ZuB (by omega)
theorem ZxD{f:Yo}(hB:Zne f):run (n+1) 9 [frV f]=some (.lit (.bool (tv (SmR f)))):=by
 by_cases h1:8<f.1.length
 ·rw [Xx (p:=SmR f) (fun h=>by have:=h.1;omega)]
  exact Zun (by omega)
 have K2:=ZtT (n:=n) hB.k
 by_cases h2:SmQ f.2
 ·rw [Q8 h2] at K2
  have K4:=Zj9 (n:=n) (vars:=1048576) (by omega) hB.t hB.k
  by_cases h3:ZpP f 1048576
  ·rw [Q8 h3] at K4
   have X:=Q1 (O:=tab (n+1)) (P:= Tryz.prog) (m:=0) (N:=34) (lives:=Za 9) (r:=4) (C:=Vq) (M:=f.1.length) (enc:=fun i=>XX f i) (p:=fun i=>tv (∀t,f.1[i]?=some t→SmQ t.2)) (exN:=.exit 0) (exE:=.ret) (out:=Zab) (outE:=JR) (by omega) (by simp) (by simp)
    (fun i hi _=>by
     have hx:f.1[i]?=some f.1[i]:=List.getElem?_eq_getElem hi
     obtain ⟨t,ht⟩:∃t,f.1[i]=t:=⟨_,rfl⟩
     rw [ht] at hx
     obtain ⟨v,r⟩:=t
     have K:=ZtT (n:=n) (hB.t _ (List.mem_of_getElem? hx))
     refine ⟨fun hp=>Zni (by omega) hx K (Q8 (YG hp _ hx)) ⟨by omega,by omega⟩,fun hp=>ZnE (by omega) hx K (Xx fun h9=>QV hp fun t ht=>?_)⟩
     rw [hx] at ht;cases ht
     exact h9)
    (ZnX (by omega))
   by_cases h4:∀t∈f.1,SmQ t.2
   ·rw [if_pos (fun i hi=>Q8 fun t ht=>h4 t (List.mem_of_getElem? ht))] at X
    rw [Q8 (p:=SmR f) ⟨by omega,h2,h3,h4⟩]
    exact Zt3 (by omega) K2 rfl K4 rfl X
   ·rw [if_neg (fun h5=>h4 fun t ht=>by
     obtain ⟨i,hi⟩:=List.mem_iff_getElem?.1 ht
     exact YG (h5 i (List.getElem?_eq_some_iff.1 hi).1) t hi)] at X
    rw [Xx (p:=SmR f) (fun h=>h4 h.2.2.2)]
    exact Zwe (by omega) K2 rfl K4 rfl X
  ·rw [Xx h3] at K4
   rw [Xx (p:=SmR f) (fun h=>h3 h.2.2.1)]
   exact ZvN (by omega) K2 rfl K4 rfl
 ·rw [Xx h2] at K2
  rw [Xx (p:=SmR f) (fun h=>h2 h.2.1)]
  exact Zu4 (by omega) K2 rfl
theorem Zx5{L:List Yo}{z:Int}(hl:L.length≤1000000000)(hB:∀f∈L,Zne f):run (n+2) 43 [.sl 4 (L.map Yw),.lit (.int .i64 z)]=some (.lit (.bool (tv ((L.length:Int)≤z∧∀f∈L,SmR f)))):=by
 by_cases h1:z<(L.length:Int)
 ·rw [Xx (fun h=>by have:=h.1;omega)]
  exact ZuW h1
 have X:=Q1 (O:=tab (n+2)) (P:= Tryz.prog) (m:=0) (N:=22) (lives:=Za 43) (r:=4) (C:=Vz) (M:=L.length) (enc:=fun i=>XP L i) (p:=fun i=>tv (∀f,L[i]?=some f→SmR f)) (exN:=.exit 0) (exE:=.ret) (out:=ZaK) (outE:=Zav) (by omega) (by simp) (by simp)
  (fun i hi _=>by
   have hx:L[i]?=some L[i]:=List.getElem?_eq_getElem hi
   obtain ⟨t,ht⟩:∃t,L[i]=t:=⟨_,rfl⟩
   rw [ht] at hx
   obtain ⟨F,r⟩:=t
   have K:=ZxD (n:=n) (hB _ (List.mem_of_getElem? hx))
   refine ⟨fun hp=>Zqd (by omega) hx K (Q8 (YG hp _ hx)) ⟨by omega,by omega⟩,fun hp=>Zm8 (by omega) hx K (Xx fun h9=>QV hp fun t ht=>?_)⟩
   rw [hx] at ht;cases ht
   exact h9)
  (Zpx (by omega))
 by_cases h4:∀f∈L,SmR f
 ·rw [if_pos (fun i hi=>Q8 fun t ht=>h4 t (List.mem_of_getElem? ht))] at X
  rw [Q8 ⟨by omega,h4⟩]
  exact Zvv h1 X
 ·rw [if_neg (fun h5=>h4 fun t ht=>by
   obtain ⟨i,hi⟩:=List.mem_iff_getElem?.1 ht
   exact YG (h5 i (List.getElem?_eq_some_iff.1 hi).1) t hi)] at X
  rw [Xx (fun h=>h4 h.2)]
  exact Zvr h1 X
theorem ZuN{L:List Yo}(hl:L.length≤1000000000)(hB:∀f∈L,Zne f):run (n+3) 16 [.sl 4 (L.map Yw)]=some (.lit (.bool (tv ((L.length:Int)≤7∧∀f∈L,SmR f)))):=Ztb (Zx5 hl hB)
end
structure Sm8 (f:Zf):Prop where
 l:f.1.length≤8
 t:∀t∈f.1,H t.2≤2
 k:H f.2≤2
 ok:OkFm f 1048576
theorem Sm8.fb{f:Zf}(h:Sm8 f):FB 2 f:=by
 obtain ⟨a,b⟩:=h.ok.srt
 exact ⟨a,⟨h.t,h.k⟩,by have:=h.l;omega,fun t ht=>⟨(b t ht).1,by have:=(b t ht).2;omega⟩⟩
theorem SmR.un{f:Yo}(h:SmR f):frV f=Ze (unR f)∧Sm8 (unR f):=by
 obtain ⟨a1,a2,a3,a4,a5⟩:=ZfS (m:=2) (by omega) (fun t ht=>(h.2.2.2 t ht).1) h.2.1.1 h.2.2.1
 exact ⟨a1,by rw [a2];exact h.1,a3,a4,a5⟩
theorem SmR.cells{f:Yo}(h:SmR f):Yw f=Zh (unR f):=by
 have:=h.un.1
 simp only [frV,Ze,AV.agg.injEq] at this
 simp only [Yw,Zh]
 exact this
theorem SmR.all{L:List Yo}(h:∀f∈L,SmR f):L.map Yw=(L.map unR).map Zh∧∀f∈L.map unR,Sm8 f:=by
 refine ⟨?_,fun f hf=>?_⟩
 ·rw [List.map_map]
  exact List.map_congr_left fun f hf=>(h f hf).cells
 ·obtain ⟨g,hg,rfl⟩:=List.mem_map.1 hf
  exact (h g hg).un.2
theorem SmQ.all{xs:List Raw}(h:∀r∈xs,SmQ r):xs.map ZrA=(xs.map Raw.q).map ZpA∧∀q∈xs.map Raw.q,H q≤2:=by
 refine ⟨?_,fun q hq=>?_⟩
 ·rw [List.map_map]
  refine List.map_congr_left fun r hr=>?_
  have e:=(h r hr).2.raw
  simp only [Function.comp,ZrA,ZpA]
  rw [←e]
 ·obtain ⟨r,hr,rfl⟩:=List.mem_map.1 hq
  exact (h r hr).2.H (h r hr).1
end
section
open Go.RowKit
end
section
open Go.RowKit
attribute [local irreducible] run Zp Zk exec
theorem Zsk{m:Nat}{v:Int}{R:List Zf}(hR:RB m R)(h1:1≤m):∀f∈Y3 v R,FB (8*m+2) f:=fun n hn=>by
 obtain ⟨e,he,rfl⟩:=ZaH hn
 have key:FB (4*m+1) e:=by
  rcases List.mem_append.1 he with h2|h2
  ·exact (hR.r e (List.mem_filter.1 h2).1).1.mono (by omega)
  ·obtain ⟨f,h3,h4⟩:=List.mem_flatMap.1 h2
   obtain ⟨g,h5,rfl⟩:=List.mem_map.1 h4
   obtain ⟨a1,a2⟩:=hR.r f (List.mem_filter.1 h3).1
   obtain ⟨b1,b2⟩:=hR.r g (List.mem_filter.1 h5).1
   exact FB.comb a1 b1 a2 b2 h1
 exact (key.norm (by omega)).mono (by omega)
theorem ZvE{L:List Yo}(h:(L.length:Int)≤7∧∀f∈L,SmR f):RB 2 (L.map unR)∧(L.map unR).length≤7:=by
 have hs:=(SmR.all h.2).2
 have hl:(L.map unR).length≤7:=by rw [List.length_map];omega
 exact ⟨⟨fun f hf=>⟨(hs f hf).fb,by have:=(hs f hf).l;omega⟩,by omega⟩,hl⟩
end
section
open Go.RowKit
noncomputable def Jy:Code:=(Zb (ZP Tryz.f58)).getD 0 .skip
noncomputable def Wr:Code:=(Zb (ZP Tryz.f58)).getD 1 .skip
def UO(a1:Int)(l_2:List Zf)(i_2:Nat):St:=
 ⟨[(0,.sl 4 (l_2.map Zh)),(11,.lit (.int .i64 a1)),(12,.lit (.int .i64 (i_2:Int)))],
  [],0⟩
def QZ(l_2:List Zf)(i_11:Nat)(out_11:List Zf)(mp_11:List (ByteArray × Value)):St:=
 ⟨[(8,.ptr 0 0),(28,.sl 4 (l_2.map Zh)),(29,.lit (.int .i64 (l_2.length:Int))),(30,.lit (.int .i64 (i_11:Int)))],
  [(0,some (.box 78 [.own 1 out_11.length,.mp 2] false)),
   (1,some (.row 28 4 (out_11.map Zh) 0)),
   (2,some (.mp mp_11))],3⟩
def Zar(l_2:List Zf):St:=
 ⟨[(0,.sl 4 (l_2.map Zh)),(4,.any),(5,.any)],
  [],0⟩
def V7(out_11:List Zf)(mp_11:List (ByteArray × Value)):St:=
 ⟨[(8,.ptr 0 0)],
  [(0,some (.box 78 [.own 1 out_11.length,.mp 2] false)),
   (1,some (.row 28 4 (out_11.map Zh) 0)),
   (2,some (.mp mp_11))],3⟩
section
variable{a1:Int}{i_2:Nat}{n:Nat}{r5:List Zf}{r6:Int}{l_2:List Zf}{out_11:List Zf}{q3:Rat}{F3:List (Int × Rat)}{i_11:Nat}{mp_11:List (ByteArray × Value)}{mR3:List (ByteArray × Value)}{R3:List Zf}{a0:List Zf}
theorem Zop(C1:(i_2:Int)<a1)(K2:run (n+9) 17 [.sl 4 (l_2.map Zh),.lit (.int .i64 (i_2:Int))]=some (.tup [.sl 4 (r5.map Zh),.lit (.int .i64 r6)]))(C3:r6=0)(W4:InI ((i_2:Int)+1)):
  Zm 0 (exec Tryz.prog (tab (n+10)) 0 42 (Za 58) big Jy) (Za 58 2) (UO a1 l_2 i_2) (UO a1 r5 (i_2+1)):=by
 have C3_n:(r6 !=0)=false:=by rw [C3];simp
 have W4_:IntKind.i64.wrap ((i_2:Int)+1)=(i_2:Int)+1:=Zq W4.1 W4.2
 unfold Zm
 simp+decide [UO,Zb, Tryz.f58,Jy,C1,K2,C3_n,W4_]
theorem ZpU(C1:¬(i_2:Int)<a1):
  Zj 0 (exec Tryz.prog (tab (n+10)) 0 42 (Za 58) big Jy) (Za 58 (Zo 2)) (UO a1 l_2 i_2) (.exit 0) (Zar l_2):=by
 unfold Zj
 simp+decide [UO,Zb, Tryz.f58,Zar,Jy,C1]
theorem ZlO(C1:(i_11:Int)<(l_2.length:Int))(E2:l_2[i_11]?=some (F3,q3))(K3:Zp (n+9) 46 [.ptr 0 0,Ze (F3,q3)] [.box 78 [.own 1 out_11.length,.mp 2] false,.row 28 4 (out_11.map Zh) 0,.mp mp_11]=some (.tup [],[(0,.box 78 [.own 1 out_11.length,.mp 2] false),(1,.row 28 4 (out_11.map Zh) 0),(2,.mp mp_11)]))(W4:InI ((i_11:Int)+1)):
  Zm 0 (exec Tryz.prog (tab (n+10)) 0 42 (Za 58) big Wr) (Za 58 11) (QZ l_2 i_11 out_11 mp_11) (QZ l_2 (i_11+1) out_11 mp_11):=by
 have C1_:i_11<l_2.length:=by omega
 obtain ⟨EL2,EG2⟩:=List.getElem?_eq_some_iff.1 E2
 simp only [Ze] at K3
 have W4_:IntKind.i64.wrap ((i_11:Int)+1)=(i_11:Int)+1:=Zq W4.1 W4.2
 unfold Zm
 simp+decide [QZ,Zb, Tryz.f58,Wr,C1,C1_,EG2,K3,W4_]
theorem ZkJ(C1:(i_11:Int)<(l_2.length:Int))(E2:l_2[i_11]?=some (F3,q3))(K3:Zp (n+9) 46 [.ptr 0 0,Ze (F3,q3)] [.box 78 [.own 1 out_11.length,.mp 2] false,.row 28 4 (out_11.map Zh) 0,.mp mp_11]=some (.tup [],[(0,.box 78 [.own 6 R3.length,.mp 2] false),(2,.mp mR3),(6,.row 28 4 (R3.map Zh) 0)]))(W4:InI ((i_11:Int)+1)):
  Zm 0 (exec Tryz.prog (tab (n+10)) 0 42 (Za 58) big Wr) (Za 58 11) (QZ l_2 i_11 out_11 mp_11) (QZ l_2 (i_11+1) R3 mR3):=by
 have C1_:i_11<l_2.length:=by omega
 obtain ⟨EL2,EG2⟩:=List.getElem?_eq_some_iff.1 E2
 simp only [Ze] at K3
 have W4_:IntKind.i64.wrap ((i_11:Int)+1)=(i_11:Int)+1:=Zq W4.1 W4.2
 unfold Zm
 simp+decide [QZ,Zb, Tryz.f58,Wr,C1,C1_,EG2,K3,W4_]
theorem Zlf(C1:¬(i_11:Int)<(l_2.length:Int)):
  Zj 0 (exec Tryz.prog (tab (n+10)) 0 42 (Za 58) big Wr) (Za 58 (Zo 11)) (QZ l_2 i_11 out_11 mp_11) (.exit 2) (V7 out_11 mp_11):=by
 unfold Zj
 simp+decide [QZ,Zb, Tryz.f58,V7,Wr,C1]
theorem Zu1(L1:Zk Tryz.prog (tab (n+10)) 0 42 (Za 58) 2 Jy (UO a1 a0 0)=some (.exit 0,Zar l_2))(L2:Zk Tryz.prog (tab (n+10)) 0 42 (Za 58) 11 Wr (QZ l_2 0 [] [])=some (.exit 2,V7 out_11 mp_11)):
  run (n+10) 58 [.sl 4 (a0.map Zh),.lit (.int .i64 a1)]=some (.tup [.sl 4 (out_11.map Zh),.lit (.int .i64 0)]):=by
 unfold run fnP
 simp+decide [Tryz.f58]
 rw [Zi (C':=Jy) (e:=(UO a1 a0 0)) ?_ ?_,L1]
 rotate_left
 ·kernel_rfl
 ·simp+decide [UO]
 simp+decide [Zar]
 rw [Zi (C':=Wr) (e:=(QZ l_2 0 [] [])) ?_ ?_,L2]
 rotate_left
 ·kernel_rfl
 ·simp+decide [QZ]
 simp+decide [V7]
end
section
variable {a1 : Int} {a0 : List Zf} {n : Nat} {r : Bool} {r3 : Int} {r2 : List Zf}
theorem Zup(C1:a1<0):
  run (n+11) 27 [.sl 4 (a0.map Zh),.lit (.int .i64 a1)]=some (.tup [.lit (.bool false),.lit (.int .i64 1)]):=by
 unfold run fnP
 simp+decide [Tryz.f27,C1]
section
variable(C1:¬a1<0)(K2:run (n+10) 44 [.sl 4 (a0.map Zh),.lit (.int .i64 a1)]=some (.lit (.bool r)))
include C1 K2
theorem ZvH(C3:r=false):
  run (n+11) 27 [.sl 4 (a0.map Zh),.lit (.int .i64 a1)]=some (.tup [.lit (.bool false),.lit (.int .i64 1)]):=by
 unfold run fnP
 simp+decide [Tryz.f27,C1,K2,C3]
theorem Zua(C3:r=true)(K4:run (n+10) 58 [.sl 4 (a0.map Zh),.lit (.int .i64 a1)]=some (.tup [.sl 4 (r2.map Zh),.lit (.int .i64 r3)]))(C5:r3=0):
  run (n+11) 27 [.sl 4 (a0.map Zh),.lit (.int .i64 a1)]=some (.tup [.lit (.bool (((r2.length:Int)==0))),.lit (.int .i64 r3)]):=by
 have C5_:(r3==0)=true:=by rw [C5];simp
 unfold run fnP
 simp+decide [Tryz.f27,C1,K2,C3,K4,C5_]
end
end
end
section
open Go.RowKit
noncomputable def Vg:Code:=(Zb (ZP Tryz.f60)).getD 0 .skip
noncomputable def XU:Code:=(Zb (ZP Tryz.f60)).getD 1 .skip
def Xq(a0:List Zf)(a1:Int)(out_3:List Zf)(i_3:Nat):St:=
 ⟨[(0,.sl 4 (a0.map Zh)),(1,.lit (.int .i64 a1)),(6,.own 0 out_3.length),(7,.lit (.int .i64 (i_3:Int)))],
  [(0,some (.row 28 4 (out_3.map Zh) 0))],1⟩
def WV(a1:Int)(out_3:List Zf):St:=
 ⟨[(1,.lit (.int .i64 a1)),(6,.own 0 out_3.length),(8,.lit (.int .i64 0))],
  [(0,some (.row 28 4 (out_3.map Zh) 0))],1⟩
def VJ(a1:Int)(l_7b:List Zf)(i_7b:Nat):St:=
 ⟨[(1,.lit (.int .i64 a1)),(6,.sl 4 (l_7b.map Zh)),(8,.lit (.int .i64 (i_7b:Int)))],
  [],0⟩
def UU(a1:Int)(out_3:List Zf):St:=
 ⟨[(1,.lit (.int .i64 a1)),(6,.own 0 out_3.length)],
  [(0,some (.row 28 4 (out_3.map Zh) 0))],1⟩
def Zao(out_3:List Zf):St:=
 ⟨[(4,.any),(5,.any),(6,.own 0 out_3.length)],
  [(0,some (.row 28 4 (out_3.map Zh) 0))],1⟩
def JW(l_7b:List Zf):St:=
 ⟨[(4,.any),(5,.any),(6,.sl 4 (l_7b.map Zh))],
  [],0⟩
section
variable{q3:Rat}{i_3:Nat}{a0:List Zf}{a1:Int}{n:Nat}{F3:List (Int × Rat)}{out_3:List Zf}{R3:List Zf}{r12:Int}{r11:List Zf}
theorem ZlT(C1:(i_3:Int)<(a0.length:Int))(E2:a0[i_3]?=some (F3,q3))(K3:Zp (n+9) 49 [.own 0 out_3.length,Ze (F3,q3)] [.row 28 4 (out_3.map Zh) 0]=some (.own 0 out_3.length,[(0,.row 28 4 (out_3.map Zh) 0)]))(W4:InI ((i_3:Int)+1)):
  Zm 0 (exec Tryz.prog (tab (n+10)) 0 37 (Za 60) big Vg) (Za 60 3) (Xq a0 a1 out_3 i_3) (Xq a0 a1 out_3 (i_3+1)):=by
 have C1_:i_3<a0.length:=by omega
 obtain ⟨EL2,EG2⟩:=List.getElem?_eq_some_iff.1 E2
 simp only [Ze] at K3
 have W4_:IntKind.i64.wrap ((i_3:Int)+1)=(i_3:Int)+1:=Zq W4.1 W4.2
 unfold Zm
 simp+decide [Xq,Zb, Tryz.f60,Vg,C1,C1_,EG2,K3,W4_]
theorem Zm3(C1:(i_3:Int)<(a0.length:Int))(E2:a0[i_3]?=some (F3,q3))(K3:Zp (n+9) 49 [.own 0 out_3.length,Ze (F3,q3)] [.row 28 4 (out_3.map Zh) 0]=some (.own 3 R3.length,[(3,.row 28 4 (R3.map Zh) 0)]))(W4:InI ((i_3:Int)+1)):
  Zm 0 (exec Tryz.prog (tab (n+10)) 0 37 (Za 60) big Vg) (Za 60 3) (Xq a0 a1 out_3 i_3) (Xq a0 a1 R3 (i_3+1)):=by
 have C1_:i_3<a0.length:=by omega
 obtain ⟨EL2,EG2⟩:=List.getElem?_eq_some_iff.1 E2
 simp only [Ze] at K3
 have W4_:IntKind.i64.wrap ((i_3:Int)+1)=(i_3:Int)+1:=Zq W4.1 W4.2
 unfold Zm
 simp+decide [Xq,Zb, Tryz.f60,Vg,C1,C1_,EG2,K3,W4_]
theorem ZmE(C1:¬(i_3:Int)<(a0.length:Int)):
  Zj 0 (exec Tryz.prog (tab (n+10)) 0 37 (Za 60) big Vg) (Za 60 (Zo 3)) (Xq a0 a1 out_3 i_3) (.exit 0) (UU a1 out_3):=by
 unfold Zj
 simp+decide [Xq,Zb, Tryz.f60,UU,Vg,C1]
theorem Zoy(C1:0<a1)(K2:run (n+9) 18 [.sl 4 (out_3.map Zh),.lit (.int .i64 0)]=some (.tup [.sl 4 (r11.map Zh),.lit (.int .i64 r12)]))(C3:r12=0):
  Zm 0 (exec Tryz.prog (tab (n+10)) 0 37 (Za 60) big XU) (Za 60 7) (WV a1 out_3) (VJ a1 r11 1):=by
 have C3_n:(r12 !=0)=false:=by rw [C3];simp
 unfold Zm
 simp+decide [WV,Zb, Tryz.f60,XU,VJ,C1,K2,C3_n]
theorem Zo3(C1:¬0<a1):
  Zj 0 (exec Tryz.prog (tab (n+10)) 0 37 (Za 60) big XU) (Za 60 (Zo 7)) (WV a1 out_3) (.exit 2) (Zao out_3):=by
 unfold Zj
 simp+decide [WV,Zb, Tryz.f60,Zao,XU,C1]
end
theorem ZkB{n:Nat}{a1:Int}{i_7b:Nat}{l_7b:List Zf}{r13:List Zf}{r14:Int}(C1:(i_7b:Int)<a1)(K2:run (n+9) 18 [.sl 4 (l_7b.map Zh),.lit (.int .i64 (i_7b:Int))]=some (.tup [.sl 4 (r13.map Zh),.lit (.int .i64 r14)]))(C3:r14=0)(W4:InI ((i_7b:Int)+1)):
  Zm 0 (exec Tryz.prog (tab (n+10)) 0 37 (Za 60) big XU) (Za 60 7) (VJ a1 l_7b i_7b) (VJ a1 r13 (i_7b+1)):=by
 have C3_n:(r14 !=0)=false:=by rw [C3];simp
 have W4_:IntKind.i64.wrap ((i_7b:Int)+1)=(i_7b:Int)+1:=Zq W4.1 W4.2
 unfold Zm
 simp+decide [VJ,Zb, Tryz.f60,XU,C1,K2,C3_n,W4_]
theorem ZkS{n:Nat}{a1:Int}{i_7b:Nat}{l_7b:List Zf}(C1:¬(i_7b:Int)<a1):
  Zj 0 (exec Tryz.prog (tab (n+10)) 0 37 (Za 60) big XU) (Za 60 (Zo 7)) (VJ a1 l_7b i_7b) (.exit 2) (JW l_7b):=by
 unfold Zj
 simp+decide [VJ,Zb, Tryz.f60,JW,XU,C1]
section
variable {a1 : Int} {out_3 : List Zf} {a0 : List Zf} {n : Nat} {l_7b : List Zf}
section
variable(L1:Zk Tryz.prog (tab (n+10)) 0 37 (Za 60) 3 Vg (Xq a0 a1 [] 0)=some (.exit 0,UU a1 out_3))
include L1
theorem ZvZ(L2:Zk Tryz.prog (tab (n+10)) 0 37 (Za 60) 7 XU (WV a1 out_3)=some (.exit 2,Zao out_3)):
  run (n+10) 60 [.sl 4 (a0.map Zh),.lit (.int .i64 a1)]=some (.tup [.sl 4 (out_3.map Zh),.lit (.int .i64 0)]):=by
 unfold run fnP
 simp+decide [Tryz.f60]
 rw [Zi (C':=Vg) (e:=(Xq a0 a1 [] 0)) ?_ ?_,L1]
 rotate_left
 ·kernel_rfl
 ·simp+decide [Xq]
 simp+decide [UU]
 rw [Zi (C':=XU) (e:=(WV a1 out_3)) ?_ ?_,L2]
 rotate_left
 ·kernel_rfl
 ·simp+decide [WV]
 simp+decide [Zao]
theorem ZvG(L2:Zk Tryz.prog (tab (n+10)) 0 37 (Za 60) 7 XU (WV a1 out_3)=some (.exit 2,JW l_7b)):
  run (n+10) 60 [.sl 4 (a0.map Zh),.lit (.int .i64 a1)]=some (.tup [.sl 4 (l_7b.map Zh),.lit (.int .i64 0)]):=by
 unfold run fnP
 simp+decide [Tryz.f60]
 rw [Zi (C':=Vg) (e:=(Xq a0 a1 [] 0)) ?_ ?_,L1]
 rotate_left
 ·kernel_rfl
 ·simp+decide [Xq]
 simp+decide [UU]
 rw [Zi (C':=XU) (e:=(WV a1 out_3)) ?_ ?_,L2]
 rotate_left
 ·kernel_rfl
 ·simp+decide [WV]
 simp+decide [JW]
end
end
noncomputable def Vu:Code:=(Zb (ZP Tryz.f59)).getD 0 .skip
def XO(a0:List Zf)(a1:Int)(i_2:Nat):St:=
 ⟨[(0,.sl 4 (a0.map Zh)),(1,.lit (.int .i64 a1)),(5,.lit (.int .i64 (i_2:Int)))],
  [],0⟩
def Zap(a1:Int):St:=
 ⟨[(1,.lit (.int .i64 a1)),(4,.lit (.bool false))],
  [],0⟩
def Zaw(a1:Int):St:=
 ⟨[(1,.lit (.int .i64 a1)),(4,.any)],
  [],0⟩
section
variable{q3:Rat}{a0:List Zf}{r3:Bool}{a1:Int}{i_2:Nat}{n:Nat}{F3:List (Int × Rat)}
section
variable(C1:(i_2:Int)<(a0.length:Int))(E2:a0[i_2]?=some (F3,q3))(K3:run n 21 [Ze (F3,q3),.lit (.int .i64 a1)]=some (.lit (.bool r3)))
include C1 E2 K3
theorem ZnF(C4:r3=true)(W5:InI ((i_2:Int)+1)):
  Zm 0 (exec Tryz.prog (tab (n+1)) 0 21 (Za 59) big Vu) (Za 59 2) (XO a0 a1 i_2) (XO a0 a1 (i_2+1)):=by
 have C1_:i_2<a0.length:=by omega
 obtain ⟨EL2,EG2⟩:=List.getElem?_eq_some_iff.1 E2
 simp only [Ze] at K3
 have W5_:IntKind.i64.wrap ((i_2:Int)+1)=(i_2:Int)+1:=Zq W5.1 W5.2
 unfold Zm
 simp+decide [XO,Zb, Tryz.f59,Vu,C1,C1_,EG2,K3,C4,W5_]
theorem ZpC(C4:r3=false):
  Zj 0 (exec Tryz.prog (tab (n+1)) 0 21 (Za 59) big Vu) (Za 59 (Zo 2)) (XO a0 a1 i_2) (.ret) (Zap a1):=by
 have C1_:i_2<a0.length:=by omega
 obtain ⟨EL2,EG2⟩:=List.getElem?_eq_some_iff.1 E2
 simp only [Ze] at K3
 unfold Zj
 simp+decide [XO,Zb, Tryz.f59,Zap,Vu,C1,C1_,EG2,K3,C4]
end
theorem ZnJ(C1:¬(i_2:Int)<(a0.length:Int)):
  Zj 0 (exec Tryz.prog (tab (n+1)) 0 21 (Za 59) big Vu) (Za 59 (Zo 2)) (XO a0 a1 i_2) (.exit 0) (Zaw a1):=by
 unfold Zj
 simp+decide [XO,Zb, Tryz.f59,Zaw,Vu,C1]
theorem Zwh(L1:Zk Tryz.prog (tab (n+1)) 0 21 (Za 59) 2 Vu (XO a0 a1 0)=some (.ret,Zap a1)):
  run (n+1) 59 [.sl 4 (a0.map Zh),.lit (.int .i64 a1)]=some (.lit (.bool false)):=by
 unfold run fnP
 simp+decide [Tryz.f59]
 rw [Zi (C':=Vu) (e:=(XO a0 a1 0)) ?_ ?_,L1]
 rotate_left
 ·kernel_rfl
 ·simp+decide [XO]
 simp+decide [Zap]
theorem ZuG(L1:Zk Tryz.prog (tab (n+1)) 0 21 (Za 59) 2 Vu (XO a0 a1 0)=some (.exit 0,Zaw a1)):
  run (n+1) 59 [.sl 4 (a0.map Zh),.lit (.int .i64 a1)]=some (.lit (.bool (decide (0≤a1)))):=by
 unfold run fnP
 simp+decide [Tryz.f59]
 rw [Zi (C':=Vu) (e:=(XO a0 a1 0)) ?_ ?_,L1]
 rotate_left
 ·kernel_rfl
 ·simp+decide [XO]
 simp+decide [Zaw]
end
section
variable {a1 : Int} {a0 : List Zf} {n : Nat} {r : Bool} {r3 : Int} {r2 : List Zf}
section
variable(K1:run (n+10) 59 [.sl 4 (a0.map Zh),.lit (.int .i64 a1)]=some (.lit (.bool r)))
include K1
theorem Zv3(C2:r=false):
  run (n+11) 28 [.sl 4 (a0.map Zh),.lit (.int .i64 a1)]=some (.tup [.lit (.bool false),.lit (.int .i64 1)]):=by
 unfold run fnP
 simp+decide [Tryz.f28,K1,C2]
theorem Zux(C2:r=true)(K3:run (n+10) 60 [.sl 4 (a0.map Zh),.lit (.int .i64 a1)]=some (.tup [.sl 4 (r2.map Zh),.lit (.int .i64 r3)]))(C4:r3=0):
  run (n+11) 28 [.sl 4 (a0.map Zh),.lit (.int .i64 a1)]=some (.tup [.lit (.bool (((r2.length:Int)==0))),.lit (.int .i64 r3)]):=by
 have C4_:(r3==0)=true:=by rw [C4];simp
 unfold run fnP
 simp+decide [Tryz.f28,K1,C2,K3,C4_]
end
end
end
end Go.Proofs.YtdaonnnlgfhlaaaGreatDoor
