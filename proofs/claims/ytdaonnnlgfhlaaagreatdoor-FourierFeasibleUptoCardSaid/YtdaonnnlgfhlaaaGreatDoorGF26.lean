import Derived.Test.YtdaonnnlgfhlaaaGreatDoorGF24
import Derived.Test.YtdaonnnlgfhlaaaGreatDoorGF25
import Derived.Test.YtdaonnnlgfhlaaaGreatDoorGF19
import Derived.Test.YtdaonnnlgfhlaaaGreatDoorGF16
import Derived.Test.YtdaonnnlgfhlaaaGreatDoorGF17
import Derived.Test.YtdaonnnlgfhlaaaGreatDoorGF21
set_option linter.all false
set_option maxHeartbeats 6400000
set_option maxRecDepth 100000
namespace Go.Proofs.YtdaonnnlgfhlaaaGreatDoor
section
open Go.RowKit
attribute [local irreducible] run runL loopG exec
theorem foldI_fold{α β:Type}(g:β→α→β):∀(L:List α) (i:Nat) (b:β),foldI (fun _ b x=>g b x) i b L=L.foldl g b
 | [],_,_=>rfl
 | x::L,i,b=>by rw [foldI,foldI_fold g L];rfl
theorem srt_ok{f:Form}{vars:Int}(hs:Srt f.1)(hv:∀t∈f.1,0≤t.1∧t.1<vars):OkFm f vars:=fun i hi v c hx=>by
 obtain ⟨hlt,he⟩:=List.getElem?_eq_some_iff.1 hx
 have hm:=List.mem_of_getElem? hx
 refine ⟨(hv _ hm).1,(hv _ hm).2,hs.2 _ hm,fun v' c' h0 hy=>?_⟩
 obtain ⟨hlt2,he2⟩:=List.getElem?_eq_some_iff.1 hy
 have:=(List.pairwise_iff_getElem.1 hs.1) (i-1) i hlt2 hlt (by omega)
 rw [he,he2] at this
 exact this
theorem FB.ok{m:Nat}{f:Form}(h:FB m f){vars:Int}(hv:1099511627776≤vars):OkFm f vars:=srt_ok h.s fun t ht=>⟨(h.v t ht).1,by have:=(h.v t ht).2;omega⟩
theorem scl_len(F:List (Int × Rat))(c:Rat):(sclV F c).length≤F.length:=by
 induction F with
 | nil=>exact Nat.le_refl _
 | cons t F ih=>
   have e:sclV (t::F) c=put1 t.1 (t.2*c)++sclV F c:=rfl
   have h1:(put1 t.1 (t.2*c)).length≤1:=by unfold put1;split <;>simp
   rw [e,List.length_append,List.length_cons]
   omega
theorem FB.inr{m:Nat}{f:Form}(h:FB m f):InR 1099511627776 f.1:=fun t ht=>⟨(h.v t ht).1,by have:=(h.v t ht).2;omega⟩
theorem FB.scl{m k:Nat}{f:Form}{c:Rat}(h:FB m f)(hc:H c≤k):FB (m+k) (sclV f.1 c,f.2*c):=by
 refine ⟨(scl_srt h.s).1,⟨FH.scl h.h.1 hc,?_⟩,Nat.le_trans (scl_len _ _) h.l,fun t ht=>?_⟩
 ·have a:=H_mul f.2 c
  have b:=h.h.2
  show H (f.2*c)≤_
  omega
 ·have:=InR.scl (c:=c) h.inr t ht
  exact ⟨this.1,by have:=this.2;omega⟩
structure RB (m:Nat) (R:List Form):Prop where
 r:∀f∈R,FB m f∧f.1.length≤50
 n:R.length≤2500
theorem FB.comb{m:Nat}{v:Int}{f g:Form}(hf:FB m f)(hg:FB m g)(lf:f.1.length≤50)(lg:g.1.length≤50)(h1:1≤m):FB (4*m+1) (combF v f g):=by
 refine ⟨(comb_srt hf.s hg.s).1,FH.comb hf.s hg.s hf.h hg.h h1,?_,fun t ht=>?_⟩
 ·have a:=addV_len (sclV g.1 (cof f.1 v)) (sclV f.1 (-cof g.1 v))
  have b:=scl_len g.1 (cof f.1 v)
  have c:=scl_len f.1 (-cof g.1 v)
  show (addV (sclV f.1 (-cof g.1 v)) (sclV g.1 (cof f.1 v))).length≤100
  omega
 ·have:=InR.add (InR.scl (c:=-cof g.1 v) hf.inr) (InR.scl (c:=cof f.1 v) hg.inr) t ht
  exact ⟨this.1,by have:=this.2;omega⟩
def Bds(L:List Form):Prop:=∀g∈L,BdF 17179869184 g
theorem Bds.nil:Bds []:=fun g hg=>by cases hg
theorem Bds.col{m:Nat}{L:List Form}{f:Form}(hL:Bds L)(h:FB m f)(h1:1≤m)(hm:m≤5000):Bds (colF L f):=fun g hg=>by
 unfold colF at hg
 split at hg
 ·exact hL g hg
 split at hg
 ·exact hL g hg
 ·rcases List.mem_append.1 hg with h2|h2
  ·exact hL g h2
  ·rw [List.mem_singleton.1 h2]
   exact (h.norm h1).bd (by omega)
def stE(v:Int)(b:List Form × List Form × List Form)(f:Form):List Form × List Form × List Form:=
 if cof f.1 v=0 then (colF b.1 f,b.2.1,b.2.2) else if 0<cof f.1 v then (b.1,b.2.1++[f],b.2.2) else (b.1,b.2.1,b.2.2++[f])
theorem stE_fold(v:Int):∀(R:List Form) (o u d:List Form),R.foldl (stE v) (o,u,d)=((zeroL v R).foldl colF o,u++upL v R,d++downL v R)
 | [],o,u,d=>by simp [zeroL,upL,downL]
 | f::R,o,u,d=>by
   rw [List.foldl_cons]
   by_cases h0:cof f.1 v=0
   ·have e:stE v (o,u,d) f=(colF o f,u,d):=if_pos h0
    rw [e,stE_fold v R,zeroL_pos h0,upL_neg (by rw [h0];decide),downL_neg (by rw [h0];decide)];rfl
   ·rw [zeroL_neg h0]
    by_cases h1:0<cof f.1 v
    ·have e:stE v (o,u,d) f=(o,u++[f],d):=by unfold stE;rw [if_neg h0,if_pos h1]
     rw [e,stE_fold v R,upL_pos h1,downL_neg (by grind)];simp
    ·have e:stE v (o,u,d) f=(o,u,d++[f]):=by unfold stE;rw [if_neg h0,if_neg h1]
     rw [e,stE_fold v R,upL_neg h1,downL_pos (by grind)];simp
theorem elim_fold(v:Int)(R:List Form):(upL v R).foldl (fun b f=>(downL v R).foldl (fun b g=>colF b (combF v f g)) b) ((zeroL v R).foldl colF [])=elimF v R:=by
 unfold elimF allL
 rw [List.foldl_append]
 generalize (zeroL v R).foldl colF []=b
 generalize upL v R=U
 induction U generalizing b with
 | nil=>rfl
 | cons f U ih=>rw [List.foldl_cons,List.flatMap_cons,List.foldl_append,ih,List.foldl_map]
section
variable {n m : Nat} {R : List Form} {v : Int}
theorem fcan_c{vars:Int}(hB:Bds R)(hl:R.length≤100000):run (n+1) 44 [.sl 4 (R.map formC),.lit (.int .i64 vars)]=some (.lit (.bool (tv (∀f∈R,OkFm f vars)))):=by
 have X:=loopG_all (O:=tab (n+1)) (P:= Tryz.prog) (m:=0) (N:=18) (lives:=livesOf 44) (r:=2) (C:=fca_C2) (M:=R.length) (enc:=fun i=>fca_h2 R vars i) (p:=fun i=>tv (∀f,R[i]?=some f→OkFm f vars)) (exN:=.exit 0) (exE:=.ret) (out:=fca_o2b) (outE:=fca_o2a) (by omega) (by simp) (by simp)
  (fun i hi _=>by
   have hx:R[i]?=some R[i]:=List.getElem?_eq_getElem hi
   obtain ⟨g,hg⟩:∃g,R[i]=g:=⟨_,rfl⟩
   rw [hg] at hx
   obtain ⟨G,q⟩:=g
   have K:=lvalid_c (n:=n) (vars:=vars) (hB _ (List.mem_of_getElem? hx))
   refine ⟨fun hp=>fca_r2_1 (by omega) hx K (tv_t (tv_true hp _ hx)) ⟨by omega,by omega⟩,fun hp=>fca_x2_1 (by omega) hx K (tv_f fun h9=>tv_false hp fun f hf=>?_)⟩
   rw [hx] at hf;cases hf
   exact h9)
  (fca_x2_2 (by omega))
 by_cases h:∀f∈R,OkFm f vars
 ·rw [if_pos (fun i hi=>tv_t fun f hf=>h f (List.mem_of_getElem? hf))] at X
  rw [tv_t h]
  exact fca_f2 X
 ·rw [if_neg (fun h2=>h fun f hf=>by
   obtain ⟨i,hi⟩:=List.mem_iff_getElem?.1 hf
   exact tv_true (h2 i (List.getElem?_eq_some_iff.1 hi).1) f hi)] at X
  rw [tv_f h]
  exact fca_f1 X
theorem part_mem(hR:RB m R):(∀f∈upL v R,FB m f∧f.1.length≤50)∧(∀f∈downL v R,FB m f∧f.1.length≤50)∧(upL v R).length≤2500∧(downL v R).length≤2500:=by
 have:=part_len v R
 have:=hR.n
 exact ⟨fun f hf=>hR.r f (List.mem_filter.1 hf).1,fun f hf=>hR.r f (List.mem_filter.1 hf).1,by omega,by omega⟩
theorem pair_p{f g:Form}(hf:FB m f)(hg:FB m g)(lf:f.1.length≤50)(lg:g.1.length≤50)(h1:1≤m)(hm:m≤1200):
  ∃r s:Form,run (n+8) 37 [formV f,ratV (-cof g.1 v)]=some (formV r)∧run (n+8) 37 [formV g,ratV (cof f.1 v)]=some (formV s)∧run (n+8) 48 [formV r,formV s]=some (formV (combF v f g)):=by
 have c1:H (-cof g.1 v)≤m:=by rw [H_neg];exact cofH h1 hg.h.1
 have c2:H (cof f.1 v)≤m:=cofH h1 hf.h.1
 have r1:=hf.scl c1
 have r2:=hg.scl c2
 have K1:=pscl_c (n:=n+6) (f:=f) (c:=-cof g.1 v) (b:=m) hf.h.1 (by omega) (by have:=hf.h.2;omega) (by omega) (by omega)
 have K2:=pscl_c (n:=n+6) (f:=g) (c:=cof f.1 v) (b:=m) hg.h.1 (by omega) (by have:=hg.h.2;omega) (by omega) (by omega)
 rw [merge_scl] at K1 K2
 have K3:=padd_c (n:=n+6) (b:=m+m) r1.h.1 r2.h.1 (by omega) (by have:=r1.h.2;omega) (by have:=r2.h.2;omega) (by have:=r1.l;omega) (by have:=r2.l;omega)
 rw [merge_add r1.s r2.s,scl_one r2.s] at K3
 exact ⟨_,_,K1,K2,K3⟩
theorem pair_r{f g:Form}(hf:FB m f)(hg:FB m g)(lf:f.1.length≤50)(lg:g.1.length≤50)(h1:1≤m)(hm:m≤1200):
  ∃r s:Form,run (n+8) 41 [formV f,ratV (-cof g.1 v)]=some (formV r)∧run (n+8) 41 [formV g,ratV (cof f.1 v)]=some (formV s)∧run (n+8) 50 [formV r,formV s]=some (formV (combF v f g)):=by
 have c1:H (-cof g.1 v)≤m:=by rw [H_neg];exact cofH h1 hg.h.1
 have c2:H (cof f.1 v)≤m:=cofH h1 hf.h.1
 have r1:=hf.scl c1
 have r2:=hg.scl c2
 have K1:=scale_c (n:=n+7) (f:=f) (c:=-cof g.1 v) (hf.mono (k:=1000000) (by omega)).tm (by omega) (by have:=hf.h.2;omega) (by omega)
 have K2:=scale_c (n:=n+7) (f:=g) (c:=cof f.1 v) (hg.mono (k:=1000000) (by omega)).tm (by omega) (by have:=hg.h.2;omega) (by omega)
 have hl1:(sclV f.1 (-cof g.1 v)).length≤50:=Nat.le_trans (scl_len _ _) lf
 have hl2:(sclV g.1 (cof f.1 v)).length≤50:=Nat.le_trans (scl_len _ _) lg
 have K3:=add_c (n:=n+6) (m:=2400) (b:=2400) (r2.mono (by omega)).tm (by dsimp only;omega) (r1.mono (by omega)).tm (by dsimp only;omega) (by
  dsimp only
  have:(2400+1)*((sclV g.1 (cof f.1 v)).length+1)≤(2400+1)*51:=Nat.mul_le_mul_left _ (by omega)
  omega) (by have:=r1.h.2;omega) (by have:=r2.h.2;omega)
 exact ⟨_,_,K1,K2,K3⟩
theorem inner_p{up down o:List Form}{f:Form}{i0:Nat}(hf:FB m f∧f.1.length≤50)(hd:∀g∈down,FB m g∧g.1.length≤50)(hdl:down.length≤2500)(h1:1≤m)(hm:m≤1200)(ho:Vpos o)(hol:o.length≤7000000):
  loopG Tryz.prog (tab (n+9)) 0 93 (livesOf 17) 20 fel_C20 (fel_h20 v down up i0 0 o (seenM o) f.1 f.2 (cof f.1 v))=some (.exit 5,fel_o20a v down up i0 (down.foldl (fun b g=>colF b (combF v f g)) o) (seenM (down.foldl (fun b g=>colF b (combF v f g)) o)))∧(Vpos (down.foldl (fun b g=>colF b (combF v f g)) o)∧(down.foldl (fun b g=>colF b (combF v f g)) o).length≤o.length+down.length):=by
 have X:=loopG_I (O:=tab (n+9)) (P:= Tryz.prog) (m:=0) (N:=93) (lives:=livesOf 17) (r:=20) (C:=fel_C20) (exN:=.exit 5) (L:=down) (enc:=fun i b=>fel_h20 v down up i0 i b (seenM b) f.1 f.2 (cof f.1 v)) (f:=fun _ b (g:Form)=>colF b (combF v f g)) (Inv:=fun i b=>Vpos b∧b.length≤o.length+i) (out:=fun b=>fel_o20a v down up i0 b (seenM b)) o ⟨ho,by omega⟩ (by omega) (by simp)
  (fun i g b hi hI=>by
   obtain ⟨hI1,hI2⟩:=hI
   have hlt:=(List.getElem?_eq_some_iff.1 hi).1
   obtain ⟨hg,lg⟩:=hd g (List.mem_of_getElem? hi)
   obtain ⟨r,s,K1,K2,K3⟩:=pair_p (n:=n) (v:=v) hf.1 hg hf.2 lg h1 hm
   have hc:=FB.comb (v:=v) hf.1 hg hf.2 lg h1
   have Kc:=lco_c (n:=n+5) (v:=v) (hg.bd (k:=17179869184) (by omega))
   have hcH:H (cof g.1 v)≤17179869184:=Nat.le_trans (cofH h1 hg.h.1) (by omega)
   have hln:=col_len b (combF v f g)
   refine ⟨?_,hI1.col hc,by omega⟩
   rcases ladd_c (n:=n) hc (by omega) (by omega) hI1 (by omega) with ⟨e,K⟩|K
   ·rw [e]
    exact fel_r20_1 (by omega) hlt hi Kc hcH K1 K2 K3 K ⟨by omega,by omega⟩
   ·exact fel_r20_2 (by omega) hlt hi Kc hcH K1 K2 K3 K ⟨by omega,by omega⟩)
  (fun b hI=>fel_x20_1 (by omega))
 rw [foldI_fold] at X
 exact X
theorem outer_p{up down o:List Form}(hu:∀g∈up,FB m g∧g.1.length≤50)(hul:up.length≤2500)(hd:∀g∈down,FB m g∧g.1.length≤50)(hdl:down.length≤2500)(h1:1≤m)(hm:m≤1200)(ho:Vpos o)(hol:o.length≤2500):
  loopG Tryz.prog (tab (n+9)) 0 93 (livesOf 17) 16 fel_C16 (fel_h16 v down up 0 o (seenM o))=some (.exit 3,fel_o16a (up.foldl (fun b f=>down.foldl (fun b g=>colF b (combF v f g)) b) o) (seenM (up.foldl (fun b f=>down.foldl (fun b g=>colF b (combF v f g)) b) o))):=by
 have X:=loopG_I (O:=tab (n+9)) (P:= Tryz.prog) (m:=0) (N:=93) (lives:=livesOf 17) (r:=16) (C:=fel_C16) (exN:=.exit 3) (L:=up) (enc:=fun i b=>fel_h16 v down up i b (seenM b)) (f:=fun _ b (f:Form)=>down.foldl (fun b g=>colF b (combF v f g)) b) (Inv:=fun i b=>Vpos b∧b.length≤2500+i*2500) (out:=fun b=>fel_o16a b (seenM b)) o ⟨ho,by omega⟩ (by omega) (by simp)
  (fun i f b hi hI=>by
   obtain ⟨hI1,hI2⟩:=hI
   have hlt:=(List.getElem?_eq_some_iff.1 hi).1
   have hf:=hu f (List.mem_of_getElem? hi)
   have Kc:=lco_c (n:=n+5) (v:=v) (hf.1.bd (k:=17179869184) (by omega))
   obtain ⟨L5,a1,a2⟩:=inner_p (n:=n) (v:=v) (up:=up) (i0:=i) hf hd hdl h1 hm hI1 (by omega)
   exact ⟨fel_r16_1 (by omega) hlt hi Kc L5 ⟨by omega,by omega⟩,a1,by omega⟩)
  (fun b hI=>fel_x16_1 (by omega))
 rw [foldI_fold] at X
 exact X.1
theorem first_p(hR:RB m R)(h1:1≤m)(hm:m≤1200):
  loopG Tryz.prog (tab (n+9)) 0 93 (livesOf 17) 6 fel_C6 (fel_h6 R v [] [] 0 [] [])=some (.exit 0,fel_o6a v (upL v R) (downL v R) ((zeroL v R).foldl colF []) (seenM ((zeroL v R).foldl colF [])))∧Vpos ((zeroL v R).foldl colF [])∧((zeroL v R).foldl colF []).length≤2500:=by
 have hn:=hR.n
 have X:=loopG_I (O:=tab (n+9)) (P:= Tryz.prog) (m:=0) (N:=93) (lives:=livesOf 17) (r:=6) (C:=fel_C6) (exN:=.exit 0) (L:=R) (enc:=fun i (b:List Form × List Form × List Form)=>fel_h6 R v b.2.1 b.2.2 i b.1 (seenM b.1)) (f:=fun _ b f=>stE v b f) (Inv:=fun i b=>Vpos b.1∧b.1.length≤i∧b.2.1.length≤i∧b.2.2.length≤i) (out:=fun b=>fel_o6a v b.2.1 b.2.2 b.1 (seenM b.1)) ([],[],[]) ⟨Vpos.nil,by simp,by simp,by simp⟩ (by omega) (by simp)
  (fun i f b hi hI=>by
   obtain ⟨o,u,d⟩:=b
   obtain ⟨hI1,hI2,hI3,hI4⟩:=hI
   dsimp only at hI1 hI2 hI3 hI4
   have hlt:=(List.getElem?_eq_some_iff.1 hi).1
   obtain ⟨hf,lf⟩:=hR.r f (List.mem_of_getElem? hi)
   have Kc:=lco_c (n:=n+5) (v:=v) (hf.bd (k:=17179869184) (by omega))
   have hcH:H (cof f.1 v)≤17179869184:=Nat.le_trans (cofH h1 hf.h.1) (by omega)
   have hln:=col_len o f
   unfold stE
   dsimp only
   rcases sgR_three (cof f.1 v) with ⟨c1,c2⟩|⟨c1,c2⟩|⟨c1,c2⟩
   ·rw [if_neg (by grind),if_pos c1]
    exact ⟨fel_r6_3 (by omega) hi Kc hcH (by omega) c2 (by omega) ⟨by omega,by omega⟩,hI1,by dsimp only;omega,by simp;omega,by dsimp only;omega⟩
   ·rw [if_neg (by grind),if_neg (by grind)]
    exact ⟨fel_r6_4 (by omega) hi Kc hcH (by omega) (by omega) (by omega) ⟨by omega,by omega⟩,hI1,by dsimp only;omega,by dsimp only;omega,by simp;omega⟩
   ·rw [if_pos c1]
    refine ⟨?_,hI1.col hf,by dsimp only;omega,by dsimp only;omega,by dsimp only;omega⟩
    rcases ladd_c (n:=n) hf h1 (by omega) hI1 (by omega) with ⟨e,K⟩|K
    ·rw [e]
     exact fel_r6_1 (by omega) hi Kc hcH c2 K ⟨by omega,by omega⟩
    ·exact fel_r6_2 (by omega) hi Kc hcH c2 K ⟨by omega,by omega⟩)
  (fun b hI=>fel_x6_1 (by omega))
 rw [foldI_fold,stE_fold] at X
 obtain ⟨X1,X2,X3,_⟩:=X
 simp only [List.nil_append] at X1
 exact ⟨X1,X2,by dsimp only at X3;omega⟩
theorem RB.bds(hR:RB m R)(hm:m≤1200):Bds R:=fun f hf=>(hR.r f hf).1.bd (by omega)
theorem elim_c(hR:RB m R)(h1:1≤m)(hm:m≤1200)(hv:0≤v)(he:(elimF v R).length≤4096):
  run (n+9) 17 [.sl 4 (R.map formC),.lit (.int .i64 v)]=some (.tup [.sl 4 ((elimF v R).map formC),.lit (.int .i64 0)]):=by
 have K2:=fcan_c (n:=n+7) (vars:=4611686018427387904) (hR.bds hm) (by have:=hR.n;omega)
 obtain ⟨L4,a1,a2⟩:=first_p (n:=n) (v:=v) hR h1 hm
 obtain ⟨p1,p2,p3,p4⟩:=part_mem (v:=v) hR
 have L5:=outer_p (n:=n) (v:=v) p1 p3 p2 p4 h1 hm a1 a2
 rw [elim_fold] at L5
 exact fel_f4 (by omega) K2 (tv_t fun f hf=>(hR.r f hf).1.ok (by omega)) L4 L5 (by omega)
theorem inner_r{up down o:List Form}{f:Form}{i0:Nat}(hi0:up[i0]?=some f)(hf:FB m f∧f.1.length≤50)(hd:∀g∈down,FB m g∧g.1.length≤50)(hdl:down.length≤2500)(h1:1≤m)(hm:m≤1200)(ho:Bds o)(hol:o.length≤7000000):
  loopG Tryz.prog (tab (n+9)) 0 103 (livesOf 18) 19 rel_C19 (rel_h19 v o up down i0 0)=some (.exit 5,rel_o19a v (down.foldl (fun b g=>colF b (combF v f g)) o) up down i0)∧(Bds (down.foldl (fun b g=>colF b (combF v f g)) o)∧(down.foldl (fun b g=>colF b (combF v f g)) o).length≤o.length+down.length):=by
 have hl0:=(List.getElem?_eq_some_iff.1 hi0).1
 have X:=loopG_I (O:=tab (n+9)) (P:= Tryz.prog) (m:=0) (N:=103) (lives:=livesOf 18) (r:=19) (C:=rel_C19) (exN:=.exit 5) (L:=down) (enc:=fun i b=>rel_h19 v b up down i0 i) (f:=fun _ b (g:Form)=>colF b (combF v f g)) (Inv:=fun i b=>Bds b∧b.length≤o.length+i) (out:=fun b=>rel_o19a v b up down i0) o ⟨ho,by omega⟩ (by omega) (by simp)
  (fun i g b hi hI=>by
   obtain ⟨hI1,hI2⟩:=hI
   have hlt:=(List.getElem?_eq_some_iff.1 hi).1
   obtain ⟨hg,lg⟩:=hd g (List.mem_of_getElem? hi)
   obtain ⟨r,s,K1,K2,K3⟩:=pair_r (n:=n) (v:=v) hf.1 hg hf.2 lg h1 hm
   have hc:=FB.comb (v:=v) hf.1 hg hf.2 lg h1
   have Kf:=fco_c (n:=n+8) (f:=f) (v:=v) (by have:=hf.2;omega)
   have Kg:=fco_c (n:=n+8) (f:=g) (v:=v) (by omega)
   have hcH:H (cof g.1 v)≤17179869184:=Nat.le_trans (cofH h1 hg.h.1) (by omega)
   have hln:=col_len b (combF v f g)
   refine ⟨?_,hI1.col hc (by omega) (by omega),by omega⟩
   rcases rcol_c (n:=n) hc (by omega) (by omega) hI1 (by omega) with ⟨e,K⟩|K
   ·rw [e]
    exact rel_r19_1 (by omega) hl0 hi0 Kf hlt hi Kg hcH K1 K2 K3 K ⟨by omega,by omega⟩
   ·exact rel_r19_2 (by omega) hl0 hi0 Kf hlt hi Kg hcH K1 K2 K3 K ⟨by omega,by omega⟩)
  (fun b hI=>rel_x19_1 (by omega))
 rw [foldI_fold] at X
 exact X
theorem outer_r{up down o:List Form}(hu:∀g∈up,FB m g∧g.1.length≤50)(hul:up.length≤2500)(hd:∀g∈down,FB m g∧g.1.length≤50)(hdl:down.length≤2500)(h1:1≤m)(hm:m≤1200)(ho:Bds o)(hol:o.length≤2500):
  loopG Tryz.prog (tab (n+9)) 0 103 (livesOf 18) 16 rel_C16 (rel_h16 v o up down 0)=some (.exit 3,rel_o16a (up.foldl (fun b f=>down.foldl (fun b g=>colF b (combF v f g)) b) o)):=by
 have X:=loopG_I (O:=tab (n+9)) (P:= Tryz.prog) (m:=0) (N:=103) (lives:=livesOf 18) (r:=16) (C:=rel_C16) (exN:=.exit 3) (L:=up) (enc:=fun i b=>rel_h16 v b up down i) (f:=fun _ b (f:Form)=>down.foldl (fun b g=>colF b (combF v f g)) b) (Inv:=fun i b=>Bds b∧b.length≤2500+i*2500) (out:=fun b=>rel_o16a b) o ⟨ho,by omega⟩ (by omega) (by simp)
  (fun i f b hi hI=>by
   obtain ⟨hI1,hI2⟩:=hI
   have hlt:=(List.getElem?_eq_some_iff.1 hi).1
   have hf:=hu f (List.mem_of_getElem? hi)
   obtain ⟨L5,a1,a2⟩:=inner_r (n:=n) (v:=v) hi hf hd hdl h1 hm hI1 (by omega)
   exact ⟨rel_r16_1 (by omega) L5 ⟨by omega,by omega⟩,a1,by omega⟩)
  (fun b hI=>rel_x16_1 (by omega))
 rw [foldI_fold] at X
 exact X.1
theorem first_r(hR:RB m R)(h1:1≤m)(hm:m≤1200):
  loopG Tryz.prog (tab (n+9)) 0 103 (livesOf 18) 5 rel_C5 (rel_h5 R v [] [] [] 0)=some (.exit 0,rel_o5b v ((zeroL v R).foldl colF []) (upL v R) (downL v R))∧Bds ((zeroL v R).foldl colF [])∧((zeroL v R).foldl colF []).length≤2500:=by
 have hn:=hR.n
 have X:=loopG_I (O:=tab (n+9)) (P:= Tryz.prog) (m:=0) (N:=103) (lives:=livesOf 18) (r:=5) (C:=rel_C5) (exN:=.exit 0) (L:=R) (enc:=fun i (b:List Form × List Form × List Form)=>rel_h5 R v b.1 b.2.1 b.2.2 i) (f:=fun _ b f=>stE v b f) (Inv:=fun i b=>Bds b.1∧b.1.length≤i∧b.2.1.length≤i∧b.2.2.length≤i) (out:=fun b=>rel_o5b v b.1 b.2.1 b.2.2) ([],[],[]) ⟨Bds.nil,by simp,by simp,by simp⟩ (by omega) (by simp)
  (fun i f b hi hI=>by
   obtain ⟨o,u,d⟩:=b
   obtain ⟨hI1,hI2,hI3,hI4⟩:=hI
   dsimp only at hI1 hI2 hI3 hI4
   have hlt:=(List.getElem?_eq_some_iff.1 hi).1
   obtain ⟨hf,lf⟩:=hR.r f (List.mem_of_getElem? hi)
   have Kv:=validF_c (n:=n+8) (vars:=1099511627776) (hf.bd (k:=17179869184) (by omega))
   have hok:tv (OkFm f 1099511627776)=true:=tv_t (hf.ok (by omega))
   have Kc:=fco_c (n:=n+8) (f:=f) (v:=v) (by omega)
   have hcH:H (cof f.1 v)≤17179869184:=Nat.le_trans (cofH h1 hf.h.1) (by omega)
   have hln:=col_len o f
   unfold stE
   dsimp only
   rcases sgR_three (cof f.1 v) with ⟨c1,c2⟩|⟨c1,c2⟩|⟨c1,c2⟩
   ·rw [if_neg (by grind),if_pos c1]
    exact ⟨rel_r5_3 (by omega) hi Kv hok Kc hcH (by omega) c2 (by omega) ⟨by omega,by omega⟩,hI1,by dsimp only;omega,by simp;omega,by dsimp only;omega⟩
   ·rw [if_neg (by grind),if_neg (by grind)]
    exact ⟨rel_r5_4 (by omega) hi Kv hok Kc hcH (by omega) (by omega) (by omega) ⟨by omega,by omega⟩,hI1,by dsimp only;omega,by dsimp only;omega,by simp;omega⟩
   ·rw [if_pos c1]
    refine ⟨?_,hI1.col hf h1 (by omega),by dsimp only;omega,by dsimp only;omega,by dsimp only;omega⟩
    rcases rcol_c (n:=n) hf h1 (by omega) hI1 (by omega) with ⟨e,K⟩|K
    ·rw [e]
     exact rel_r5_1 (by omega) hi Kv hok Kc hcH c2 K ⟨by omega,by omega⟩
    ·exact rel_r5_2 (by omega) hi Kv hok Kc hcH c2 K ⟨by omega,by omega⟩)
  (fun b hI=>rel_x5_2 (by omega))
 rw [foldI_fold,stE_fold] at X
 obtain ⟨X1,X2,X3,_⟩:=X
 simp only [List.nil_append] at X1
 exact ⟨X1,X2,by dsimp only at X3;omega⟩
theorem relim_c(hR:RB m R)(h1:1≤m)(hm:m≤1200)(hv:0≤v)(he:(elimF v R).length≤4096):
  run (n+9) 18 [.sl 4 (R.map formC),.lit (.int .i64 v)]=some (.tup [.sl 4 ((elimF v R).map formC),.lit (.int .i64 0)]):=by
 obtain ⟨L4,a1,a2⟩:=first_r (n:=n) (v:=v) hR h1 hm
 obtain ⟨p1,p2,p3,p4⟩:=part_mem (v:=v) hR
 have L5:=outer_r (n:=n) (v:=v) p1 p3 p2 p4 h1 hm a1 a2
 rw [elim_fold] at L5
 exact rel_f4 (by omega) L4 L5 (by omega)
end
end
section
open Go.RowKit
noncomputable def vaR_C2:Code:=(loopsOf (bodyOf Tryz.f21)).getD 0 .skip
def vaR_h2(a0:FormR)(a1:Int)(i_2:Nat):St:=
 ⟨[(1,.lit (.int .i64 a1)),(2,.ptr 0 0),(5,.lit (.int .i64 (i_2:Int)))],
  [(0,some (.box 28 [.sl 4 (a0.1.map termRC),.lit (.bool a0.2.s),natA a0.2.l1,natA a0.2.l2] false))],1⟩
def vaR_o2a(a0:FormR):St:=
 ⟨[(2,.ptr 0 0),(4,.lit (.bool false))],
  [(0,some (.box 28 [.sl 4 (a0.1.map termRC),.lit (.bool a0.2.s),natA a0.2.l1,natA a0.2.l2] false))],1⟩
def vaR_o2b(a0:FormR):St:=
 ⟨[(2,.ptr 0 0),(4,.any)],
  [(0,some (.box 28 [.sl 4 (a0.1.map termRC),.lit (.bool a0.2.s),natA a0.2.l1,natA a0.2.l2] false))],1⟩
section
variable {r5 : Raw} {a0 : FormR} {a1 : Int} {i_2 : Nat} {v4 : Int} {v5 : Int} {r4 : Raw} {n : Nat}
section
variable(C1:(i_2:Int)<(a0.1.length:Int))(E2:a0.1[i_2]?=some (v4,r4))
include C1 E2
theorem vaR_r2_1(C3:¬v4<0)(C4:¬a1≤v4)(C5:0<(i_2:Int))(W6:InI ((i_2:Int)-1))(E7:a0.1[i_2-1]?=some (v5,r5))(Z7:1≤i_2)(C8:¬v4≤v5)(B9a:RawB r4)(C10:¬sgR r4.q=0)(C12:RatV r4.s r4.l1 r4.l2)(W13:InI ((i_2:Int)+1)):
  Cont 0 (exec Tryz.prog (tab n) 0 59 (livesOf 21) big vaR_C2) (livesOf 21 2) (vaR_h2 a0 a1 i_2) (vaR_h2 a0 a1 (i_2+1)):=by
 have C1_:i_2<a0.1.length:=by omega
 obtain ⟨EL2,EG2⟩:=List.getElem?_eq_some_iff.1 E2
 have C5_:0<i_2:=by omega
 have W6_:IntKind.i64.wrap ((i_2:Int)-1)=(i_2:Int)-1:=wr64 W6.1 W6.2
 obtain ⟨EL7,EG7⟩:=List.getElem?_eq_some_iff.1 E7
 have Z7_0:(1:Int)≤(i_2:Int):=by omega
 have K9:=rr_sign B9a
 have C10_:(sgR r4.q==0)=false:=by simpa using C10
 have K11:=rr_valid B9a
 have W13_:IntKind.i64.wrap ((i_2:Int)+1)=(i_2:Int)+1:=wr64 W13.1 W13.2
 unfold Cont
 simp+decide [vaR_h2,loopsOf, Tryz.f21,vaR_C2,C1,C1_,EG2,C3,C4,C5_,W6_,EL7,EG7,Z7_0,C8,K9,C10_,K11,C12,W13_]
theorem vaR_r2_2(C3:¬v4<0)(C4:¬a1≤v4)(C5:¬0<(i_2:Int))(B6a:RawB r4)(C7:¬sgR r4.q=0)(C9:RatV r4.s r4.l1 r4.l2)(W10:InI ((i_2:Int)+1)):
  Cont 0 (exec Tryz.prog (tab n) 0 59 (livesOf 21) big vaR_C2) (livesOf 21 2) (vaR_h2 a0 a1 i_2) (vaR_h2 a0 a1 (i_2+1)):=by
 have C1_:i_2<a0.1.length:=by omega
 obtain ⟨EL2,EG2⟩:=List.getElem?_eq_some_iff.1 E2
 have C5_:¬0<i_2:=by omega
 have K6:=rr_sign B6a
 have C7_:(sgR r4.q==0)=false:=by simpa using C7
 have K8:=rr_valid B6a
 have W10_:IntKind.i64.wrap ((i_2:Int)+1)=(i_2:Int)+1:=wr64 W10.1 W10.2
 unfold Cont
 simp+decide [vaR_h2,loopsOf, Tryz.f21,vaR_C2,C1,C1_,EG2,C3,C4,C5_,K6,C7_,K8,C9,W10_]
theorem vaR_x2_1(C3:v4<0):
  Leave 0 (exec Tryz.prog (tab n) 0 59 (livesOf 21) big vaR_C2) (livesOf 21 (outOf 2)) (vaR_h2 a0 a1 i_2) (.ret) (vaR_o2a a0):=by
 have C1_:i_2<a0.1.length:=by omega
 obtain ⟨EL2,EG2⟩:=List.getElem?_eq_some_iff.1 E2
 unfold Leave
 simp+decide [vaR_h2,loopsOf, Tryz.f21,vaR_o2a,vaR_C2,C1,C1_,EG2,C3]
theorem vaR_x2_2(C3:¬v4<0)(C4:a1≤v4):
  Leave 0 (exec Tryz.prog (tab n) 0 59 (livesOf 21) big vaR_C2) (livesOf 21 (outOf 2)) (vaR_h2 a0 a1 i_2) (.ret) (vaR_o2a a0):=by
 have C1_:i_2<a0.1.length:=by omega
 obtain ⟨EL2,EG2⟩:=List.getElem?_eq_some_iff.1 E2
 unfold Leave
 simp+decide [vaR_h2,loopsOf, Tryz.f21,vaR_o2a,vaR_C2,C1,C1_,EG2,C3,C4]
section
variable(C3:¬v4<0)(C4:¬a1≤v4)
include C3 C4
section
variable(C5:0<(i_2:Int))(W6:InI ((i_2:Int)-1))(E7:a0.1[i_2-1]?=some (v5,r5))(Z7:1≤i_2)
include C5 W6 E7 Z7
theorem vaR_x2_3(C8:v4≤v5):
  Leave 0 (exec Tryz.prog (tab n) 0 59 (livesOf 21) big vaR_C2) (livesOf 21 (outOf 2)) (vaR_h2 a0 a1 i_2) (.ret) (vaR_o2a a0):=by
 have C1_:i_2<a0.1.length:=by omega
 obtain ⟨EL2,EG2⟩:=List.getElem?_eq_some_iff.1 E2
 have C5_:0<i_2:=by omega
 have W6_:IntKind.i64.wrap ((i_2:Int)-1)=(i_2:Int)-1:=wr64 W6.1 W6.2
 obtain ⟨EL7,EG7⟩:=List.getElem?_eq_some_iff.1 E7
 have Z7_0:(1:Int)≤(i_2:Int):=by omega
 unfold Leave
 simp+decide [vaR_h2,loopsOf, Tryz.f21,vaR_o2a,vaR_C2,C1,C1_,EG2,C3,C4,C5_,W6_,EL7,EG7,Z7_0,C8]
theorem vaR_x2_4(C8:¬v4≤v5)(B9a:RawB r4)(C10:sgR r4.q=0):
  Leave 0 (exec Tryz.prog (tab n) 0 59 (livesOf 21) big vaR_C2) (livesOf 21 (outOf 2)) (vaR_h2 a0 a1 i_2) (.ret) (vaR_o2a a0):=by
 have C1_:i_2<a0.1.length:=by omega
 obtain ⟨EL2,EG2⟩:=List.getElem?_eq_some_iff.1 E2
 have C5_:0<i_2:=by omega
 have W6_:IntKind.i64.wrap ((i_2:Int)-1)=(i_2:Int)-1:=wr64 W6.1 W6.2
 obtain ⟨EL7,EG7⟩:=List.getElem?_eq_some_iff.1 E7
 have Z7_0:(1:Int)≤(i_2:Int):=by omega
 have K9:=rr_sign B9a
 have C10_:(sgR r4.q==0)=true:=by rw [C10];simp
 unfold Leave
 simp+decide [vaR_h2,loopsOf, Tryz.f21,vaR_o2a,vaR_C2,C1,C1_,EG2,C3,C4,C5_,W6_,EL7,EG7,Z7_0,C8,K9,C10_]
theorem vaR_x2_5(C8:¬v4≤v5)(B9a:RawB r4)(C10:¬sgR r4.q=0)(C12:¬(RatV r4.s r4.l1 r4.l2)):
  Leave 0 (exec Tryz.prog (tab n) 0 59 (livesOf 21) big vaR_C2) (livesOf 21 (outOf 2)) (vaR_h2 a0 a1 i_2) (.ret) (vaR_o2a a0):=by
 have C1_:i_2<a0.1.length:=by omega
 obtain ⟨EL2,EG2⟩:=List.getElem?_eq_some_iff.1 E2
 have C5_:0<i_2:=by omega
 have W6_:IntKind.i64.wrap ((i_2:Int)-1)=(i_2:Int)-1:=wr64 W6.1 W6.2
 obtain ⟨EL7,EG7⟩:=List.getElem?_eq_some_iff.1 E7
 have Z7_0:(1:Int)≤(i_2:Int):=by omega
 have K9:=rr_sign B9a
 have C10_:(sgR r4.q==0)=false:=by simpa using C10
 have K11:=rr_valid B9a
 unfold Leave
 simp+decide [vaR_h2,loopsOf, Tryz.f21,vaR_o2a,vaR_C2,C1,C1_,EG2,C3,C4,C5_,W6_,EL7,EG7,Z7_0,C8,K9,C10_,K11,C12]
end
theorem vaR_x2_6(C5:¬0<(i_2:Int))(B6a:RawB r4)(C7:sgR r4.q=0):
  Leave 0 (exec Tryz.prog (tab n) 0 59 (livesOf 21) big vaR_C2) (livesOf 21 (outOf 2)) (vaR_h2 a0 a1 i_2) (.ret) (vaR_o2a a0):=by
 have C1_:i_2<a0.1.length:=by omega
 obtain ⟨EL2,EG2⟩:=List.getElem?_eq_some_iff.1 E2
 have C5_:¬0<i_2:=by omega
 have K6:=rr_sign B6a
 have C7_:(sgR r4.q==0)=true:=by rw [C7];simp
 unfold Leave
 simp+decide [vaR_h2,loopsOf, Tryz.f21,vaR_o2a,vaR_C2,C1,C1_,EG2,C3,C4,C5_,K6,C7_]
theorem vaR_x2_7(C5:¬0<(i_2:Int))(B6a:RawB r4)(C7:¬sgR r4.q=0)(C9:¬(RatV r4.s r4.l1 r4.l2)):
  Leave 0 (exec Tryz.prog (tab n) 0 59 (livesOf 21) big vaR_C2) (livesOf 21 (outOf 2)) (vaR_h2 a0 a1 i_2) (.ret) (vaR_o2a a0):=by
 have C1_:i_2<a0.1.length:=by omega
 obtain ⟨EL2,EG2⟩:=List.getElem?_eq_some_iff.1 E2
 have C5_:¬0<i_2:=by omega
 have K6:=rr_sign B6a
 have C7_:(sgR r4.q==0)=false:=by simpa using C7
 have K8:=rr_valid B6a
 unfold Leave
 simp+decide [vaR_h2,loopsOf, Tryz.f21,vaR_o2a,vaR_C2,C1,C1_,EG2,C3,C4,C5_,K6,C7_,K8,C9]
end
end
theorem vaR_x2_8(C1:¬(i_2:Int)<(a0.1.length:Int)):
  Leave 0 (exec Tryz.prog (tab n) 0 59 (livesOf 21) big vaR_C2) (livesOf 21 (outOf 2)) (vaR_h2 a0 a1 i_2) (.exit 0) (vaR_o2b a0):=by
 unfold Leave
 simp+decide [vaR_h2,loopsOf, Tryz.f21,vaR_o2b,vaR_C2,C1]
theorem vaR_f1(L1:loopG Tryz.prog (tab n) 0 59 (livesOf 21) 2 vaR_C2 (vaR_h2 a0 a1 0)=some (.ret,vaR_o2a a0)):
  run n 21 [.agg [.sl 4 (a0.1.map termRC),.lit (.bool a0.2.s),natA a0.2.l1,natA a0.2.l2],.lit (.int .i64 a1)]=some (.lit (.bool false)):=by
 unfold run fnP
 simp+decide [Tryz.f21]
 rw [loopX_G (C':=vaR_C2) (e:=(vaR_h2 a0 a1 0)) ?_ ?_,L1]
 rotate_left
 ·kernel_rfl
 ·simp+decide [vaR_h2]
 simp+decide [vaR_o2a]
theorem vaR_f2(L1:loopG Tryz.prog (tab n) 0 59 (livesOf 21) 2 vaR_C2 (vaR_h2 a0 a1 0)=some (.exit 0,vaR_o2b a0))(B2a:RawB a0.2):
  run n 21 [.agg [.sl 4 (a0.1.map termRC),.lit (.bool a0.2.s),natA a0.2.l1,natA a0.2.l2],.lit (.int .i64 a1)]=some (.lit (.bool (decide (RatV a0.2.s a0.2.l1 a0.2.l2)))):=by
 have K2:=rr_valid B2a
 unfold run fnP
 simp+decide [Tryz.f21]
 rw [loopX_G (C':=vaR_C2) (e:=(vaR_h2 a0 a1 0)) ?_ ?_,L1]
 rotate_left
 ·kernel_rfl
 ·simp+decide [vaR_h2]
 simp+decide [vaR_o2b,K2]
end
end
section
open Go.RowKit
attribute [local irreducible] run runL loopG exec
def frV(f:FormR):AV:=.agg [.sl 4 (f.1.map termRC),.lit (.bool f.2.s),natA f.2.l1,natA f.2.l2]
def LimR2(r:Raw):Prop:=Lim r.l1∧Lim r.l2
structure LimF (f:FormR):Prop where
 t:∀t∈f.1,LimR2 t.2
 k:LimR2 f.2
def Two(r:Raw):Prop:=r.l1.length≤2∧r.l2.length≤2
def Cn(r:Raw):Prop:=RatV r.s r.l1 r.l2
theorem Cn.raw{r:Raw}(h:Cn r):r=rawQ r.q:=by
 obtain ⟨s,l1,l2⟩:=r
 obtain ⟨h1,h2,h3⟩:=h
 dsimp only at h1 h2 h3
 unfold Raw.q rawQ
 dsimp only
 rw [←h1,←h2,←h3]
theorem dlmb_H(d:Nat):(lmb d).length≤max 1 (dlmb d).length:=by
 unfold dlmb
 split
 ·rename_i h;subst h;rw [lmb_one];simp
 ·exact Nat.le_max_right _ _
theorem Cn.HB{r:Raw}{m:Nat}(h:Cn r)(hm:1≤m)(h1:r.l1.length≤m)(h2:r.l2.length≤m):H r.q≤m:=by
 have e:=h.raw
 have a1:(lmb r.q.num.natAbs).length≤m:=by have:=congrArg Raw.l1 e;rw [this] at h1;exact h1
 have a2:(dlmb r.q.den).length≤m:=by have:=congrArg Raw.l2 e;rw [this] at h2;exact h2
 have a3:=dlmb_H r.q.den
 unfold Go.Proofs.YtdaonnnlgfhlaaaGreatDoor.H
 omega
def OkTmR(F:List (Int × Raw))(vars:Int)(i:Nat):Prop:=∀v c,F[i]?=some (v,c)→0≤v∧v<vars∧c.q≠0∧Cn c∧∀v' c',0<i→F[i-1]?=some (v',c')→v'<v
def OkFR(f:FormR)(vars:Int):Prop:=(∀i,i<f.1.length→OkTmR f.1 vars i)∧Cn f.2
theorem validRB_c{n:Nat}{f:FormR}{vars:Int}(h8:f.1.length≤100000)(hrbs:∀t∈f.1,RawB t.2)(hkb:RawB f.2):run n 21 [frV f,.lit (.int .i64 vars)]=some (.lit (.bool (tv (OkFR f vars)))):=by
 have L:=loopG_all (O:=tab n) (P:= Tryz.prog) (m:=0) (N:=59) (lives:=livesOf 21) (r:=2) (C:=vaR_C2) (M:=f.1.length) (enc:=vaR_h2 f vars) (p:=fun i=>tv (OkTmR f.1 vars i)) (exN:=.exit 0) (exE:=.ret) (out:=vaR_o2b f) (outE:=vaR_o2a f) (by omega) (fun h=>by cases h) (fun h=>by cases h)
  (fun i hi _=>by
   have hx:f.1[i]?=some f.1[i]:=List.getElem?_eq_getElem hi
   obtain ⟨t,ht⟩:∃t,f.1[i]=t:=⟨_,rfl⟩
   rw [ht] at hx
   obtain ⟨v,r⟩:=t
   have hm:(v,r)∈f.1:=List.mem_of_getElem? hx
   have hrb:RawB r:=hrbs _ hm
   have C1:(i:Int)<(f.1.length:Int):=by omega
   have hp:0<i→∃v' r',f.1[i-1]?=some (v',r'):=fun h0=>⟨(f.1[i-1]'(by omega)).1,(f.1[i-1]'(by omega)).2,List.getElem?_eq_getElem _⟩
   refine ⟨fun hp'=>?_,fun hp'=>?_⟩
   ·obtain ⟨a1,a2,a3,a4,a5⟩:=tv_true hp' v r hx
    have s0:¬sgR r.q=0:=fun h=>a3 (sgR_eq_zero.1 h)
    by_cases h0:0<i
    ·obtain ⟨v',r',hx'⟩:=hp h0
     have:=a5 v' r' h0 hx'
     exact vaR_r2_1 C1 hx (by omega) (by omega) (by omega) ⟨by omega,by omega⟩ hx' (by omega) (by omega) hrb s0 a4 ⟨by omega,by omega⟩
    ·exact vaR_r2_2 C1 hx (by omega) (by omega) (by omega) hrb s0 a4 ⟨by omega,by omega⟩
   ·have hq:=tv_false hp'
    by_cases b1:v<0
    ·exact vaR_x2_1 C1 hx b1
    by_cases b2:vars≤v
    ·exact vaR_x2_2 C1 hx b1 b2
    by_cases h0:0<i
    ·obtain ⟨v',r',hx'⟩:=hp h0
     by_cases b3:v≤v'
     ·exact vaR_x2_3 C1 hx b1 b2 (by omega) ⟨by omega,by omega⟩ hx' (by omega) b3
     by_cases b4:sgR r.q=0
     ·exact vaR_x2_4 C1 hx b1 b2 (by omega) ⟨by omega,by omega⟩ hx' (by omega) b3 hrb b4
     refine vaR_x2_5 C1 hx b1 b2 (by omega) ⟨by omega,by omega⟩ hx' (by omega) b3 hrb b4 fun b5=>hq fun v2 c2 h2=>?_
     rw [hx] at h2;cases h2
     refine ⟨by omega,by omega,fun h=>b4 (sgR_eq_zero.2 h),b5,fun v3 c3 _ h3=>?_⟩
     rw [hx'] at h3;cases h3
     omega
    ·by_cases b4:sgR r.q=0
     ·exact vaR_x2_6 C1 hx b1 b2 (by omega) hrb b4
     refine vaR_x2_7 C1 hx b1 b2 (by omega) hrb b4 fun b5=>hq fun v2 c2 h2=>?_
     rw [hx] at h2;cases h2
     exact ⟨by omega,by omega,fun h=>b4 (sgR_eq_zero.2 h),b5,fun v3 c3 h9 h3=>absurd h9 h0⟩)
  (vaR_x2_8 (by omega))
 by_cases hA:∀i,i<f.1.length→tv (OkTmR f.1 vars i)=true
 ·rw [if_pos hA] at L
  have h:=vaR_f2 L hkb
  have e:decide (RatV f.2.s f.2.l1 f.2.l2)=tv (OkFR f vars):=by
   by_cases hk:Cn f.2
   ·rw [tv_t ⟨fun i hi=>tv_true (hA i hi),hk⟩];exact decide_eq_true hk
   ·rw [tv_f fun h=>hk h.2];exact decide_eq_false hk
  rw [e] at h
  exact h
 ·rw [if_neg hA] at L
  rw [tv_f fun h=>hA fun i hi=>tv_t (h.1 i hi)]
  exact vaR_f1 L
def unR(f:FormR):Form:=(f.1.map fun t=>(t.1,t.2.q),f.2.q)
theorem small_formB{f:FormR}{vars:Int}{m:Nat}(hm:1≤m)(ht:∀t∈f.1,t.2.l1.length≤m∧t.2.l2.length≤m)(hk:f.2.l1.length≤m∧f.2.l2.length≤m)(ho:OkFR f vars):frV f=formV (unR f)∧(unR f).1.length=f.1.length∧(∀t∈(unR f).1,H t.2≤m)∧H (unR f).2≤m∧OkFm (unR f) vars:=by
 have hc:∀t∈f.1,Cn t.2:=fun t ht=>by
  obtain ⟨i,hi⟩:=List.mem_iff_getElem?.1 ht
  exact (ho.1 i (List.getElem?_eq_some_iff.1 hi).1 t.1 t.2 hi).2.2.2.1
 refine ⟨?_,by simp [unR],fun t h9=>?_,ho.2.HB hm hk.1 hk.2,fun i hi v c h=>?_⟩
 ·have e1:f.1.map termRC=(unR f).1.map termC:=by
   simp only [unR,List.map_map]
   apply List.map_congr_left
   intro t ht
   have e:=(hc t ht).raw
   simp only [Function.comp,termRC,termC,ratC]
   rw [←e]
  have e2:=ho.2.raw
  unfold frV
  simp only [formV,e1]
  have e3:rawQ (unR f).2=f.2:=e2.symm
  rw [e3]
 ·simp only [unR,List.mem_map] at h9
  obtain ⟨u,hu,rfl⟩:=h9
  exact (hc u hu).HB hm (ht u hu).1 (ht u hu).2
 ·simp only [unR,List.length_map] at hi
  simp only [unR,List.getElem?_map] at h
  obtain ⟨u,hu,he⟩:=Option.map_eq_some_iff.1 h
  cases he
  obtain ⟨a1,a2,a3,_,a5⟩:=ho.1 i hi u.1 u.2 hu
  refine ⟨a1,a2,a3,fun v' c' h0 h'=>?_⟩
  simp only [unR,List.getElem?_map] at h'
  obtain ⟨u',hu',he'⟩:=Option.map_eq_some_iff.1 h'
  cases he'
  exact a5 u'.1 u'.2 h0 hu'
end
section
open Go.RowKit
section
variable {a0 : Raw} {n : Nat}
theorem smr_f1(C1:(a0.l1.length:Int)≤2)(C2:(a0.l2.length:Int)≤2)(B3a:RawB a0):
  run n 33 [.agg [.lit (.bool a0.s),natA a0.l1,natA a0.l2]]=some (.lit (.bool (decide (RatV a0.s a0.l1 a0.l2)))):=by
 have K3:=rr_valid B3a
 unfold run fnP
 simp+decide [Tryz.f33,C1,C2,K3]
theorem smr_f2(C1:(a0.l1.length:Int)≤2)(C2:¬(a0.l2.length:Int)≤2):
  run n 33 [.agg [.lit (.bool a0.s),natA a0.l1,natA a0.l2]]=some (.lit (.bool false)):=by
 unfold run fnP
 simp+decide [Tryz.f33,C1,C2]
theorem smr_f3(C1:¬(a0.l1.length:Int)≤2):
  run n 33 [.agg [.lit (.bool a0.s),natA a0.l1,natA a0.l2]]=some (.lit (.bool false)):=by
 unfold run fnP
 simp+decide [Tryz.f33,C1]
end
noncomputable def smf_C4:Code:=(loopsOf (bodyOf Tryz.f9)).getD 0 .skip
def smf_h4(a0:FormR)(i_4:Nat):St:=
 ⟨[(1,.ptr 0 0),(3,.lit (.int .i64 (i_4:Int)))],
  [(0,some (.box 28 [.sl 4 (a0.1.map termRC),.lit (.bool a0.2.s),natA a0.2.l1,natA a0.2.l2] false))],1⟩
def smf_o4a:St:=
 ⟨[(2,.lit (.bool false))],
  [],0⟩
def smf_o4b:St:=
 ⟨[(2,.any)],
  [],0⟩
section
variable {r7 : Raw} {a0 : FormR} {i_4 : Nat} {v3 : Int} {r8 : Bool} {n : Nat} {r : Bool} {r2 : Bool}
section
variable(C1:(i_4:Int)<(a0.1.length:Int))(E2:a0.1[i_4]?=some (v3,r7))(K3:run n 33 [.agg [.lit (.bool r7.s),natA r7.l1,natA r7.l2]]=some (.lit (.bool r8)))
include C1 E2 K3
theorem smf_r4_1(C4:r8=true)(W5:InI ((i_4:Int)+1)):
  Cont 0 (exec Tryz.prog (tab (n+1)) 0 34 (livesOf 9) big smf_C4) (livesOf 9 4) (smf_h4 a0 i_4) (smf_h4 a0 (i_4+1)):=by
 have C1_:i_4<a0.1.length:=by omega
 obtain ⟨EL2,EG2⟩:=List.getElem?_eq_some_iff.1 E2
 have W5_:IntKind.i64.wrap ((i_4:Int)+1)=(i_4:Int)+1:=wr64 W5.1 W5.2
 unfold Cont
 simp+decide [smf_h4,loopsOf, Tryz.f9,smf_C4,C1,C1_,EG2,K3,C4,W5_]
theorem smf_x4_1(C4:r8=false):
  Leave 0 (exec Tryz.prog (tab (n+1)) 0 34 (livesOf 9) big smf_C4) (livesOf 9 (outOf 4)) (smf_h4 a0 i_4) (.ret) (smf_o4a):=by
 have C1_:i_4<a0.1.length:=by omega
 obtain ⟨EL2,EG2⟩:=List.getElem?_eq_some_iff.1 E2
 unfold Leave
 simp+decide [smf_h4,loopsOf, Tryz.f9,smf_o4a,smf_C4,C1,C1_,EG2,K3,C4]
end
theorem smf_x4_2(C1:¬(i_4:Int)<(a0.1.length:Int)):
  Leave 0 (exec Tryz.prog (tab (n+1)) 0 34 (livesOf 9) big smf_C4) (livesOf 9 (outOf 4)) (smf_h4 a0 i_4) (.exit 0) (smf_o4b):=by
 unfold Leave
 simp+decide [smf_h4,loopsOf, Tryz.f9,smf_o4b,smf_C4,C1]
theorem smf_f1(C1:8<(a0.1.length:Int)):
  run (n+1) 9 [.agg [.sl 4 (a0.1.map termRC),.lit (.bool a0.2.s),natA a0.2.l1,natA a0.2.l2]]=some (.lit (.bool false)):=by
 unfold run fnP
 simp+decide [Tryz.f9,C1]
section
variable(C1:¬8<(a0.1.length:Int))(K2:run n 33 [.agg [.lit (.bool a0.2.s),natA a0.2.l1,natA a0.2.l2]]=some (.lit (.bool r)))
include C1 K2
theorem smf_f2(C3:r=false):
  run (n+1) 9 [.agg [.sl 4 (a0.1.map termRC),.lit (.bool a0.2.s),natA a0.2.l1,natA a0.2.l2]]=some (.lit (.bool false)):=by
 unfold run fnP
 simp+decide [Tryz.f9,C1,K2,C3]
section
variable(C3:r=true)(K4:run n 21 [.agg [.sl 4 (a0.1.map termRC),.lit (.bool a0.2.s),natA a0.2.l1,natA a0.2.l2],.lit (.int .i64 1048576)]=some (.lit (.bool r2)))
include C3 K4
theorem smf_f3(C5:r2=false):
  run (n+1) 9 [.agg [.sl 4 (a0.1.map termRC),.lit (.bool a0.2.s),natA a0.2.l1,natA a0.2.l2]]=some (.lit (.bool false)):=by
 unfold run fnP
 simp+decide [Tryz.f9,C1,K2,C3,K4,C5]
theorem smf_f4(C5:r2=true)(L6:loopG Tryz.prog (tab (n+1)) 0 34 (livesOf 9) 4 smf_C4 (smf_h4 a0 0)=some (.ret,smf_o4a)):
  run (n+1) 9 [.agg [.sl 4 (a0.1.map termRC),.lit (.bool a0.2.s),natA a0.2.l1,natA a0.2.l2]]=some (.lit (.bool false)):=by
 unfold run fnP
 simp+decide [Tryz.f9,C1,K2,C3,K4,C5]
 rw [loopX_G (C':=smf_C4) (e:=(smf_h4 a0 0)) ?_ ?_,L6]
 rotate_left
 ·kernel_rfl
 ·simp+decide [smf_h4]
 simp+decide [smf_o4a]
theorem smf_f5(C5:r2=true)(L6:loopG Tryz.prog (tab (n+1)) 0 34 (livesOf 9) 4 smf_C4 (smf_h4 a0 0)=some (.exit 0,smf_o4b)):
  run (n+1) 9 [.agg [.sl 4 (a0.1.map termRC),.lit (.bool a0.2.s),natA a0.2.l1,natA a0.2.l2]]=some (.lit (.bool true)):=by
 unfold run fnP
 simp+decide [Tryz.f9,C1,K2,C3,K4,C5]
 rw [loopX_G (C':=smf_C4) (e:=(smf_h4 a0 0)) ?_ ?_,L6]
 rotate_left
 ·kernel_rfl
 ·simp+decide [smf_h4]
 simp+decide [smf_o4b]
end
end
end
noncomputable def sms_C4:Code:=(loopsOf (bodyOf Tryz.f43)).getD 0 .skip
def sms_h4(a0:List FormR)(i_4:Nat):St:=
 ⟨[(0,.sl 4 (a0.map formRC)),(5,.lit (.int .i64 (i_4:Int)))],
  [],0⟩
def sms_o4a:St:=
 ⟨[(4,.lit (.bool false))],
  [],0⟩
def sms_o4b:St:=
 ⟨[(4,.any)],
  [],0⟩
section
variable{r5:Raw}{a0:List FormR}{i_4:Nat}{r6:Bool}{F3:List (Int × Raw)}{n:Nat}{a1:Int}
section
variable(C1:(i_4:Int)<(a0.length:Int))(E2:a0[i_4]?=some (F3,r5))(K3:run (n+1) 9 [.agg [.sl 4 (F3.map termRC),.lit (.bool r5.s),natA r5.l1,natA r5.l2]]=some (.lit (.bool r6)))
include C1 E2 K3
theorem sms_r4_1(C4:r6=true)(W5:InI ((i_4:Int)+1)):
  Cont 0 (exec Tryz.prog (tab (n+2)) 0 22 (livesOf 43) big sms_C4) (livesOf 43 4) (sms_h4 a0 i_4) (sms_h4 a0 (i_4+1)):=by
 have C1_:i_4<a0.length:=by omega
 obtain ⟨EL2,EG2⟩:=List.getElem?_eq_some_iff.1 E2
 have W5_:IntKind.i64.wrap ((i_4:Int)+1)=(i_4:Int)+1:=wr64 W5.1 W5.2
 unfold Cont
 simp+decide [sms_h4,loopsOf, Tryz.f43,sms_C4,C1,C1_,EG2,K3,C4,W5_]
theorem sms_x4_1(C4:r6=false):
  Leave 0 (exec Tryz.prog (tab (n+2)) 0 22 (livesOf 43) big sms_C4) (livesOf 43 (outOf 4)) (sms_h4 a0 i_4) (.ret) (sms_o4a):=by
 have C1_:i_4<a0.length:=by omega
 obtain ⟨EL2,EG2⟩:=List.getElem?_eq_some_iff.1 E2
 unfold Leave
 simp+decide [sms_h4,loopsOf, Tryz.f43,sms_o4a,sms_C4,C1,C1_,EG2,K3,C4]
end
theorem sms_x4_2(C1:¬(i_4:Int)<(a0.length:Int)):
  Leave 0 (exec Tryz.prog (tab (n+2)) 0 22 (livesOf 43) big sms_C4) (livesOf 43 (outOf 4)) (sms_h4 a0 i_4) (.exit 0) (sms_o4b):=by
 unfold Leave
 simp+decide [sms_h4,loopsOf, Tryz.f43,sms_o4b,sms_C4,C1]
theorem sms_f1(C1:a1<(a0.length:Int)):
  run (n+2) 43 [.sl 4 (a0.map formRC),.lit (.int .i64 a1)]=some (.lit (.bool false)):=by
 unfold run fnP
 simp+decide [Tryz.f43,C1]
theorem sms_f2(C1:¬a1<(a0.length:Int))(L2:loopG Tryz.prog (tab (n+2)) 0 22 (livesOf 43) 4 sms_C4 (sms_h4 a0 0)=some (.ret,sms_o4a)):
  run (n+2) 43 [.sl 4 (a0.map formRC),.lit (.int .i64 a1)]=some (.lit (.bool false)):=by
 unfold run fnP
 simp+decide [Tryz.f43,C1]
 rw [loopX_G (C':=sms_C4) (e:=(sms_h4 a0 0)) ?_ ?_,L2]
 rotate_left
 ·kernel_rfl
 ·simp+decide [sms_h4]
 simp+decide [sms_o4a]
theorem sms_f3(C1:¬a1<(a0.length:Int))(L2:loopG Tryz.prog (tab (n+2)) 0 22 (livesOf 43) 4 sms_C4 (sms_h4 a0 0)=some (.exit 0,sms_o4b)):
  run (n+2) 43 [.sl 4 (a0.map formRC),.lit (.int .i64 a1)]=some (.lit (.bool true)):=by
 unfold run fnP
 simp+decide [Tryz.f43,C1]
 rw [loopX_G (C':=sms_C4) (e:=(sms_h4 a0 0)) ?_ ?_,L2]
 rotate_left
 ·kernel_rfl
 ·simp+decide [sms_h4]
 simp+decide [sms_o4b]
end
theorem few3_f1{n:Nat}{a0:List FormR}{r:Bool}(K1:run (n+2) 43 [.sl 4 (a0.map formRC),.lit (.int .i64 7)]=some (.lit (.bool r))):
  run (n+3) 16 [.sl 4 (a0.map formRC)]=some (.lit (.bool r)):=by
 unfold run fnP
 simp+decide [Tryz.f16,K1]
end
section
open Go.RowKit
attribute [local irreducible] run runL loopG exec
def SmQ(r:Raw):Prop:=Two r∧Cn r
structure RawF (f:FormR):Prop where
 t:∀t∈f.1,RawB t.2
 k:RawB f.2
def SmR(f:FormR):Prop:=f.1.length≤8∧SmQ f.2∧OkFR f 1048576∧∀t∈f.1,SmQ t.2
section
variable {n : Nat}
theorem smr_c{r:Raw}(hR:RawB r):run n 33 [.agg [.lit (.bool r.s),natA r.l1,natA r.l2]]=some (.lit (.bool (tv (SmQ r)))):=by
 by_cases h1:r.l1.length≤2
 ·by_cases h2:r.l2.length≤2
  ·have K:=smr_f1 (n:=n) (a0:=r) (by omega) (by omega) hR
   by_cases h3:RatV r.s r.l1 r.l2
   ·rw [decide_eq_true h3] at K
    rw [tv_t (p:=SmQ r) ⟨⟨h1,h2⟩,h3⟩]
    exact K
   ·rw [decide_eq_false h3] at K
    rw [tv_f (p:=SmQ r) (fun h=>h3 h.2)]
    exact K
  ·rw [tv_f (p:=SmQ r) (fun h=>h2 h.1.2)]
   exact smr_f2 (by omega) (by omega)
 ·rw [tv_f (p:=SmQ r) (fun h=>h1 h.1.1)]
  exact smr_f3 (by omega)
theorem smf_c{f:FormR}(hB:RawF f):run (n+1) 9 [frV f]=some (.lit (.bool (tv (SmR f)))):=by
 by_cases h1:8<f.1.length
 ·rw [tv_f (p:=SmR f) (fun h=>by have:=h.1;omega)]
  exact smf_f1 (by omega)
 have K2:=smr_c (n:=n) hB.k
 by_cases h2:SmQ f.2
 ·rw [tv_t h2] at K2
  have K4:=validRB_c (n:=n) (vars:=1048576) (by omega) hB.t hB.k
  by_cases h3:OkFR f 1048576
  ·rw [tv_t h3] at K4
   have X:=loopG_all (O:=tab (n+1)) (P:= Tryz.prog) (m:=0) (N:=34) (lives:=livesOf 9) (r:=4) (C:=smf_C4) (M:=f.1.length) (enc:=fun i=>smf_h4 f i) (p:=fun i=>tv (∀t,f.1[i]?=some t→SmQ t.2)) (exN:=.exit 0) (exE:=.ret) (out:=smf_o4b) (outE:=smf_o4a) (by omega) (by simp) (by simp)
    (fun i hi _=>by
     have hx:f.1[i]?=some f.1[i]:=List.getElem?_eq_getElem hi
     obtain ⟨t,ht⟩:∃t,f.1[i]=t:=⟨_,rfl⟩
     rw [ht] at hx
     obtain ⟨v,r⟩:=t
     have K:=smr_c (n:=n) (hB.t _ (List.mem_of_getElem? hx))
     refine ⟨fun hp=>smf_r4_1 (by omega) hx K (tv_t (tv_true hp _ hx)) ⟨by omega,by omega⟩,fun hp=>smf_x4_1 (by omega) hx K (tv_f fun h9=>tv_false hp fun t ht=>?_)⟩
     rw [hx] at ht;cases ht
     exact h9)
    (smf_x4_2 (by omega))
   by_cases h4:∀t∈f.1,SmQ t.2
   ·rw [if_pos (fun i hi=>tv_t fun t ht=>h4 t (List.mem_of_getElem? ht))] at X
    rw [tv_t (p:=SmR f) ⟨by omega,h2,h3,h4⟩]
    exact smf_f5 (by omega) K2 rfl K4 rfl X
   ·rw [if_neg (fun h5=>h4 fun t ht=>by
     obtain ⟨i,hi⟩:=List.mem_iff_getElem?.1 ht
     exact tv_true (h5 i (List.getElem?_eq_some_iff.1 hi).1) t hi)] at X
    rw [tv_f (p:=SmR f) (fun h=>h4 h.2.2.2)]
    exact smf_f4 (by omega) K2 rfl K4 rfl X
  ·rw [tv_f h3] at K4
   rw [tv_f (p:=SmR f) (fun h=>h3 h.2.2.1)]
   exact smf_f3 (by omega) K2 rfl K4 rfl
 ·rw [tv_f h2] at K2
  rw [tv_f (p:=SmR f) (fun h=>h2 h.2.1)]
  exact smf_f2 (by omega) K2 rfl
theorem sms_c{L:List FormR}{z:Int}(hl:L.length≤1000000000)(hB:∀f∈L,RawF f):run (n+2) 43 [.sl 4 (L.map formRC),.lit (.int .i64 z)]=some (.lit (.bool (tv ((L.length:Int)≤z∧∀f∈L,SmR f)))):=by
 by_cases h1:z<(L.length:Int)
 ·rw [tv_f (fun h=>by have:=h.1;omega)]
  exact sms_f1 h1
 have X:=loopG_all (O:=tab (n+2)) (P:= Tryz.prog) (m:=0) (N:=22) (lives:=livesOf 43) (r:=4) (C:=sms_C4) (M:=L.length) (enc:=fun i=>sms_h4 L i) (p:=fun i=>tv (∀f,L[i]?=some f→SmR f)) (exN:=.exit 0) (exE:=.ret) (out:=sms_o4b) (outE:=sms_o4a) (by omega) (by simp) (by simp)
  (fun i hi _=>by
   have hx:L[i]?=some L[i]:=List.getElem?_eq_getElem hi
   obtain ⟨t,ht⟩:∃t,L[i]=t:=⟨_,rfl⟩
   rw [ht] at hx
   obtain ⟨F,r⟩:=t
   have K:=smf_c (n:=n) (hB _ (List.mem_of_getElem? hx))
   refine ⟨fun hp=>sms_r4_1 (by omega) hx K (tv_t (tv_true hp _ hx)) ⟨by omega,by omega⟩,fun hp=>sms_x4_1 (by omega) hx K (tv_f fun h9=>tv_false hp fun t ht=>?_)⟩
   rw [hx] at ht;cases ht
   exact h9)
  (sms_x4_2 (by omega))
 by_cases h4:∀f∈L,SmR f
 ·rw [if_pos (fun i hi=>tv_t fun t ht=>h4 t (List.mem_of_getElem? ht))] at X
  rw [tv_t ⟨by omega,h4⟩]
  exact sms_f3 h1 X
 ·rw [if_neg (fun h5=>h4 fun t ht=>by
   obtain ⟨i,hi⟩:=List.mem_iff_getElem?.1 ht
   exact tv_true (h5 i (List.getElem?_eq_some_iff.1 hi).1) t hi)] at X
  rw [tv_f (fun h=>h4 h.2)]
  exact sms_f2 h1 X
theorem few3_c{L:List FormR}(hl:L.length≤1000000000)(hB:∀f∈L,RawF f):run (n+3) 16 [.sl 4 (L.map formRC)]=some (.lit (.bool (tv ((L.length:Int)≤7∧∀f∈L,SmR f)))):=few3_f1 (sms_c hl hB)
end
structure Sm8 (f:Form):Prop where
 l:f.1.length≤8
 t:∀t∈f.1,H t.2≤2
 k:H f.2≤2
 ok:OkFm f 1048576
theorem Sm8.fb{f:Form}(h:Sm8 f):FB 2 f:=by
 obtain ⟨a,b⟩:=h.ok.srt
 exact ⟨a,⟨h.t,h.k⟩,by have:=h.l;omega,fun t ht=>⟨(b t ht).1,by have:=(b t ht).2;omega⟩⟩
theorem SmR.un{f:FormR}(h:SmR f):frV f=formV (unR f)∧Sm8 (unR f):=by
 obtain ⟨a1,a2,a3,a4,a5⟩:=small_formB (m:=2) (by omega) (fun t ht=>(h.2.2.2 t ht).1) h.2.1.1 h.2.2.1
 exact ⟨a1,by rw [a2];exact h.1,a3,a4,a5⟩
theorem SmR.cells{f:FormR}(h:SmR f):formRC f=formC (unR f):=by
 have:=h.un.1
 simp only [frV,formV,AV.agg.injEq] at this
 simp only [formRC,formC]
 exact this
theorem SmR.all{L:List FormR}(h:∀f∈L,SmR f):L.map formRC=(L.map unR).map formC∧∀f∈L.map unR,Sm8 f:=by
 refine ⟨?_,fun f hf=>?_⟩
 ·rw [List.map_map]
  exact List.map_congr_left fun f hf=>(h f hf).cells
 ·obtain ⟨g,hg,rfl⟩:=List.mem_map.1 hf
  exact (h g hg).un.2
theorem SmQ.all{xs:List Raw}(h:∀r∈xs,SmQ r):xs.map rawC=(xs.map Raw.q).map ratC∧∀q∈xs.map Raw.q,H q≤2:=by
 refine ⟨?_,fun q hq=>?_⟩
 ·rw [List.map_map]
  refine List.map_congr_left fun r hr=>?_
  have e:=(h r hr).2.raw
  simp only [Function.comp,rawC,ratC]
  rw [←e]
 ·obtain ⟨r,hr,rfl⟩:=List.mem_map.1 hq
  exact (h r hr).2.H (h r hr).1
end
section
open Go.RowKit
end
section
open Go.RowKit
attribute [local irreducible] run runL loopG exec
theorem elim_fb{m:Nat}{v:Int}{R:List Form}(hR:RB m R)(h1:1≤m):∀f∈elimF v R,FB (8*m+2) f:=fun n hn=>by
 obtain ⟨e,he,rfl⟩:=norm_mem hn
 have key:FB (4*m+1) e:=by
  rcases List.mem_append.1 he with h2|h2
  ·exact (hR.r e (List.mem_filter.1 h2).1).1.mono (by omega)
  ·obtain ⟨f,h3,h4⟩:=List.mem_flatMap.1 h2
   obtain ⟨g,h5,rfl⟩:=List.mem_map.1 h4
   obtain ⟨a1,a2⟩:=hR.r f (List.mem_filter.1 h3).1
   obtain ⟨b1,b2⟩:=hR.r g (List.mem_filter.1 h5).1
   exact FB.comb a1 b1 a2 b2 h1
 exact (key.norm (by omega)).mono (by omega)
theorem few_rb{L:List FormR}(h:(L.length:Int)≤7∧∀f∈L,SmR f):RB 2 (L.map unR)∧(L.map unR).length≤7:=by
 have hs:=(SmR.all h.2).2
 have hl:(L.map unR).length≤7:=by rw [List.length_map];omega
 exact ⟨⟨fun f hf=>⟨(hs f hf).fb,by have:=(hs f hf).l;omega⟩,by omega⟩,hl⟩
end
section
open Go.RowKit
noncomputable def fpr_C2:Code:=(loopsOf (bodyOf Tryz.f58)).getD 0 .skip
noncomputable def fpr_C11:Code:=(loopsOf (bodyOf Tryz.f58)).getD 1 .skip
def fpr_h2(a1:Int)(l_2:List Form)(i_2:Nat):St:=
 ⟨[(0,.sl 4 (l_2.map formC)),(11,.lit (.int .i64 a1)),(12,.lit (.int .i64 (i_2:Int)))],
  [],0⟩
def fpr_h11(l_2:List Form)(i_11:Nat)(out_11:List Form)(mp_11:List (ByteArray × Value)):St:=
 ⟨[(8,.ptr 0 0),(28,.sl 4 (l_2.map formC)),(29,.lit (.int .i64 (l_2.length:Int))),(30,.lit (.int .i64 (i_11:Int)))],
  [(0,some (.box 78 [.own 1 out_11.length,.mp 2] false)),
   (1,some (.row 28 4 (out_11.map formC) 0)),
   (2,some (.mp mp_11))],3⟩
def fpr_o2b(l_2:List Form):St:=
 ⟨[(0,.sl 4 (l_2.map formC)),(4,.any),(5,.any)],
  [],0⟩
def fpr_o11a(out_11:List Form)(mp_11:List (ByteArray × Value)):St:=
 ⟨[(8,.ptr 0 0)],
  [(0,some (.box 78 [.own 1 out_11.length,.mp 2] false)),
   (1,some (.row 28 4 (out_11.map formC) 0)),
   (2,some (.mp mp_11))],3⟩
section
variable{r5:List Form}{a1:Int}{i_2:Nat}{l_2:List Form}{r6:Int}{n:Nat}{out_11:List Form}{F3:List (Int × Rat)}{q3:Rat}{mp_11:List (ByteArray × Value)}{i_11:Nat}{mR3:List (ByteArray × Value)}{R3:List Form}{a0:List Form}
theorem fpr_r2_1(C1:(i_2:Int)<a1)(K2:run (n+9) 17 [.sl 4 (l_2.map formC),.lit (.int .i64 (i_2:Int))]=some (.tup [.sl 4 (r5.map formC),.lit (.int .i64 r6)]))(C3:r6=0)(W4:InI ((i_2:Int)+1)):
  Cont 0 (exec Tryz.prog (tab (n+10)) 0 42 (livesOf 58) big fpr_C2) (livesOf 58 2) (fpr_h2 a1 l_2 i_2) (fpr_h2 a1 r5 (i_2+1)):=by
 have C3_n:(r6 !=0)=false:=by rw [C3];simp
 have W4_:IntKind.i64.wrap ((i_2:Int)+1)=(i_2:Int)+1:=wr64 W4.1 W4.2
 unfold Cont
 simp+decide [fpr_h2,loopsOf, Tryz.f58,fpr_C2,C1,K2,C3_n,W4_]
theorem fpr_x2_2(C1:¬(i_2:Int)<a1):
  Leave 0 (exec Tryz.prog (tab (n+10)) 0 42 (livesOf 58) big fpr_C2) (livesOf 58 (outOf 2)) (fpr_h2 a1 l_2 i_2) (.exit 0) (fpr_o2b l_2):=by
 unfold Leave
 simp+decide [fpr_h2,loopsOf, Tryz.f58,fpr_o2b,fpr_C2,C1]
theorem fpr_r11_1(C1:(i_11:Int)<(l_2.length:Int))(E2:l_2[i_11]?=some (F3,q3))(K3:runL (n+9) 46 [.ptr 0 0,formV (F3,q3)] [.box 78 [.own 1 out_11.length,.mp 2] false,.row 28 4 (out_11.map formC) 0,.mp mp_11]=some (.tup [],[(0,.box 78 [.own 1 out_11.length,.mp 2] false),(1,.row 28 4 (out_11.map formC) 0),(2,.mp mp_11)]))(W4:InI ((i_11:Int)+1)):
  Cont 0 (exec Tryz.prog (tab (n+10)) 0 42 (livesOf 58) big fpr_C11) (livesOf 58 11) (fpr_h11 l_2 i_11 out_11 mp_11) (fpr_h11 l_2 (i_11+1) out_11 mp_11):=by
 have C1_:i_11<l_2.length:=by omega
 obtain ⟨EL2,EG2⟩:=List.getElem?_eq_some_iff.1 E2
 simp only [formV] at K3
 have W4_:IntKind.i64.wrap ((i_11:Int)+1)=(i_11:Int)+1:=wr64 W4.1 W4.2
 unfold Cont
 simp+decide [fpr_h11,loopsOf, Tryz.f58,fpr_C11,C1,C1_,EG2,K3,W4_]
theorem fpr_r11_2(C1:(i_11:Int)<(l_2.length:Int))(E2:l_2[i_11]?=some (F3,q3))(K3:runL (n+9) 46 [.ptr 0 0,formV (F3,q3)] [.box 78 [.own 1 out_11.length,.mp 2] false,.row 28 4 (out_11.map formC) 0,.mp mp_11]=some (.tup [],[(0,.box 78 [.own 6 R3.length,.mp 2] false),(2,.mp mR3),(6,.row 28 4 (R3.map formC) 0)]))(W4:InI ((i_11:Int)+1)):
  Cont 0 (exec Tryz.prog (tab (n+10)) 0 42 (livesOf 58) big fpr_C11) (livesOf 58 11) (fpr_h11 l_2 i_11 out_11 mp_11) (fpr_h11 l_2 (i_11+1) R3 mR3):=by
 have C1_:i_11<l_2.length:=by omega
 obtain ⟨EL2,EG2⟩:=List.getElem?_eq_some_iff.1 E2
 simp only [formV] at K3
 have W4_:IntKind.i64.wrap ((i_11:Int)+1)=(i_11:Int)+1:=wr64 W4.1 W4.2
 unfold Cont
 simp+decide [fpr_h11,loopsOf, Tryz.f58,fpr_C11,C1,C1_,EG2,K3,W4_]
theorem fpr_x11_1(C1:¬(i_11:Int)<(l_2.length:Int)):
  Leave 0 (exec Tryz.prog (tab (n+10)) 0 42 (livesOf 58) big fpr_C11) (livesOf 58 (outOf 11)) (fpr_h11 l_2 i_11 out_11 mp_11) (.exit 2) (fpr_o11a out_11 mp_11):=by
 unfold Leave
 simp+decide [fpr_h11,loopsOf, Tryz.f58,fpr_o11a,fpr_C11,C1]
theorem fpr_f2(L1:loopG Tryz.prog (tab (n+10)) 0 42 (livesOf 58) 2 fpr_C2 (fpr_h2 a1 a0 0)=some (.exit 0,fpr_o2b l_2))(L2:loopG Tryz.prog (tab (n+10)) 0 42 (livesOf 58) 11 fpr_C11 (fpr_h11 l_2 0 [] [])=some (.exit 2,fpr_o11a out_11 mp_11)):
  run (n+10) 58 [.sl 4 (a0.map formC),.lit (.int .i64 a1)]=some (.tup [.sl 4 (out_11.map formC),.lit (.int .i64 0)]):=by
 unfold run fnP
 simp+decide [Tryz.f58]
 rw [loopX_G (C':=fpr_C2) (e:=(fpr_h2 a1 a0 0)) ?_ ?_,L1]
 rotate_left
 ·kernel_rfl
 ·simp+decide [fpr_h2]
 simp+decide [fpr_o2b]
 rw [loopX_G (C':=fpr_C11) (e:=(fpr_h11 l_2 0 [] [])) ?_ ?_,L2]
 rotate_left
 ·kernel_rfl
 ·simp+decide [fpr_h11]
 simp+decide [fpr_o11a]
end
section
variable {a0 : List Form} {n : Nat} {a1 : Int} {r : Bool} {r3 : Int} {r2 : List Form}
theorem ffe_f1(C1:a1<0):
  run (n+11) 27 [.sl 4 (a0.map formC),.lit (.int .i64 a1)]=some (.tup [.lit (.bool false),.lit (.int .i64 1)]):=by
 unfold run fnP
 simp+decide [Tryz.f27,C1]
section
variable(C1:¬a1<0)(K2:run (n+10) 44 [.sl 4 (a0.map formC),.lit (.int .i64 a1)]=some (.lit (.bool r)))
include C1 K2
theorem ffe_f2(C3:r=false):
  run (n+11) 27 [.sl 4 (a0.map formC),.lit (.int .i64 a1)]=some (.tup [.lit (.bool false),.lit (.int .i64 1)]):=by
 unfold run fnP
 simp+decide [Tryz.f27,C1,K2,C3]
theorem ffe_f3(C3:r=true)(K4:run (n+10) 58 [.sl 4 (a0.map formC),.lit (.int .i64 a1)]=some (.tup [.sl 4 (r2.map formC),.lit (.int .i64 r3)]))(C5:r3=0):
  run (n+11) 27 [.sl 4 (a0.map formC),.lit (.int .i64 a1)]=some (.tup [.lit (.bool (((r2.length:Int)==0))),.lit (.int .i64 r3)]):=by
 have C5_:(r3==0)=true:=by rw [C5];simp
 unfold run fnP
 simp+decide [Tryz.f27,C1,K2,C3,K4,C5_]
end
end
end
section
open Go.RowKit
noncomputable def rre_C3:Code:=(loopsOf (bodyOf Tryz.f60)).getD 0 .skip
noncomputable def rre_C7:Code:=(loopsOf (bodyOf Tryz.f60)).getD 1 .skip
def rre_h3(a0:List Form)(a1:Int)(out_3:List Form)(i_3:Nat):St:=
 ⟨[(0,.sl 4 (a0.map formC)),(1,.lit (.int .i64 a1)),(6,.own 0 out_3.length),(7,.lit (.int .i64 (i_3:Int)))],
  [(0,some (.row 28 4 (out_3.map formC) 0))],1⟩
def rre_h7(a1:Int)(out_3:List Form):St:=
 ⟨[(1,.lit (.int .i64 a1)),(6,.own 0 out_3.length),(8,.lit (.int .i64 0))],
  [(0,some (.row 28 4 (out_3.map formC) 0))],1⟩
def rre_h7b(a1:Int)(l_7b:List Form)(i_7b:Nat):St:=
 ⟨[(1,.lit (.int .i64 a1)),(6,.sl 4 (l_7b.map formC)),(8,.lit (.int .i64 (i_7b:Int)))],
  [],0⟩
def rre_o3a(a1:Int)(out_3:List Form):St:=
 ⟨[(1,.lit (.int .i64 a1)),(6,.own 0 out_3.length)],
  [(0,some (.row 28 4 (out_3.map formC) 0))],1⟩
def rre_o7b(out_3:List Form):St:=
 ⟨[(4,.any),(5,.any),(6,.own 0 out_3.length)],
  [(0,some (.row 28 4 (out_3.map formC) 0))],1⟩
def rre_o7d(l_7b:List Form):St:=
 ⟨[(4,.any),(5,.any),(6,.sl 4 (l_7b.map formC))],
  [],0⟩
section
variable{a0:List Form}{i_3:Nat}{a1:Int}{out_3:List Form}{q3:Rat}{F3:List (Int × Rat)}{n:Nat}{R3:List Form}{r11:List Form}{r12:Int}
theorem rre_r3_1(C1:(i_3:Int)<(a0.length:Int))(E2:a0[i_3]?=some (F3,q3))(K3:runL (n+9) 49 [.own 0 out_3.length,formV (F3,q3)] [.row 28 4 (out_3.map formC) 0]=some (.own 0 out_3.length,[(0,.row 28 4 (out_3.map formC) 0)]))(W4:InI ((i_3:Int)+1)):
  Cont 0 (exec Tryz.prog (tab (n+10)) 0 37 (livesOf 60) big rre_C3) (livesOf 60 3) (rre_h3 a0 a1 out_3 i_3) (rre_h3 a0 a1 out_3 (i_3+1)):=by
 have C1_:i_3<a0.length:=by omega
 obtain ⟨EL2,EG2⟩:=List.getElem?_eq_some_iff.1 E2
 simp only [formV] at K3
 have W4_:IntKind.i64.wrap ((i_3:Int)+1)=(i_3:Int)+1:=wr64 W4.1 W4.2
 unfold Cont
 simp+decide [rre_h3,loopsOf, Tryz.f60,rre_C3,C1,C1_,EG2,K3,W4_]
theorem rre_r3_2(C1:(i_3:Int)<(a0.length:Int))(E2:a0[i_3]?=some (F3,q3))(K3:runL (n+9) 49 [.own 0 out_3.length,formV (F3,q3)] [.row 28 4 (out_3.map formC) 0]=some (.own 3 R3.length,[(3,.row 28 4 (R3.map formC) 0)]))(W4:InI ((i_3:Int)+1)):
  Cont 0 (exec Tryz.prog (tab (n+10)) 0 37 (livesOf 60) big rre_C3) (livesOf 60 3) (rre_h3 a0 a1 out_3 i_3) (rre_h3 a0 a1 R3 (i_3+1)):=by
 have C1_:i_3<a0.length:=by omega
 obtain ⟨EL2,EG2⟩:=List.getElem?_eq_some_iff.1 E2
 simp only [formV] at K3
 have W4_:IntKind.i64.wrap ((i_3:Int)+1)=(i_3:Int)+1:=wr64 W4.1 W4.2
 unfold Cont
 simp+decide [rre_h3,loopsOf, Tryz.f60,rre_C3,C1,C1_,EG2,K3,W4_]
theorem rre_x3_1(C1:¬(i_3:Int)<(a0.length:Int)):
  Leave 0 (exec Tryz.prog (tab (n+10)) 0 37 (livesOf 60) big rre_C3) (livesOf 60 (outOf 3)) (rre_h3 a0 a1 out_3 i_3) (.exit 0) (rre_o3a a1 out_3):=by
 unfold Leave
 simp+decide [rre_h3,loopsOf, Tryz.f60,rre_o3a,rre_C3,C1]
theorem rre_r7_1(C1:0<a1)(K2:run (n+9) 18 [.sl 4 (out_3.map formC),.lit (.int .i64 0)]=some (.tup [.sl 4 (r11.map formC),.lit (.int .i64 r12)]))(C3:r12=0):
  Cont 0 (exec Tryz.prog (tab (n+10)) 0 37 (livesOf 60) big rre_C7) (livesOf 60 7) (rre_h7 a1 out_3) (rre_h7b a1 r11 1):=by
 have C3_n:(r12 !=0)=false:=by rw [C3];simp
 unfold Cont
 simp+decide [rre_h7,loopsOf, Tryz.f60,rre_C7,rre_h7b,C1,K2,C3_n]
theorem rre_x7_2(C1:¬0<a1):
  Leave 0 (exec Tryz.prog (tab (n+10)) 0 37 (livesOf 60) big rre_C7) (livesOf 60 (outOf 7)) (rre_h7 a1 out_3) (.exit 2) (rre_o7b out_3):=by
 unfold Leave
 simp+decide [rre_h7,loopsOf, Tryz.f60,rre_o7b,rre_C7,C1]
end
theorem rre_r7b_1{n:Nat}{a1:Int}{i_7b:Nat}{l_7b:List Form}{r13:List Form}{r14:Int}(C1:(i_7b:Int)<a1)(K2:run (n+9) 18 [.sl 4 (l_7b.map formC),.lit (.int .i64 (i_7b:Int))]=some (.tup [.sl 4 (r13.map formC),.lit (.int .i64 r14)]))(C3:r14=0)(W4:InI ((i_7b:Int)+1)):
  Cont 0 (exec Tryz.prog (tab (n+10)) 0 37 (livesOf 60) big rre_C7) (livesOf 60 7) (rre_h7b a1 l_7b i_7b) (rre_h7b a1 r13 (i_7b+1)):=by
 have C3_n:(r14 !=0)=false:=by rw [C3];simp
 have W4_:IntKind.i64.wrap ((i_7b:Int)+1)=(i_7b:Int)+1:=wr64 W4.1 W4.2
 unfold Cont
 simp+decide [rre_h7b,loopsOf, Tryz.f60,rre_C7,C1,K2,C3_n,W4_]
theorem rre_x7b_2{n:Nat}{a1:Int}{i_7b:Nat}{l_7b:List Form}(C1:¬(i_7b:Int)<a1):
  Leave 0 (exec Tryz.prog (tab (n+10)) 0 37 (livesOf 60) big rre_C7) (livesOf 60 (outOf 7)) (rre_h7b a1 l_7b i_7b) (.exit 2) (rre_o7d l_7b):=by
 unfold Leave
 simp+decide [rre_h7b,loopsOf, Tryz.f60,rre_o7d,rre_C7,C1]
section
variable {out_3 : List Form} {a0 : List Form} {n : Nat} {a1 : Int} {l_7b : List Form}
section
variable(L1:loopG Tryz.prog (tab (n+10)) 0 37 (livesOf 60) 3 rre_C3 (rre_h3 a0 a1 [] 0)=some (.exit 0,rre_o3a a1 out_3))
include L1
theorem rre_f2(L2:loopG Tryz.prog (tab (n+10)) 0 37 (livesOf 60) 7 rre_C7 (rre_h7 a1 out_3)=some (.exit 2,rre_o7b out_3)):
  run (n+10) 60 [.sl 4 (a0.map formC),.lit (.int .i64 a1)]=some (.tup [.sl 4 (out_3.map formC),.lit (.int .i64 0)]):=by
 unfold run fnP
 simp+decide [Tryz.f60]
 rw [loopX_G (C':=rre_C3) (e:=(rre_h3 a0 a1 [] 0)) ?_ ?_,L1]
 rotate_left
 ·kernel_rfl
 ·simp+decide [rre_h3]
 simp+decide [rre_o3a]
 rw [loopX_G (C':=rre_C7) (e:=(rre_h7 a1 out_3)) ?_ ?_,L2]
 rotate_left
 ·kernel_rfl
 ·simp+decide [rre_h7]
 simp+decide [rre_o7b]
theorem rre_f4(L2:loopG Tryz.prog (tab (n+10)) 0 37 (livesOf 60) 7 rre_C7 (rre_h7 a1 out_3)=some (.exit 2,rre_o7d l_7b)):
  run (n+10) 60 [.sl 4 (a0.map formC),.lit (.int .i64 a1)]=some (.tup [.sl 4 (l_7b.map formC),.lit (.int .i64 0)]):=by
 unfold run fnP
 simp+decide [Tryz.f60]
 rw [loopX_G (C':=rre_C3) (e:=(rre_h3 a0 a1 [] 0)) ?_ ?_,L1]
 rotate_left
 ·kernel_rfl
 ·simp+decide [rre_h3]
 simp+decide [rre_o3a]
 rw [loopX_G (C':=rre_C7) (e:=(rre_h7 a1 out_3)) ?_ ?_,L2]
 rotate_left
 ·kernel_rfl
 ·simp+decide [rre_h7]
 simp+decide [rre_o7d]
end
end
noncomputable def rva_C2:Code:=(loopsOf (bodyOf Tryz.f59)).getD 0 .skip
def rva_h2(a0:List Form)(a1:Int)(i_2:Nat):St:=
 ⟨[(0,.sl 4 (a0.map formC)),(1,.lit (.int .i64 a1)),(5,.lit (.int .i64 (i_2:Int)))],
  [],0⟩
def rva_o2a(a1:Int):St:=
 ⟨[(1,.lit (.int .i64 a1)),(4,.lit (.bool false))],
  [],0⟩
def rva_o2b(a1:Int):St:=
 ⟨[(1,.lit (.int .i64 a1)),(4,.any)],
  [],0⟩
section
variable{a0:List Form}{a1:Int}{i_2:Nat}{r3:Bool}{q3:Rat}{F3:List (Int × Rat)}{n:Nat}
section
variable(C1:(i_2:Int)<(a0.length:Int))(E2:a0[i_2]?=some (F3,q3))(K3:run n 21 [formV (F3,q3),.lit (.int .i64 a1)]=some (.lit (.bool r3)))
include C1 E2 K3
theorem rva_r2_1(C4:r3=true)(W5:InI ((i_2:Int)+1)):
  Cont 0 (exec Tryz.prog (tab (n+1)) 0 21 (livesOf 59) big rva_C2) (livesOf 59 2) (rva_h2 a0 a1 i_2) (rva_h2 a0 a1 (i_2+1)):=by
 have C1_:i_2<a0.length:=by omega
 obtain ⟨EL2,EG2⟩:=List.getElem?_eq_some_iff.1 E2
 simp only [formV] at K3
 have W5_:IntKind.i64.wrap ((i_2:Int)+1)=(i_2:Int)+1:=wr64 W5.1 W5.2
 unfold Cont
 simp+decide [rva_h2,loopsOf, Tryz.f59,rva_C2,C1,C1_,EG2,K3,C4,W5_]
theorem rva_x2_1(C4:r3=false):
  Leave 0 (exec Tryz.prog (tab (n+1)) 0 21 (livesOf 59) big rva_C2) (livesOf 59 (outOf 2)) (rva_h2 a0 a1 i_2) (.ret) (rva_o2a a1):=by
 have C1_:i_2<a0.length:=by omega
 obtain ⟨EL2,EG2⟩:=List.getElem?_eq_some_iff.1 E2
 simp only [formV] at K3
 unfold Leave
 simp+decide [rva_h2,loopsOf, Tryz.f59,rva_o2a,rva_C2,C1,C1_,EG2,K3,C4]
end
theorem rva_x2_2(C1:¬(i_2:Int)<(a0.length:Int)):
  Leave 0 (exec Tryz.prog (tab (n+1)) 0 21 (livesOf 59) big rva_C2) (livesOf 59 (outOf 2)) (rva_h2 a0 a1 i_2) (.exit 0) (rva_o2b a1):=by
 unfold Leave
 simp+decide [rva_h2,loopsOf, Tryz.f59,rva_o2b,rva_C2,C1]
theorem rva_f1(L1:loopG Tryz.prog (tab (n+1)) 0 21 (livesOf 59) 2 rva_C2 (rva_h2 a0 a1 0)=some (.ret,rva_o2a a1)):
  run (n+1) 59 [.sl 4 (a0.map formC),.lit (.int .i64 a1)]=some (.lit (.bool false)):=by
 unfold run fnP
 simp+decide [Tryz.f59]
 rw [loopX_G (C':=rva_C2) (e:=(rva_h2 a0 a1 0)) ?_ ?_,L1]
 rotate_left
 ·kernel_rfl
 ·simp+decide [rva_h2]
 simp+decide [rva_o2a]
theorem rva_f2(L1:loopG Tryz.prog (tab (n+1)) 0 21 (livesOf 59) 2 rva_C2 (rva_h2 a0 a1 0)=some (.exit 0,rva_o2b a1)):
  run (n+1) 59 [.sl 4 (a0.map formC),.lit (.int .i64 a1)]=some (.lit (.bool (decide (0≤a1)))):=by
 unfold run fnP
 simp+decide [Tryz.f59]
 rw [loopX_G (C':=rva_C2) (e:=(rva_h2 a0 a1 0)) ?_ ?_,L1]
 rotate_left
 ·kernel_rfl
 ·simp+decide [rva_h2]
 simp+decide [rva_o2b]
end
section
variable {a0 : List Form} {r : Bool} {n : Nat} {a1 : Int} {r3 : Int} {r2 : List Form}
section
variable(K1:run (n+10) 59 [.sl 4 (a0.map formC),.lit (.int .i64 a1)]=some (.lit (.bool r)))
include K1
theorem rfe_f1(C2:r=false):
  run (n+11) 28 [.sl 4 (a0.map formC),.lit (.int .i64 a1)]=some (.tup [.lit (.bool false),.lit (.int .i64 1)]):=by
 unfold run fnP
 simp+decide [Tryz.f28,K1,C2]
theorem rfe_f2(C2:r=true)(K3:run (n+10) 60 [.sl 4 (a0.map formC),.lit (.int .i64 a1)]=some (.tup [.sl 4 (r2.map formC),.lit (.int .i64 r3)]))(C4:r3=0):
  run (n+11) 28 [.sl 4 (a0.map formC),.lit (.int .i64 a1)]=some (.tup [.lit (.bool (((r2.length:Int)==0))),.lit (.int .i64 r3)]):=by
 have C4_:(r3==0)=true:=by rw [C4];simp
 unfold run fnP
 simp+decide [Tryz.f28,K1,C2,K3,C4_]
end
end
end
end Go.Proofs.YtdaonnnlgfhlaaaGreatDoor
