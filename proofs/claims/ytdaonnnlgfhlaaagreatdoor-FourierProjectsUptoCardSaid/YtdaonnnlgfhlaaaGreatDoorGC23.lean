import Derived.Test.YtdaonnnlgfhlaaaGreatDoorGC21
import Derived.Test.YtdaonnnlgfhlaaaGreatDoorGC22
import Derived.Test.YtdaonnnlgfhlaaaGreatDoorGC18
import Derived.Test.YtdaonnnlgfhlaaaGreatDoorGC13
import Derived.Test.YtdaonnnlgfhlaaaGreatDoorGC16
set_option linter.all false
set_option maxHeartbeats 6400000
set_option maxRecDepth 100000
namespace Go.Proofs.YtdaonnnlgfhlaaaGreatDoor
section
open Go.RowKit
attribute [local irreducible] run runL loopG exec
theorem foldI_fold{α β:Type}(g:β→α→β):∀(L:List α) (i:Nat) (b:β),foldI (fun _ b x=>g b x) i b L=L.foldl g b
 | [],_,_=>rfl
 | x::L,i,b=>by rw [foldI,foldI_fold g L];rfl
theorem srt_ok{f:Form}{vars:Int}(hs:Srt f.1)(hv:∀t∈f.1,0≤t.1∧t.1<vars):OkFm f vars:=fun i hi v c hx=>by
 obtain ⟨hlt,he⟩:=List.getElem?_eq_some_iff.1 hx
 have hm:=List.mem_of_getElem? hx
 refine ⟨(hv _ hm).1,(hv _ hm).2,hs.2 _ hm,fun v' c' h0 hy=>?_⟩
 obtain ⟨hlt2,he2⟩:=List.getElem?_eq_some_iff.1 hy
 have:=(List.pairwise_iff_getElem.1 hs.1) (i-1) i hlt2 hlt (by omega)
 rw [he,he2] at this
 exact this
theorem FB.ok{m:Nat}{f:Form}(h:FB m f){vars:Int}(hv:1099511627776≤vars):OkFm f vars:=srt_ok h.s fun t ht=>⟨(h.v t ht).1,by have:=(h.v t ht).2;omega⟩
theorem scl_len(F:List (Int × Rat))(c:Rat):(sclV F c).length≤F.length:=by
 induction F with
 | nil=>exact Nat.le_refl _
 | cons t F ih=>
   have e:sclV (t::F) c=put1 t.1 (t.2*c)++sclV F c:=rfl
   have h1:(put1 t.1 (t.2*c)).length≤1:=by unfold put1;split <;>simp
   rw [e,List.length_append,List.length_cons]
   omega
theorem FB.inr{m:Nat}{f:Form}(h:FB m f):InR 1099511627776 f.1:=fun t ht=>⟨(h.v t ht).1,by have:=(h.v t ht).2;omega⟩
theorem FB.scl{m k:Nat}{f:Form}{c:Rat}(h:FB m f)(hc:H c≤k):FB (m+k) (sclV f.1 c,f.2*c):=by
 refine ⟨(scl_srt h.s).1,⟨FH.scl h.h.1 hc,?_⟩,Nat.le_trans (scl_len _ _) h.l,fun t ht=>?_⟩
 ·have a:=H_mul f.2 c
  have b:=h.h.2
  show H (f.2*c)≤_
  omega
 ·have:=InR.scl (c:=c) h.inr t ht
  exact ⟨this.1,by have:=this.2;omega⟩
structure RB (m:Nat) (R:List Form):Prop where
 r:∀f∈R,FB m f∧f.1.length≤50
 n:R.length≤2500
theorem FB.comb{m:Nat}{v:Int}{f g:Form}(hf:FB m f)(hg:FB m g)(lf:f.1.length≤50)(lg:g.1.length≤50)(h1:1≤m):FB (4*m+1) (combF v f g):=by
 refine ⟨(comb_srt hf.s hg.s).1,FH.comb hf.s hg.s hf.h hg.h h1,?_,fun t ht=>?_⟩
 ·have a:=addV_len (sclV g.1 (cof f.1 v)) (sclV f.1 (-cof g.1 v))
  have b:=scl_len g.1 (cof f.1 v)
  have c:=scl_len f.1 (-cof g.1 v)
  show (addV (sclV f.1 (-cof g.1 v)) (sclV g.1 (cof f.1 v))).length≤100
  omega
 ·have:=InR.add (InR.scl (c:=-cof g.1 v) hf.inr) (InR.scl (c:=cof f.1 v) hg.inr) t ht
  exact ⟨this.1,by have:=this.2;omega⟩
def Bds(L:List Form):Prop:=∀g∈L,BdF 17179869184 g
theorem Bds.nil:Bds []:=fun g hg=>by cases hg
theorem Bds.col{m:Nat}{L:List Form}{f:Form}(hL:Bds L)(h:FB m f)(h1:1≤m)(hm:m≤5000):Bds (colF L f):=fun g hg=>by
 unfold colF at hg
 split at hg
 ·exact hL g hg
 split at hg
 ·exact hL g hg
 ·rcases List.mem_append.1 hg with h2|h2
  ·exact hL g h2
  ·rw [List.mem_singleton.1 h2]
   exact (h.norm h1).bd (by omega)
def stE(v:Int)(b:List Form × List Form × List Form)(f:Form):List Form × List Form × List Form:=
 if cof f.1 v=0 then (colF b.1 f,b.2.1,b.2.2) else if 0<cof f.1 v then (b.1,b.2.1++[f],b.2.2) else (b.1,b.2.1,b.2.2++[f])
theorem stE_fold(v:Int):∀(R:List Form) (o u d:List Form),R.foldl (stE v) (o,u,d)=((zeroL v R).foldl colF o,u++upL v R,d++downL v R)
 | [],o,u,d=>by simp [zeroL,upL,downL]
 | f::R,o,u,d=>by
   rw [List.foldl_cons]
   by_cases h0:cof f.1 v=0
   ·have e:stE v (o,u,d) f=(colF o f,u,d):=if_pos h0
    rw [e,stE_fold v R,zeroL_pos h0,upL_neg (by rw [h0];decide),downL_neg (by rw [h0];decide)];rfl
   ·rw [zeroL_neg h0]
    by_cases h1:0<cof f.1 v
    ·have e:stE v (o,u,d) f=(o,u++[f],d):=by unfold stE;rw [if_neg h0,if_pos h1]
     rw [e,stE_fold v R,upL_pos h1,downL_neg (by grind)];simp
    ·have e:stE v (o,u,d) f=(o,u,d++[f]):=by unfold stE;rw [if_neg h0,if_neg h1]
     rw [e,stE_fold v R,upL_neg h1,downL_pos (by grind)];simp
theorem elim_fold(v:Int)(R:List Form):(upL v R).foldl (fun b f=>(downL v R).foldl (fun b g=>colF b (combF v f g)) b) ((zeroL v R).foldl colF [])=elimF v R:=by
 unfold elimF allL
 rw [List.foldl_append]
 generalize (zeroL v R).foldl colF []=b
 generalize upL v R=U
 induction U generalizing b with
 | nil=>rfl
 | cons f U ih=>rw [List.foldl_cons,List.flatMap_cons,List.foldl_append,ih,List.foldl_map]
section
variable {n m : Nat} {R : List Form} {v : Int}
theorem fcan_c{vars:Int}(hB:Bds R)(hl:R.length≤100000):run (n+1) 44 [.sl 4 (R.map formC),.lit (.int .i64 vars)]=some (.lit (.bool (tv (∀f∈R,OkFm f vars)))):=by
 have X:=loopG_all (O:=tab (n+1)) (P:= Tryz.prog) (m:=0) (N:=18) (lives:=livesOf 44) (r:=2) (C:=fca_C2) (M:=R.length) (enc:=fun i=>fca_h2 R vars i) (p:=fun i=>tv (∀f,R[i]?=some f→OkFm f vars)) (exN:=.exit 0) (exE:=.ret) (out:=fca_o2b) (outE:=fca_o2a) (by omega) (by simp) (by simp)
  (fun i hi _=>by
   have hx:R[i]?=some R[i]:=List.getElem?_eq_getElem hi
   obtain ⟨g,hg⟩:∃g,R[i]=g:=⟨_,rfl⟩
   rw [hg] at hx
   obtain ⟨G,q⟩:=g
   have K:=lvalid_c (n:=n) (vars:=vars) (hB _ (List.mem_of_getElem? hx))
   refine ⟨fun hp=>fca_r2_1 (by omega) hx K (tv_t (tv_true hp _ hx)) ⟨by omega,by omega⟩,fun hp=>fca_x2_1 (by omega) hx K (tv_f fun h9=>tv_false hp fun f hf=>?_)⟩
   rw [hx] at hf;cases hf
   exact h9)
  (fca_x2_2 (by omega))
 by_cases h:∀f∈R,OkFm f vars
 ·rw [if_pos (fun i hi=>tv_t fun f hf=>h f (List.mem_of_getElem? hf))] at X
  rw [tv_t h]
  exact fca_f2 X
 ·rw [if_neg (fun h2=>h fun f hf=>by
   obtain ⟨i,hi⟩:=List.mem_iff_getElem?.1 hf
   exact tv_true (h2 i (List.getElem?_eq_some_iff.1 hi).1) f hi)] at X
  rw [tv_f h]
  exact fca_f1 X
theorem part_mem(hR:RB m R):(∀f∈upL v R,FB m f∧f.1.length≤50)∧(∀f∈downL v R,FB m f∧f.1.length≤50)∧(upL v R).length≤2500∧(downL v R).length≤2500:=by
 have:=part_len v R
 have:=hR.n
 exact ⟨fun f hf=>hR.r f (List.mem_filter.1 hf).1,fun f hf=>hR.r f (List.mem_filter.1 hf).1,by omega,by omega⟩
theorem pair_p{f g:Form}(hf:FB m f)(hg:FB m g)(lf:f.1.length≤50)(lg:g.1.length≤50)(h1:1≤m)(hm:m≤1200):
  ∃r s:Form,run (n+8) 37 [formV f,ratV (-cof g.1 v)]=some (formV r)∧run (n+8) 37 [formV g,ratV (cof f.1 v)]=some (formV s)∧run (n+8) 48 [formV r,formV s]=some (formV (combF v f g)):=by
 have c1:H (-cof g.1 v)≤m:=by rw [H_neg];exact cofH h1 hg.h.1
 have c2:H (cof f.1 v)≤m:=cofH h1 hf.h.1
 have r1:=hf.scl c1
 have r2:=hg.scl c2
 have K1:=pscl_c (n:=n+6) (f:=f) (c:=-cof g.1 v) (b:=m) hf.h.1 (by omega) (by have:=hf.h.2;omega) (by omega) (by omega)
 have K2:=pscl_c (n:=n+6) (f:=g) (c:=cof f.1 v) (b:=m) hg.h.1 (by omega) (by have:=hg.h.2;omega) (by omega) (by omega)
 rw [merge_scl] at K1 K2
 have K3:=padd_c (n:=n+6) (b:=m+m) r1.h.1 r2.h.1 (by omega) (by have:=r1.h.2;omega) (by have:=r2.h.2;omega) (by have:=r1.l;omega) (by have:=r2.l;omega)
 rw [merge_add r1.s r2.s,scl_one r2.s] at K3
 exact ⟨_,_,K1,K2,K3⟩
theorem inner_p{up down o:List Form}{f:Form}{i0:Nat}(hf:FB m f∧f.1.length≤50)(hd:∀g∈down,FB m g∧g.1.length≤50)(hdl:down.length≤2500)(h1:1≤m)(hm:m≤1200)(ho:Vpos o)(hol:o.length≤7000000):
  loopG Tryz.prog (tab (n+9)) 0 93 (livesOf 17) 20 fel_C20 (fel_h20 v down up i0 0 o (seenM o) f.1 f.2 (cof f.1 v))=some (.exit 5,fel_o20a v down up i0 (down.foldl (fun b g=>colF b (combF v f g)) o) (seenM (down.foldl (fun b g=>colF b (combF v f g)) o)))∧(Vpos (down.foldl (fun b g=>colF b (combF v f g)) o)∧(down.foldl (fun b g=>colF b (combF v f g)) o).length≤o.length+down.length):=by
 have X:=loopG_I (O:=tab (n+9)) (P:= Tryz.prog) (m:=0) (N:=93) (lives:=livesOf 17) (r:=20) (C:=fel_C20) (exN:=.exit 5) (L:=down) (enc:=fun i b=>fel_h20 v down up i0 i b (seenM b) f.1 f.2 (cof f.1 v)) (f:=fun _ b (g:Form)=>colF b (combF v f g)) (Inv:=fun i b=>Vpos b∧b.length≤o.length+i) (out:=fun b=>fel_o20a v down up i0 b (seenM b)) o ⟨ho,by omega⟩ (by omega) (by simp)
  (fun i g b hi hI=>by
   obtain ⟨hI1,hI2⟩:=hI
   have hlt:=(List.getElem?_eq_some_iff.1 hi).1
   obtain ⟨hg,lg⟩:=hd g (List.mem_of_getElem? hi)
   obtain ⟨r,s,K1,K2,K3⟩:=pair_p (n:=n) (v:=v) hf.1 hg hf.2 lg h1 hm
   have hc:=FB.comb (v:=v) hf.1 hg hf.2 lg h1
   have Kc:=lco_c (n:=n+5) (v:=v) (hg.bd (k:=17179869184) (by omega))
   have hcH:H (cof g.1 v)≤17179869184:=Nat.le_trans (cofH h1 hg.h.1) (by omega)
   have hln:=col_len b (combF v f g)
   refine ⟨?_,hI1.col hc,by omega⟩
   rcases ladd_c (n:=n) hc (by omega) (by omega) hI1 (by omega) with ⟨e,K⟩|K
   ·rw [e]
    exact fel_r20_1 (by omega) hlt hi Kc hcH K1 K2 K3 K ⟨by omega,by omega⟩
   ·exact fel_r20_2 (by omega) hlt hi Kc hcH K1 K2 K3 K ⟨by omega,by omega⟩)
  (fun b hI=>fel_x20_1 (by omega))
 rw [foldI_fold] at X
 exact X
theorem outer_p{up down o:List Form}(hu:∀g∈up,FB m g∧g.1.length≤50)(hul:up.length≤2500)(hd:∀g∈down,FB m g∧g.1.length≤50)(hdl:down.length≤2500)(h1:1≤m)(hm:m≤1200)(ho:Vpos o)(hol:o.length≤2500):
  loopG Tryz.prog (tab (n+9)) 0 93 (livesOf 17) 16 fel_C16 (fel_h16 v down up 0 o (seenM o))=some (.exit 3,fel_o16a (up.foldl (fun b f=>down.foldl (fun b g=>colF b (combF v f g)) b) o) (seenM (up.foldl (fun b f=>down.foldl (fun b g=>colF b (combF v f g)) b) o))):=by
 have X:=loopG_I (O:=tab (n+9)) (P:= Tryz.prog) (m:=0) (N:=93) (lives:=livesOf 17) (r:=16) (C:=fel_C16) (exN:=.exit 3) (L:=up) (enc:=fun i b=>fel_h16 v down up i b (seenM b)) (f:=fun _ b (f:Form)=>down.foldl (fun b g=>colF b (combF v f g)) b) (Inv:=fun i b=>Vpos b∧b.length≤2500+i*2500) (out:=fun b=>fel_o16a b (seenM b)) o ⟨ho,by omega⟩ (by omega) (by simp)
  (fun i f b hi hI=>by
   obtain ⟨hI1,hI2⟩:=hI
   have hlt:=(List.getElem?_eq_some_iff.1 hi).1
   have hf:=hu f (List.mem_of_getElem? hi)
   have Kc:=lco_c (n:=n+5) (v:=v) (hf.1.bd (k:=17179869184) (by omega))
   obtain ⟨L5,a1,a2⟩:=inner_p (n:=n) (v:=v) (up:=up) (i0:=i) hf hd hdl h1 hm hI1 (by omega)
   exact ⟨fel_r16_1 (by omega) hlt hi Kc L5 ⟨by omega,by omega⟩,a1,by omega⟩)
  (fun b hI=>fel_x16_1 (by omega))
 rw [foldI_fold] at X
 exact X.1
theorem first_p(hR:RB m R)(h1:1≤m)(hm:m≤1200):
  loopG Tryz.prog (tab (n+9)) 0 93 (livesOf 17) 6 fel_C6 (fel_h6 R v [] [] 0 [] [])=some (.exit 0,fel_o6a v (upL v R) (downL v R) ((zeroL v R).foldl colF []) (seenM ((zeroL v R).foldl colF [])))∧Vpos ((zeroL v R).foldl colF [])∧((zeroL v R).foldl colF []).length≤2500:=by
 have hn:=hR.n
 have X:=loopG_I (O:=tab (n+9)) (P:= Tryz.prog) (m:=0) (N:=93) (lives:=livesOf 17) (r:=6) (C:=fel_C6) (exN:=.exit 0) (L:=R) (enc:=fun i (b:List Form × List Form × List Form)=>fel_h6 R v b.2.1 b.2.2 i b.1 (seenM b.1)) (f:=fun _ b f=>stE v b f) (Inv:=fun i b=>Vpos b.1∧b.1.length≤i∧b.2.1.length≤i∧b.2.2.length≤i) (out:=fun b=>fel_o6a v b.2.1 b.2.2 b.1 (seenM b.1)) ([],[],[]) ⟨Vpos.nil,by simp,by simp,by simp⟩ (by omega) (by simp)
  (fun i f b hi hI=>by
   obtain ⟨o,u,d⟩:=b
   obtain ⟨hI1,hI2,hI3,hI4⟩:=hI
   dsimp only at hI1 hI2 hI3 hI4
   have hlt:=(List.getElem?_eq_some_iff.1 hi).1
   obtain ⟨hf,lf⟩:=hR.r f (List.mem_of_getElem? hi)
   have Kc:=lco_c (n:=n+5) (v:=v) (hf.bd (k:=17179869184) (by omega))
   have hcH:H (cof f.1 v)≤17179869184:=Nat.le_trans (cofH h1 hf.h.1) (by omega)
   have hln:=col_len o f
   unfold stE
   dsimp only
   rcases sgR_three (cof f.1 v) with ⟨c1,c2⟩|⟨c1,c2⟩|⟨c1,c2⟩
   ·rw [if_neg (by grind),if_pos c1]
    exact ⟨fel_r6_3 (by omega) hi Kc hcH (by omega) c2 (by omega) ⟨by omega,by omega⟩,hI1,by dsimp only;omega,by simp;omega,by dsimp only;omega⟩
   ·rw [if_neg (by grind),if_neg (by grind)]
    exact ⟨fel_r6_4 (by omega) hi Kc hcH (by omega) (by omega) (by omega) ⟨by omega,by omega⟩,hI1,by dsimp only;omega,by dsimp only;omega,by simp;omega⟩
   ·rw [if_pos c1]
    refine ⟨?_,hI1.col hf,by dsimp only;omega,by dsimp only;omega,by dsimp only;omega⟩
    rcases ladd_c (n:=n) hf h1 (by omega) hI1 (by omega) with ⟨e,K⟩|K
    ·rw [e]
     exact fel_r6_1 (by omega) hi Kc hcH c2 K ⟨by omega,by omega⟩
    ·exact fel_r6_2 (by omega) hi Kc hcH c2 K ⟨by omega,by omega⟩)
  (fun b hI=>fel_x6_1 (by omega))
 rw [foldI_fold,stE_fold] at X
 obtain ⟨X1,X2,X3,_⟩:=X
 simp only [List.nil_append] at X1
 exact ⟨X1,X2,by dsimp only at X3;omega⟩
theorem RB.bds(hR:RB m R)(hm:m≤1200):Bds R:=fun f hf=>(hR.r f hf).1.bd (by omega)
theorem elim_c(hR:RB m R)(h1:1≤m)(hm:m≤1200)(hv:0≤v)(he:(elimF v R).length≤4096):
  run (n+9) 17 [.sl 4 (R.map formC),.lit (.int .i64 v)]=some (.tup [.sl 4 ((elimF v R).map formC),.lit (.int .i64 0)]):=by
 have K2:=fcan_c (n:=n+7) (vars:=4611686018427387904) (hR.bds hm) (by have:=hR.n;omega)
 obtain ⟨L4,a1,a2⟩:=first_p (n:=n) (v:=v) hR h1 hm
 obtain ⟨p1,p2,p3,p4⟩:=part_mem (v:=v) hR
 have L5:=outer_p (n:=n) (v:=v) p1 p3 p2 p4 h1 hm a1 a2
 rw [elim_fold] at L5
 exact fel_f4 (by omega) K2 (tv_t fun f hf=>(hR.r f hf).1.ok (by omega)) L4 L5 (by omega)
end
end
section
open Go.RowKit
attribute [local irreducible] run runL loopG exec
theorem elim_fb{m:Nat}{v:Int}{R:List Form}(hR:RB m R)(h1:1≤m):∀f∈elimF v R,FB (8*m+2) f:=fun n hn=>by
 obtain ⟨e,he,rfl⟩:=norm_mem hn
 have key:FB (4*m+1) e:=by
  rcases List.mem_append.1 he with h2|h2
  ·exact (hR.r e (List.mem_filter.1 h2).1).1.mono (by omega)
  ·obtain ⟨f,h3,h4⟩:=List.mem_flatMap.1 h2
   obtain ⟨g,h5,rfl⟩:=List.mem_map.1 h4
   obtain ⟨a1,a2⟩:=hR.r f (List.mem_filter.1 h3).1
   obtain ⟨b1,b2⟩:=hR.r g (List.mem_filter.1 h5).1
   exact FB.comb a1 b1 a2 b2 h1
 exact (key.norm (by omega)).mono (by omega)
theorem few_rb{L:List FormR}(h:(L.length:Int)≤7∧∀f∈L,SmR f):RB 2 (L.map unR)∧(L.map unR).length≤7:=by
 have hs:=(SmR.all h.2).2
 have hl:(L.map unR).length≤7:=by rw [List.length_map];omega
 exact ⟨⟨fun f hf=>⟨(hs f hf).fb,by have:=(hs f hf).l;omega⟩,by omega⟩,hl⟩
end
theorem Cont_m{m:Nat}{step:St→Option (Ex × St)}{live:List Nat}{s t:St}(h:(match step s with|some (.nrm,s')=>gc m live s'=some t|_=>False)):Cont m step live s t:=by
 revert h
 split
 ·next s' h=>exact fun h2=>⟨s',h,h2⟩
 ·exact False.elim
theorem Leave_m{m:Nat}{step:St→Option (Ex × St)}{live:List Nat}{s t:St}{ex:Ex}(h:(match step s with|some (e,s')=>e=ex∧gc m live s'=some t|none=>False)):Leave m step live s ex t:=by
 revert h
 split
 ·next e s' h=>exact fun h2=>⟨s',by rw [h,h2.1],h2.2⟩
 ·exact False.elim
section
open Go.RowKit
noncomputable def sat_C2:Code:=(loopsOf (bodyOf Tryz.f26)).getD 0 .skip
def sat_h2(a0:List Form)(a1:List Rat)(i_2:Nat):St:=
 ⟨[(0,.sl 4 (a0.map formC)),(1,.sl 3 (a1.map ratC)),(5,.lit (.int .i64 (i_2:Int)))],
  [],0⟩
def sat_o2a:St:=
 ⟨[(4,.lit (.bool false))],
  [],0⟩
def sat_o2b:St:=
 ⟨[(4,.any)],
  [],0⟩
section
variable{a0:List Form}{F3:List (Int × Rat)}{r5:Rat}{r6:Int}{a1:List Rat}{i_2:Nat}{n:Nat}{q3:Rat}
section
variable(C1:(i_2:Int)<(a0.length:Int))(E2:a0[i_2]?=some (F3,q3))(K3:run n 12 [formV (F3,q3),.sl 3 (a1.map ratC)]=some (.tup [ratV r5,.lit (.int .i64 r6)]))
include C1 E2 K3
theorem sat_r2_1(C4:r6=0)(B5a:H r5≤17179869184)(C6:¬sgR r5<0)(W7:InI ((i_2:Int)+1)):
  Cont 0 (exec Tryz.prog (tab (n+1)) 0 30 (livesOf 26) big sat_C2) (livesOf 26 2) (sat_h2 a0 a1 i_2) (sat_h2 a0 a1 (i_2+1)):=by
 have C1_:i_2<a0.length:=by omega
 obtain ⟨EL2,EG2⟩:=List.getElem?_eq_some_iff.1 E2
 simp only [ratV,formV] at K3
 have C4_:(r6==0)=true:=by rw [C4];simp
 have C4_n:(r6 !=0)=false:=by rw [C4];simp
 have K5:=r_sign (p:=r5) B5a
 have W7_:IntKind.i64.wrap ((i_2:Int)+1)=(i_2:Int)+1:=wr64 W7.1 W7.2
 apply Cont_m
 simp+decide [sat_h2,loopsOf, Tryz.f26,sat_C2,C1,C1_,EL2,EG2,E2,K3,C4_,C4_n,K5,C6,W7_]
theorem sat_x2_1(C4:¬r6=0):
  Leave 0 (exec Tryz.prog (tab (n+1)) 0 30 (livesOf 26) big sat_C2) (livesOf 26 (outOf 2)) (sat_h2 a0 a1 i_2) (.ret) (sat_o2a):=by
 have C1_:i_2<a0.length:=by omega
 obtain ⟨EL2,EG2⟩:=List.getElem?_eq_some_iff.1 E2
 simp only [ratV,formV] at K3
 have C4_:(r6==0)=false:=by simpa using C4
 have C4_n:(r6 !=0)=true:=by simpa using C4
 apply Leave_m
 simp+decide [sat_h2,loopsOf, Tryz.f26,sat_o2a,sat_C2,C1,C1_,EL2,EG2,E2,K3,C4_,C4_n]
theorem sat_x2_2(C4:r6=0)(B5a:H r5≤17179869184)(C6:sgR r5<0):
  Leave 0 (exec Tryz.prog (tab (n+1)) 0 30 (livesOf 26) big sat_C2) (livesOf 26 (outOf 2)) (sat_h2 a0 a1 i_2) (.ret) (sat_o2a):=by
 have C1_:i_2<a0.length:=by omega
 obtain ⟨EL2,EG2⟩:=List.getElem?_eq_some_iff.1 E2
 simp only [ratV,formV] at K3
 have C4_:(r6==0)=true:=by rw [C4];simp
 have C4_n:(r6 !=0)=false:=by rw [C4];simp
 have K5:=r_sign (p:=r5) B5a
 apply Leave_m
 simp+decide [sat_h2,loopsOf, Tryz.f26,sat_o2a,sat_C2,C1,C1_,EL2,EG2,E2,K3,C4_,C4_n,K5,C6]
end
theorem sat_x2_3(C1:¬(i_2:Int)<(a0.length:Int)):
  Leave 0 (exec Tryz.prog (tab (n+1)) 0 30 (livesOf 26) big sat_C2) (livesOf 26 (outOf 2)) (sat_h2 a0 a1 i_2) (.exit 0) (sat_o2b):=by
 have C1_:¬i_2<a0.length:=by omega
 apply Leave_m
 simp+decide [sat_h2,loopsOf, Tryz.f26,sat_o2b,sat_C2,C1,C1_]
theorem sat_f1(L1:loopG Tryz.prog (tab (n+1)) 0 30 (livesOf 26) 2 sat_C2 (sat_h2 a0 a1 0)=some (.ret,sat_o2a)):
  run (n+1) 26 [.sl 4 (a0.map formC),.sl 3 (a1.map ratC)]=some (.lit (.bool false)):=by
 unfold run fnP
 simp+decide [Tryz.f26]
 rw [loopX_G (C':=sat_C2) (e:=(sat_h2 a0 a1 0)) ?_ ?_,L1]
 rotate_left
 ·kernel_rfl
 ·simp+decide [sat_h2]
 simp+decide [sat_o2a]
theorem sat_f2(L1:loopG Tryz.prog (tab (n+1)) 0 30 (livesOf 26) 2 sat_C2 (sat_h2 a0 a1 0)=some (.exit 0,sat_o2b)):
  run (n+1) 26 [.sl 4 (a0.map formC),.sl 3 (a1.map ratC)]=some (.lit (.bool true)):=by
 unfold run fnP
 simp+decide [Tryz.f26]
 rw [loopX_G (C':=sat_C2) (e:=(sat_h2 a0 a1 0)) ?_ ?_,L1]
 rotate_left
 ·kernel_rfl
 ·simp+decide [sat_h2]
 simp+decide [sat_o2b]
end
noncomputable def lpRT(n:Nat):FuncId→Option Orc:=ext (tab (n+13)) 8 (.pure awG)
theorem lpRT_ok(n:Nat):OrcOk Tryz.prog (lpRT n):=(tab_ok (n+13)).extP (by kernel_rfl) con_awake
noncomputable def lpR(n:Nat)(args:List AV):Option AV:=fnP Tryz.prog (lpRT n) (livesOf 5) big (fnOf 5) args
theorem lpR_con{n:Nat}{args:List AV}{r:AV}(h:lpR n args=some r):Con Tryz.prog 5 args r:=
 con_of (lpRT_ok n) mixed (plain_fn (by kernel_rfl)) (body_some (by kernel_rfl) (plain_fn (by kernel_rfl))) h
section
variable(n:Nat)
include n
theorem lpR_aw:lpRT n 8=some (.pure awG):=by unfold lpRT ext;rw [if_pos rfl]
theorem lpR_l12:lpRT n 12=some (.pure (run (n+12) 12)):=by unfold lpRT ext;rw [if_neg (by decide)];exact tb_12 _
theorem lpR_l15:lpRT n 15=some (.pure fSign):=by unfold lpRT ext;rw [if_neg (by decide)];exact tab_num rfl _
theorem lpR_l16:lpRT n 16=some (.pure (run (n+12) 16)):=by unfold lpRT ext;rw [if_neg (by decide)];exact tb_16 _
theorem lpR_l17:lpRT n 17=some (.pure (run (n+12) 17)):=by unfold lpRT ext;rw [if_neg (by decide)];exact tb_17 _
theorem lpR_l20:lpRT n 20=some (.pure fOf):=by unfold lpRT ext;rw [if_neg (by decide)];exact tab_num rfl _
theorem lpR_l21:lpRT n 21=some (.pure (run (n+12) 21)):=by unfold lpRT ext;rw [if_neg (by decide)];exact tb_21 _
theorem lpR_l22:lpRT n 22=some (.pure (run (n+12) 22)):=by unfold lpRT ext;rw [if_neg (by decide)];exact tb_22 _
theorem lpR_l23:lpRT n 23=some (.pure (run (n+12) 23)):=by unfold lpRT ext;rw [if_neg (by decide)];exact tb_23 _
theorem lpR_l24:lpRT n 24=some (.pure fNeg):=by unfold lpRT ext;rw [if_neg (by decide)];exact tab_num rfl _
theorem lpR_l25:lpRT n 25=some (.pure fCmp):=by unfold lpRT ext;rw [if_neg (by decide)];exact tab_num rfl _
theorem lpR_l26:lpRT n 26=some (.pure (run (n+12) 26)):=by unfold lpRT ext;rw [if_neg (by decide)];exact tb_26 _
end
noncomputable def lpR_C8:Code:=(loopsOf (bodyOf Tryz.f5)).getD 0 .skip
noncomputable def lpR_C12:Code:=(loopsOf (bodyOf Tryz.f5)).getD 1 .skip
noncomputable def lpR_C23:Code:=(loopsOf (bodyOf Tryz.f5)).getD 2 .skip
def lpR_h8(a0:List FormR)(a1:Int)(a2_0:Int)(a2_1:Int)(a2_2:Int)(a2_3:Int):St:=
 ⟨[(0,.sl 4 (a0.map formRC)),(5,.ptr 0 0),(7,.lit (.int .i64 (a1.tmod 4))),(8,.own 1 0),(9,.lit (.int .i64 0))],
  [(0,some (.box 47 [.lit (.int .i8 a2_0),.lit (.int .i8 a2_1),.lit (.int .i8 a2_2),.lit (.int .i8 a2_3)] false)),
   (1,some (.row 26 3 [] 0))],2⟩
def lpR_h8b(a0:List FormR)(a1:Int)(a2_0:Int)(a2_1:Int)(a2_2:Int)(a2_3:Int):St:=
 ⟨[(0,.sl 4 (a0.map formRC)),(5,.ptr 0 0),(7,.lit (.int .i64 (a1.tmod 4))),(8,.own 1 1),(9,.lit (.int .i64 1))],
  [(0,some (.box 47 [.lit (.int .i8 a2_0),.lit (.int .i8 a2_1),.lit (.int .i8 a2_2),.lit (.int .i8 a2_3)] false)),
   (1,some (.row 26 3 [[.lit (.bool (rawQ (ofQ a2_0)).s),natA (rawQ (ofQ a2_0)).l1,natA (rawQ (ofQ a2_0)).l2]] 0))],2⟩
def lpR_h8c(a0:List FormR)(a1:Int)(a2_0:Int)(a2_1:Int)(a2_2:Int)(a2_3:Int):St:=
 ⟨[(0,.sl 4 (a0.map formRC)),(5,.ptr 0 0),(7,.lit (.int .i64 (a1.tmod 4))),(8,.own 1 2),(9,.lit (.int .i64 2))],
  [(0,some (.box 47 [.lit (.int .i8 a2_0),.lit (.int .i8 a2_1),.lit (.int .i8 a2_2),.lit (.int .i8 a2_3)] false)),
   (1,some (.row 26 3 [[.lit (.bool (rawQ (ofQ a2_0)).s),natA (rawQ (ofQ a2_0)).l1,natA (rawQ (ofQ a2_0)).l2],[.lit (.bool (rawQ (ofQ a2_1)).s),natA (rawQ (ofQ a2_1)).l1,natA (rawQ (ofQ a2_1)).l2]] 0))],2⟩
def lpR_h8d(a0:List FormR)(a1:Int)(a2_0:Int)(a2_1:Int)(a2_2:Int)(a2_3:Int):St:=
 ⟨[(0,.sl 4 (a0.map formRC)),(5,.ptr 0 0),(7,.lit (.int .i64 (a1.tmod 4))),(8,.own 1 3),(9,.lit (.int .i64 3))],
  [(0,some (.box 47 [.lit (.int .i8 a2_0),.lit (.int .i8 a2_1),.lit (.int .i8 a2_2),.lit (.int .i8 a2_3)] false)),
   (1,some (.row 26 3 [[.lit (.bool (rawQ (ofQ a2_0)).s),natA (rawQ (ofQ a2_0)).l1,natA (rawQ (ofQ a2_0)).l2],[.lit (.bool (rawQ (ofQ a2_1)).s),natA (rawQ (ofQ a2_1)).l1,natA (rawQ (ofQ a2_1)).l2],[.lit (.bool (rawQ (ofQ a2_2)).s),natA (rawQ (ofQ a2_2)).l1,natA (rawQ (ofQ a2_2)).l2]] 0))],2⟩
def lpR_h8e(a0:List FormR)(a1:Int)(a2_0:Int)(a2_1:Int)(a2_2:Int)(a2_3:Int):St:=
 ⟨[(0,.sl 4 (a0.map formRC)),(5,.ptr 0 0),(7,.lit (.int .i64 (a1.tmod 4))),(8,.own 1 4),(9,.lit (.int .i64 4))],
  [(0,some (.box 47 [.lit (.int .i8 a2_0),.lit (.int .i8 a2_1),.lit (.int .i8 a2_2),.lit (.int .i8 a2_3)] false)),
   (1,some (.row 26 3 [[.lit (.bool (rawQ (ofQ a2_0)).s),natA (rawQ (ofQ a2_0)).l1,natA (rawQ (ofQ a2_0)).l2],[.lit (.bool (rawQ (ofQ a2_1)).s),natA (rawQ (ofQ a2_1)).l1,natA (rawQ (ofQ a2_1)).l2],[.lit (.bool (rawQ (ofQ a2_2)).s),natA (rawQ (ofQ a2_2)).l1,natA (rawQ (ofQ a2_2)).l2],[.lit (.bool (rawQ (ofQ a2_3)).s),natA (rawQ (ofQ a2_3)).l1,natA (rawQ (ofQ a2_3)).l2]] 0))],2⟩
def lpR_h12(a0:List FormR)(a1:Int)(a2_0:Int)(a2_1:Int)(a2_2:Int)(a2_3:Int)(i_12:Nat):St:=
 ⟨[(0,.sl 4 (a0.map formRC)),(7,.lit (.int .i64 (a1.tmod 4))),(8,.own 0 4),(10,.lit (.int .i64 (i_12:Int)))],
  [(0,some (.row 26 3 [[.lit (.bool (rawQ (ofQ a2_0)).s),natA (rawQ (ofQ a2_0)).l1,natA (rawQ (ofQ a2_0)).l2],[.lit (.bool (rawQ (ofQ a2_1)).s),natA (rawQ (ofQ a2_1)).l1,natA (rawQ (ofQ a2_1)).l2],[.lit (.bool (rawQ (ofQ a2_2)).s),natA (rawQ (ofQ a2_2)).l1,natA (rawQ (ofQ a2_2)).l2],[.lit (.bool (rawQ (ofQ a2_3)).s),natA (rawQ (ofQ a2_3)).l1,natA (rawQ (ofQ a2_3)).l2]] 0))],1⟩
def lpR_h23(a0:List FormR)(a1:Int)(out_23:List Rat)(r8:List Form)(d_23:Bool)(d2_23:Bool)(d3_23:Bool)(i_23:Nat)(fz_23:Nat)(s_23:Rat)(s2_23:Rat):St:=
 ⟨[(0,.sl 4 (a0.map formRC)),(7,.lit (.int .i64 (a1.tmod 4))),(8,.own 0 out_23.length),(11,.sl 4 (r8.map formC)),(13,.lit (.bool d_23)),(14,.lit (.bool d2_23)),(15,.lit (.bool d3_23)),(16,.ptr 1 0),(17,.ptr 2 0),(18,.lit (.int .i64 (i_23:Int)))],
  [(0,some (.row 26 3 (out_23.map ratC) fz_23)),
   (1,some (.box 26 [.lit (.bool (rawQ s_23).s),natA (rawQ s_23).l1,natA (rawQ s_23).l2] false)),
   (2,some (.box 26 [.lit (.bool (rawQ s2_23).s),natA (rawQ s2_23).l1,natA (rawQ s2_23).l2] false))],3⟩
def lpR_o8a(a0:List FormR)(a1:Int)(a2_0:Int)(a2_1:Int)(a2_2:Int)(a2_3:Int):St:=
 ⟨[(0,.sl 4 (a0.map formRC)),(7,.lit (.int .i64 (a1.tmod 4))),(8,.own 0 4)],
  [(0,some (.row 26 3 [[.lit (.bool (rawQ (ofQ a2_0)).s),natA (rawQ (ofQ a2_0)).l1,natA (rawQ (ofQ a2_0)).l2],[.lit (.bool (rawQ (ofQ a2_1)).s),natA (rawQ (ofQ a2_1)).l1,natA (rawQ (ofQ a2_1)).l2],[.lit (.bool (rawQ (ofQ a2_2)).s),natA (rawQ (ofQ a2_2)).l1,natA (rawQ (ofQ a2_2)).l2],[.lit (.bool (rawQ (ofQ a2_3)).s),natA (rawQ (ofQ a2_3)).l1,natA (rawQ (ofQ a2_3)).l2]] 0))],1⟩
def lpR_o12a(a0:List FormR)(a1:Int)(a2_0:Int)(a2_1:Int)(a2_2:Int)(a2_3:Int):St:=
 ⟨[(0,.sl 4 (a0.map formRC)),(6,.lit (.bool true)),(7,.lit (.int .i64 (a1.tmod 4))),(8,.own 0 4)],
  [(0,some (.row 26 3 [[.lit (.bool (rawQ (ofQ a2_0)).s),natA (rawQ (ofQ a2_0)).l1,natA (rawQ (ofQ a2_0)).l2],[.lit (.bool (rawQ (ofQ a2_1)).s),natA (rawQ (ofQ a2_1)).l1,natA (rawQ (ofQ a2_1)).l2],[.lit (.bool (rawQ (ofQ a2_2)).s),natA (rawQ (ofQ a2_2)).l1,natA (rawQ (ofQ a2_2)).l2],[.lit (.bool (rawQ (ofQ a2_3)).s),natA (rawQ (ofQ a2_3)).l1,natA (rawQ (ofQ a2_3)).l2]] 0))],1⟩
def lpR_o12b(a0:List FormR)(a1:Int)(a2_0:Int)(a2_1:Int)(a2_2:Int)(a2_3:Int):St:=
 ⟨[(0,.sl 4 (a0.map formRC)),(6,.any),(7,.lit (.int .i64 (a1.tmod 4))),(8,.own 0 4)],
  [(0,some (.row 26 3 [[.lit (.bool (rawQ (ofQ a2_0)).s),natA (rawQ (ofQ a2_0)).l1,natA (rawQ (ofQ a2_0)).l2],[.lit (.bool (rawQ (ofQ a2_1)).s),natA (rawQ (ofQ a2_1)).l1,natA (rawQ (ofQ a2_1)).l2],[.lit (.bool (rawQ (ofQ a2_2)).s),natA (rawQ (ofQ a2_2)).l1,natA (rawQ (ofQ a2_2)).l2],[.lit (.bool (rawQ (ofQ a2_3)).s),natA (rawQ (ofQ a2_3)).l1,natA (rawQ (ofQ a2_3)).l2]] 0))],1⟩
def lpR_o23a(out_23:List Rat)(r8:List Form)(d_23:Bool)(d2_23:Bool)(d3_23:Bool)(fz_23:Nat)(s_23:Rat)(s2_23:Rat):St:=
 ⟨[(8,.own 0 out_23.length),(11,.sl 4 (r8.map formC)),(13,.lit (.bool d_23)),(14,.lit (.bool d2_23)),(15,.lit (.bool d3_23)),(16,.ptr 1 0),(17,.ptr 2 0)],
  [(0,some (.row 26 3 (out_23.map ratC) fz_23)),
   (1,some (.box 26 [.lit (.bool (rawQ s_23).s),natA (rawQ s_23).l1,natA (rawQ s_23).l2] false)),
   (2,some (.box 26 [.lit (.bool (rawQ s2_23).s),natA (rawQ s2_23).l1,natA (rawQ s2_23).l2] false))],3⟩
theorem lpR_r8_1{n:Nat}{a0:List FormR}{a1:Int}{a2_0:Int}{a2_1:Int}{a2_2:Int}{a2_3:Int}(W1:InI (a2_0))(W2:InI a2_0):
  Cont 0 (exec Tryz.prog (lpRT n) 0 150 (livesOf 5) big lpR_C8) (livesOf 5 8) (lpR_h8 a0 a1 a2_0 a2_1 a2_2 a2_3) (lpR_h8b a0 a1 a2_0 a2_1 a2_2 a2_3):=by
 have W1_:IntKind.i64.wrap (a2_0)=a2_0:=wr64 W1.1 W1.2
 have K2:=r_ofq (z:=a2_0) W2.1 W2.2
 try simp only [natA] at K2
 apply Cont_m
 simp+decide [lpR_h8,loopsOf, Tryz.f5,lpR_C8,lpR_h8b,natA,W1_,K2,lpR_aw,awG,lpR_l12,lpR_l15,lpR_l16,lpR_l17,lpR_l20,lpR_l21,lpR_l22,lpR_l23,lpR_l24,lpR_l25,lpR_l26]
theorem lpR_r8b_1{n:Nat}{a0:List FormR}{a1:Int}{a2_0:Int}{a2_1:Int}{a2_2:Int}{a2_3:Int}(W1:InI (a2_1))(W2:InI a2_1):
  Cont 0 (exec Tryz.prog (lpRT n) 0 150 (livesOf 5) big lpR_C8) (livesOf 5 8) (lpR_h8b a0 a1 a2_0 a2_1 a2_2 a2_3) (lpR_h8c a0 a1 a2_0 a2_1 a2_2 a2_3):=by
 have W1_:IntKind.i64.wrap (a2_1)=a2_1:=wr64 W1.1 W1.2
 have K2:=r_ofq (z:=a2_1) W2.1 W2.2
 try simp only [natA] at K2
 apply Cont_m
 simp+decide [lpR_h8b,loopsOf, Tryz.f5,lpR_C8,lpR_h8c,natA,W1_,K2,lpR_aw,awG,lpR_l12,lpR_l15,lpR_l16,lpR_l17,lpR_l20,lpR_l21,lpR_l22,lpR_l23,lpR_l24,lpR_l25,lpR_l26]
theorem lpR_r8c_1{n:Nat}{a0:List FormR}{a1:Int}{a2_0:Int}{a2_1:Int}{a2_2:Int}{a2_3:Int}(W1:InI (a2_2))(W2:InI a2_2):
  Cont 0 (exec Tryz.prog (lpRT n) 0 150 (livesOf 5) big lpR_C8) (livesOf 5 8) (lpR_h8c a0 a1 a2_0 a2_1 a2_2 a2_3) (lpR_h8d a0 a1 a2_0 a2_1 a2_2 a2_3):=by
 have W1_:IntKind.i64.wrap (a2_2)=a2_2:=wr64 W1.1 W1.2
 have K2:=r_ofq (z:=a2_2) W2.1 W2.2
 try simp only [natA] at K2
 apply Cont_m
 simp+decide [lpR_h8c,loopsOf, Tryz.f5,lpR_C8,lpR_h8d,natA,W1_,K2,lpR_aw,awG,lpR_l12,lpR_l15,lpR_l16,lpR_l17,lpR_l20,lpR_l21,lpR_l22,lpR_l23,lpR_l24,lpR_l25,lpR_l26]
theorem lpR_r8d_1{n:Nat}{a0:List FormR}{a1:Int}{a2_0:Int}{a2_1:Int}{a2_2:Int}{a2_3:Int}(W1:InI (a2_3))(W2:InI a2_3):
  Cont 0 (exec Tryz.prog (lpRT n) 0 150 (livesOf 5) big lpR_C8) (livesOf 5 8) (lpR_h8d a0 a1 a2_0 a2_1 a2_2 a2_3) (lpR_h8e a0 a1 a2_0 a2_1 a2_2 a2_3):=by
 have W1_:IntKind.i64.wrap (a2_3)=a2_3:=wr64 W1.1 W1.2
 have K2:=r_ofq (z:=a2_3) W2.1 W2.2
 try simp only [natA] at K2
 apply Cont_m
 simp+decide [lpR_h8d,loopsOf, Tryz.f5,lpR_C8,lpR_h8e,natA,W1_,K2,lpR_aw,awG,lpR_l12,lpR_l15,lpR_l16,lpR_l17,lpR_l20,lpR_l21,lpR_l22,lpR_l23,lpR_l24,lpR_l25,lpR_l26]
theorem lpR_x8e_1{n:Nat}{a0:List FormR}{a1:Int}{a2_0:Int}{a2_1:Int}{a2_2:Int}{a2_3:Int}:
  Leave 0 (exec Tryz.prog (lpRT n) 0 150 (livesOf 5) big lpR_C8) (livesOf 5 (outOf 8)) (lpR_h8e a0 a1 a2_0 a2_1 a2_2 a2_3) (.exit 0) (lpR_o8a a0 a1 a2_0 a2_1 a2_2 a2_3):=by
 apply Leave_m
 simp+decide [lpR_h8e,loopsOf, Tryz.f5,lpR_o8a,lpR_C8,lpR_aw,awG,lpR_l12,lpR_l15,lpR_l16,lpR_l17,lpR_l20,lpR_l21,lpR_l22,lpR_l23,lpR_l24,lpR_l25,lpR_l26]
section
variable{a2_1:Int}{a0:List FormR}{F3:List (Int × Raw)}{a2_3:Int}{r6:Raw}{a1:Int}{a2_0:Int}{a2_2:Int}{n:Nat}{i_12:Nat}{r7:Bool}{d_23:Bool}{r24:Rat}{d3_23:Bool}{r27:Int}{s_23:Rat}{r22:Raw}{r23:Rat}{r26:Rat}{i_23:Nat}{F6:List (Int × Raw)}{s2_23:Rat}{r8:List Form}{fz_23:Nat}{r25:Int}{d2_23:Bool}{out_23:List Rat}{r:Bool}{r9:Int}{r28:Bool}{r29:Bool}{r30:Bool}{r31:Bool}
section
variable(C1:(i_12:Int)<(a0.length:Int))(E2:a0[i_12]?=some (F3,r6))(K3:run (n+12) 21 [.agg [.sl 4 (F3.map termRC),.lit (.bool r6.s),natA r6.l1,natA r6.l2],.lit (.int .i64 4)]=some (.lit (.bool r7)))
include C1 E2 K3
theorem lpR_r12_1(C4:r7=true)(W5:InI ((i_12:Int)+1)):
  Cont 0 (exec Tryz.prog (lpRT n) 0 150 (livesOf 5) big lpR_C12) (livesOf 5 12) (lpR_h12 a0 a1 a2_0 a2_1 a2_2 a2_3 i_12) (lpR_h12 a0 a1 a2_0 a2_1 a2_2 a2_3 (i_12+1)):=by
 have C1_:i_12<a0.length:=by omega
 obtain ⟨EL2,EG2⟩:=List.getElem?_eq_some_iff.1 E2
 have W5_:IntKind.i64.wrap ((i_12:Int)+1)=(i_12:Int)+1:=wr64 W5.1 W5.2
 try simp only [natA] at K3
 apply Cont_m
 simp+decide [lpR_h12,loopsOf, Tryz.f5,lpR_C12,natA,C1,C1_,EL2,EG2,E2,K3,C4,W5_,lpR_aw,awG,lpR_l12,lpR_l15,lpR_l16,lpR_l17,lpR_l20,lpR_l21,lpR_l22,lpR_l23,lpR_l24,lpR_l25,lpR_l26]
theorem lpR_x12_1(C4:r7=false):
  Leave 0 (exec Tryz.prog (lpRT n) 0 150 (livesOf 5) big lpR_C12) (livesOf 5 (outOf 12)) (lpR_h12 a0 a1 a2_0 a2_1 a2_2 a2_3 i_12) (.ret) (lpR_o12a a0 a1 a2_0 a2_1 a2_2 a2_3):=by
 have C1_:i_12<a0.length:=by omega
 obtain ⟨EL2,EG2⟩:=List.getElem?_eq_some_iff.1 E2
 apply Leave_m
 simp+decide [lpR_h12,loopsOf, Tryz.f5,lpR_o12a,lpR_C12,C1,C1_,EL2,EG2,E2,K3,C4,lpR_aw,awG,lpR_l12,lpR_l15,lpR_l16,lpR_l17,lpR_l20,lpR_l21,lpR_l22,lpR_l23,lpR_l24,lpR_l25,lpR_l26]
end
theorem lpR_x12_2(C1:¬(i_12:Int)<(a0.length:Int)):
  Leave 0 (exec Tryz.prog (lpRT n) 0 150 (livesOf 5) big lpR_C12) (livesOf 5 (outOf 12)) (lpR_h12 a0 a1 a2_0 a2_1 a2_2 a2_3 i_12) (.exit 2) (lpR_o12b a0 a1 a2_0 a2_1 a2_2 a2_3):=by
 have C1_:¬i_12<a0.length:=by omega
 apply Leave_m
 simp+decide [lpR_h12,loopsOf, Tryz.f5,lpR_o12b,lpR_C12,C1,C1_,lpR_aw,awG,lpR_l12,lpR_l15,lpR_l16,lpR_l17,lpR_l20,lpR_l21,lpR_l22,lpR_l23,lpR_l24,lpR_l25,lpR_l26]
section
variable(C1:(i_23:Int)<(a0.length:Int))(E2:a0[i_23]?=some (F6,r22))(K3:run (n+12) 22 [.agg [.sl 4 (F6.map termRC),.lit (.bool r22.s),natA r22.l1,natA r22.l2],.lit (.int .i64 (a1.tmod 4))]=some (ratV r23))(M4:out_23.length≤100000000)(G5:(a1.tmod 4).toNat<out_23.length)(Z5:0≤a1.tmod 4)(K7:run (n+12) 12 [.agg [.sl 4 (F6.map termRC),.lit (.bool r22.s),natA r22.l1,natA r22.l2],.sl 3 ((out_23.set ((a1.tmod 4).toNat) 0).map ratC)]=some (.tup [ratV r24,.lit (.int .i64 r25)]))(B8a:H r24≤17179869184)(K9:run (n+12) 23 [ratV (-r24),ratV r23]=some (.tup [ratV r26,.lit (.int .i64 r27)]))(B10a:H r23≤17179869184)
include C1 E2 K3 M4 G5 Z5 K7 B8a K9 B10a
theorem lpR_r23_1(C11:sgR r23=0)(C12:d_23=true)(W14:InI ((i_23:Int)+1)):
  Cont 0 (exec Tryz.prog (lpRT n) 0 150 (livesOf 5) big lpR_C23) (livesOf 5 23) (lpR_h23 a0 a1 out_23 r8 d_23 d2_23 d3_23 i_23 fz_23 s_23 s2_23) (lpR_h23 a0 a1 out_23 r8 (decide (0≤sgR r24)) d2_23 d3_23 (i_23+1) out_23.length s_23 s2_23):=by
 have C1_:i_23<a0.length:=by omega
 obtain ⟨EL2,EG2⟩:=List.getElem?_eq_some_iff.1 E2
 simp only [ratV] at K3
 have M4_:∀b,b≤10000→roomy (out_23.length) b=true:=fun b hb=>roomy_s M4 hb
 simp only [ratV,List.map_set,ratC,z0s,z0n,z0d] at K7
 have K8:=r_neg (p:=r24) B8a
 simp only [ratV] at K9
 have K10:=r_sign (p:=r23) B10a
 have C11_:(sgR r23==0)=true:=by rw [C11];simp
 have C11_n:(sgR r23 !=0)=false:=by rw [C11];simp
 have K13:=r_sign (p:=r24) B8a
 have W14_:IntKind.i64.wrap ((i_23:Int)+1)=(i_23:Int)+1:=wr64 W14.1 W14.2
 try simp only [natA] at K3
 try simp only [natA] at K7
 try simp only [natA] at K8
 try simp only [natA] at K9
 try simp only [natA] at K10
 try simp only [natA] at K13
 apply Cont_m
 simp+decide [lpR_h23,loopsOf, Tryz.f5,lpR_C23,natA,C1,C1_,EL2,EG2,E2,K3,M4_,G5,Z5,K7,K8,K9,K10,C11_,C11_n,C12,K13,W14_,lpR_aw,awG,lpR_l12,lpR_l15,lpR_l16,lpR_l17,lpR_l20,lpR_l21,lpR_l22,lpR_l23,lpR_l24,lpR_l25,lpR_l26]
theorem lpR_r23_2(C11:sgR r23=0)(C12:d_23=false)(W13:InI ((i_23:Int)+1)):
  Cont 0 (exec Tryz.prog (lpRT n) 0 150 (livesOf 5) big lpR_C23) (livesOf 5 23) (lpR_h23 a0 a1 out_23 r8 d_23 d2_23 d3_23 i_23 fz_23 s_23 s2_23) (lpR_h23 a0 a1 out_23 r8 false d2_23 d3_23 (i_23+1) out_23.length s_23 s2_23):=by
 have C1_:i_23<a0.length:=by omega
 obtain ⟨EL2,EG2⟩:=List.getElem?_eq_some_iff.1 E2
 simp only [ratV] at K3
 have M4_:∀b,b≤10000→roomy (out_23.length) b=true:=fun b hb=>roomy_s M4 hb
 simp only [ratV,List.map_set,ratC,z0s,z0n,z0d] at K7
 have K8:=r_neg (p:=r24) B8a
 simp only [ratV] at K9
 have K10:=r_sign (p:=r23) B10a
 have C11_:(sgR r23==0)=true:=by rw [C11];simp
 have C11_n:(sgR r23 !=0)=false:=by rw [C11];simp
 have W13_:IntKind.i64.wrap ((i_23:Int)+1)=(i_23:Int)+1:=wr64 W13.1 W13.2
 try simp only [natA] at K3
 try simp only [natA] at K7
 try simp only [natA] at K8
 try simp only [natA] at K9
 try simp only [natA] at K10
 apply Cont_m
 simp+decide [lpR_h23,loopsOf, Tryz.f5,lpR_C23,natA,C1,C1_,EL2,EG2,E2,K3,M4_,G5,Z5,K7,K8,K9,K10,C11_,C11_n,C12,W13_,lpR_aw,awG,lpR_l12,lpR_l15,lpR_l16,lpR_l17,lpR_l20,lpR_l21,lpR_l22,lpR_l23,lpR_l24,lpR_l25,lpR_l26]
section
variable(C11:¬sgR r23=0)
include C11
theorem lpR_r23_3(C12:sgR r23=1)(C13:d2_23=false)(W14:InI ((i_23:Int)+1)):
  Cont 0 (exec Tryz.prog (lpRT n) 0 150 (livesOf 5) big lpR_C23) (livesOf 5 23) (lpR_h23 a0 a1 out_23 r8 d_23 d2_23 d3_23 i_23 fz_23 s_23 s2_23) (lpR_h23 a0 a1 out_23 r8 d_23 true d3_23 (i_23+1) out_23.length r26 s2_23):=by
 have C1_:i_23<a0.length:=by omega
 obtain ⟨EL2,EG2⟩:=List.getElem?_eq_some_iff.1 E2
 simp only [ratV] at K3
 have M4_:∀b,b≤10000→roomy (out_23.length) b=true:=fun b hb=>roomy_s M4 hb
 simp only [ratV,List.map_set,ratC,z0s,z0n,z0d] at K7
 have K8:=r_neg (p:=r24) B8a
 simp only [ratV] at K9
 have K10:=r_sign (p:=r23) B10a
 have C11_:(sgR r23==0)=false:=by simpa using C11
 have C11_n:(sgR r23 !=0)=true:=by simpa using C11
 have C12_:(sgR r23==1)=true:=by rw [C12];simp
 have C12_n:(sgR r23 !=1)=false:=by rw [C12];simp
 have W14_:IntKind.i64.wrap ((i_23:Int)+1)=(i_23:Int)+1:=wr64 W14.1 W14.2
 try simp only [natA] at K3
 try simp only [natA] at K7
 try simp only [natA] at K8
 try simp only [natA] at K9
 try simp only [natA] at K10
 apply Cont_m
 simp+decide [lpR_h23,loopsOf, Tryz.f5,lpR_C23,natA,C1,C1_,EL2,EG2,E2,K3,M4_,G5,Z5,K7,K8,K9,K10,C11_,C11_n,C12_,C12_n,C13,W14_,lpR_aw,awG,lpR_l12,lpR_l15,lpR_l16,lpR_l17,lpR_l20,lpR_l21,lpR_l22,lpR_l23,lpR_l24,lpR_l25,lpR_l26]
theorem lpR_r23_4(C12:sgR r23=1)(C13:d2_23=true)(B14a:H r26≤17179869184)(B14b:H s_23≤17179869184)(C15:0<sgR (r26-s_23))(W16:InI ((i_23:Int)+1)):
  Cont 0 (exec Tryz.prog (lpRT n) 0 150 (livesOf 5) big lpR_C23) (livesOf 5 23) (lpR_h23 a0 a1 out_23 r8 d_23 d2_23 d3_23 i_23 fz_23 s_23 s2_23) (lpR_h23 a0 a1 out_23 r8 d_23 true d3_23 (i_23+1) out_23.length r26 s2_23):=by
 have C1_:i_23<a0.length:=by omega
 obtain ⟨EL2,EG2⟩:=List.getElem?_eq_some_iff.1 E2
 simp only [ratV] at K3
 have M4_:∀b,b≤10000→roomy (out_23.length) b=true:=fun b hb=>roomy_s M4 hb
 simp only [ratV,List.map_set,ratC,z0s,z0n,z0d] at K7
 have K8:=r_neg (p:=r24) B8a
 simp only [ratV] at K9
 have K10:=r_sign (p:=r23) B10a
 have C11_:(sgR r23==0)=false:=by simpa using C11
 have C11_n:(sgR r23 !=0)=true:=by simpa using C11
 have C12_:(sgR r23==1)=true:=by rw [C12];simp
 have C12_n:(sgR r23 !=1)=false:=by rw [C12];simp
 have K14:=r_cmp (p:=r26) (q:=s_23) B14a B14b
 have W16_:IntKind.i64.wrap ((i_23:Int)+1)=(i_23:Int)+1:=wr64 W16.1 W16.2
 try simp only [natA] at K3
 try simp only [natA] at K7
 try simp only [natA] at K8
 try simp only [natA] at K9
 try simp only [natA] at K10
 try simp only [natA] at K14
 apply Cont_m
 simp+decide [lpR_h23,loopsOf, Tryz.f5,lpR_C23,natA,C1,C1_,EL2,EG2,E2,K3,M4_,G5,Z5,K7,K8,K9,K10,C11_,C11_n,C12_,C12_n,C13,K14,C15,W16_,lpR_aw,awG,lpR_l12,lpR_l15,lpR_l16,lpR_l17,lpR_l20,lpR_l21,lpR_l22,lpR_l23,lpR_l24,lpR_l25,lpR_l26]
theorem lpR_r23_5(C12:sgR r23=1)(C13:d2_23=true)(B14a:H r26≤17179869184)(B14b:H s_23≤17179869184)(C15:¬0<sgR (r26-s_23))(W16:InI ((i_23:Int)+1)):
  Cont 0 (exec Tryz.prog (lpRT n) 0 150 (livesOf 5) big lpR_C23) (livesOf 5 23) (lpR_h23 a0 a1 out_23 r8 d_23 d2_23 d3_23 i_23 fz_23 s_23 s2_23) (lpR_h23 a0 a1 out_23 r8 d_23 true d3_23 (i_23+1) out_23.length s_23 s2_23):=by
 have C1_:i_23<a0.length:=by omega
 obtain ⟨EL2,EG2⟩:=List.getElem?_eq_some_iff.1 E2
 simp only [ratV] at K3
 have M4_:∀b,b≤10000→roomy (out_23.length) b=true:=fun b hb=>roomy_s M4 hb
 simp only [ratV,List.map_set,ratC,z0s,z0n,z0d] at K7
 have K8:=r_neg (p:=r24) B8a
 simp only [ratV] at K9
 have K10:=r_sign (p:=r23) B10a
 have C11_:(sgR r23==0)=false:=by simpa using C11
 have C11_n:(sgR r23 !=0)=true:=by simpa using C11
 have C12_:(sgR r23==1)=true:=by rw [C12];simp
 have C12_n:(sgR r23 !=1)=false:=by rw [C12];simp
 have K14:=r_cmp (p:=r26) (q:=s_23) B14a B14b
 have W16_:IntKind.i64.wrap ((i_23:Int)+1)=(i_23:Int)+1:=wr64 W16.1 W16.2
 try simp only [natA] at K3
 try simp only [natA] at K7
 try simp only [natA] at K8
 try simp only [natA] at K9
 try simp only [natA] at K10
 try simp only [natA] at K14
 apply Cont_m
 simp+decide [lpR_h23,loopsOf, Tryz.f5,lpR_C23,natA,C1,C1_,EL2,EG2,E2,K3,M4_,G5,Z5,K7,K8,K9,K10,C11_,C11_n,C12_,C12_n,C13,K14,C15,W16_,lpR_aw,awG,lpR_l12,lpR_l15,lpR_l16,lpR_l17,lpR_l20,lpR_l21,lpR_l22,lpR_l23,lpR_l24,lpR_l25,lpR_l26]
theorem lpR_r23_6(C12:¬sgR r23=1)(C13:d3_23=false)(W14:InI ((i_23:Int)+1)):
  Cont 0 (exec Tryz.prog (lpRT n) 0 150 (livesOf 5) big lpR_C23) (livesOf 5 23) (lpR_h23 a0 a1 out_23 r8 d_23 d2_23 d3_23 i_23 fz_23 s_23 s2_23) (lpR_h23 a0 a1 out_23 r8 d_23 d2_23 true (i_23+1) out_23.length s_23 r26):=by
 have C1_:i_23<a0.length:=by omega
 obtain ⟨EL2,EG2⟩:=List.getElem?_eq_some_iff.1 E2
 simp only [ratV] at K3
 have M4_:∀b,b≤10000→roomy (out_23.length) b=true:=fun b hb=>roomy_s M4 hb
 simp only [ratV,List.map_set,ratC,z0s,z0n,z0d] at K7
 have K8:=r_neg (p:=r24) B8a
 simp only [ratV] at K9
 have K10:=r_sign (p:=r23) B10a
 have C11_:(sgR r23==0)=false:=by simpa using C11
 have C11_n:(sgR r23 !=0)=true:=by simpa using C11
 have C12_:(sgR r23==1)=false:=by simpa using C12
 have C12_n:(sgR r23 !=1)=true:=by simpa using C12
 have W14_:IntKind.i64.wrap ((i_23:Int)+1)=(i_23:Int)+1:=wr64 W14.1 W14.2
 try simp only [natA] at K3
 try simp only [natA] at K7
 try simp only [natA] at K8
 try simp only [natA] at K9
 try simp only [natA] at K10
 apply Cont_m
 simp+decide [lpR_h23,loopsOf, Tryz.f5,lpR_C23,natA,C1,C1_,EL2,EG2,E2,K3,M4_,G5,Z5,K7,K8,K9,K10,C11_,C11_n,C12_,C12_n,C13,W14_,lpR_aw,awG,lpR_l12,lpR_l15,lpR_l16,lpR_l17,lpR_l20,lpR_l21,lpR_l22,lpR_l23,lpR_l24,lpR_l25,lpR_l26]
theorem lpR_r23_7(C12:¬sgR r23=1)(C13:d3_23=true)(B14a:H r26≤17179869184)(B14b:H s2_23≤17179869184)(C15:sgR (r26-s2_23)<0)(W16:InI ((i_23:Int)+1)):
  Cont 0 (exec Tryz.prog (lpRT n) 0 150 (livesOf 5) big lpR_C23) (livesOf 5 23) (lpR_h23 a0 a1 out_23 r8 d_23 d2_23 d3_23 i_23 fz_23 s_23 s2_23) (lpR_h23 a0 a1 out_23 r8 d_23 d2_23 true (i_23+1) out_23.length s_23 r26):=by
 have C1_:i_23<a0.length:=by omega
 obtain ⟨EL2,EG2⟩:=List.getElem?_eq_some_iff.1 E2
 simp only [ratV] at K3
 have M4_:∀b,b≤10000→roomy (out_23.length) b=true:=fun b hb=>roomy_s M4 hb
 simp only [ratV,List.map_set,ratC,z0s,z0n,z0d] at K7
 have K8:=r_neg (p:=r24) B8a
 simp only [ratV] at K9
 have K10:=r_sign (p:=r23) B10a
 have C11_:(sgR r23==0)=false:=by simpa using C11
 have C11_n:(sgR r23 !=0)=true:=by simpa using C11
 have C12_:(sgR r23==1)=false:=by simpa using C12
 have C12_n:(sgR r23 !=1)=true:=by simpa using C12
 have K14:=r_cmp (p:=r26) (q:=s2_23) B14a B14b
 have W16_:IntKind.i64.wrap ((i_23:Int)+1)=(i_23:Int)+1:=wr64 W16.1 W16.2
 try simp only [natA] at K3
 try simp only [natA] at K7
 try simp only [natA] at K8
 try simp only [natA] at K9
 try simp only [natA] at K10
 try simp only [natA] at K14
 apply Cont_m
 simp+decide [lpR_h23,loopsOf, Tryz.f5,lpR_C23,natA,C1,C1_,EL2,EG2,E2,K3,M4_,G5,Z5,K7,K8,K9,K10,C11_,C11_n,C12_,C12_n,C13,K14,C15,W16_,lpR_aw,awG,lpR_l12,lpR_l15,lpR_l16,lpR_l17,lpR_l20,lpR_l21,lpR_l22,lpR_l23,lpR_l24,lpR_l25,lpR_l26]
theorem lpR_r23_8(C12:¬sgR r23=1)(C13:d3_23=true)(B14a:H r26≤17179869184)(B14b:H s2_23≤17179869184)(C15:¬sgR (r26-s2_23)<0)(W16:InI ((i_23:Int)+1)):
  Cont 0 (exec Tryz.prog (lpRT n) 0 150 (livesOf 5) big lpR_C23) (livesOf 5 23) (lpR_h23 a0 a1 out_23 r8 d_23 d2_23 d3_23 i_23 fz_23 s_23 s2_23) (lpR_h23 a0 a1 out_23 r8 d_23 d2_23 true (i_23+1) out_23.length s_23 s2_23):=by
 have C1_:i_23<a0.length:=by omega
 obtain ⟨EL2,EG2⟩:=List.getElem?_eq_some_iff.1 E2
 simp only [ratV] at K3
 have M4_:∀b,b≤10000→roomy (out_23.length) b=true:=fun b hb=>roomy_s M4 hb
 simp only [ratV,List.map_set,ratC,z0s,z0n,z0d] at K7
 have K8:=r_neg (p:=r24) B8a
 simp only [ratV] at K9
 have K10:=r_sign (p:=r23) B10a
 have C11_:(sgR r23==0)=false:=by simpa using C11
 have C11_n:(sgR r23 !=0)=true:=by simpa using C11
 have C12_:(sgR r23==1)=false:=by simpa using C12
 have C12_n:(sgR r23 !=1)=true:=by simpa using C12
 have K14:=r_cmp (p:=r26) (q:=s2_23) B14a B14b
 have W16_:IntKind.i64.wrap ((i_23:Int)+1)=(i_23:Int)+1:=wr64 W16.1 W16.2
 try simp only [natA] at K3
 try simp only [natA] at K7
 try simp only [natA] at K8
 try simp only [natA] at K9
 try simp only [natA] at K10
 try simp only [natA] at K14
 apply Cont_m
 simp+decide [lpR_h23,loopsOf, Tryz.f5,lpR_C23,natA,C1,C1_,EL2,EG2,E2,K3,M4_,G5,Z5,K7,K8,K9,K10,C11_,C11_n,C12_,C12_n,C13,K14,C15,W16_,lpR_aw,awG,lpR_l12,lpR_l15,lpR_l16,lpR_l17,lpR_l20,lpR_l21,lpR_l22,lpR_l23,lpR_l24,lpR_l25,lpR_l26]
end
end
theorem lpR_x23_1(C1:¬(i_23:Int)<(a0.length:Int)):
  Leave 0 (exec Tryz.prog (lpRT n) 0 150 (livesOf 5) big lpR_C23) (livesOf 5 (outOf 23)) (lpR_h23 a0 a1 out_23 r8 d_23 d2_23 d3_23 i_23 fz_23 s_23 s2_23) (.exit 4) (lpR_o23a out_23 r8 d_23 d2_23 d3_23 fz_23 s_23 s2_23):=by
 have C1_:¬i_23<a0.length:=by omega
 apply Leave_m
 simp+decide [lpR_h23,loopsOf, Tryz.f5,lpR_o23a,lpR_C23,C1,C1_,lpR_aw,awG,lpR_l12,lpR_l15,lpR_l16,lpR_l17,lpR_l20,lpR_l21,lpR_l22,lpR_l23,lpR_l24,lpR_l25,lpR_l26]
section
variable(K1:run (n+12) 16 [.sl 4 (a0.map formRC)]=some (.lit (.bool r)))
include K1
theorem lpR_f1(C2:r=false):
  lpR n [.sl 4 (a0.map formRC),.lit (.int .u8 a1),.agg [.lit (.int .i8 a2_0),.lit (.int .i8 a2_1),.lit (.int .i8 a2_2),.lit (.int .i8 a2_3)]]=some (.lit (.bool true)):=by
 unfold lpR fnP
 simp+decide [Tryz.f5,K1,C2,lpR_aw,awG,lpR_l12,lpR_l15,lpR_l16,lpR_l17,lpR_l20,lpR_l21,lpR_l22,lpR_l23,lpR_l24,lpR_l25,lpR_l26]
section
variable(C2:r=true)(W3:InI (a1.tmod 4))(L4:loopG Tryz.prog (lpRT n) 0 150 (livesOf 5) 8 lpR_C8 (lpR_h8 a0 a1 a2_0 a2_1 a2_2 a2_3)=some (.exit 0,lpR_o8a a0 a1 a2_0 a2_1 a2_2 a2_3))
include C2 W3 L4
theorem lpR_f2(L5:loopG Tryz.prog (lpRT n) 0 150 (livesOf 5) 12 lpR_C12 (lpR_h12 a0 a1 a2_0 a2_1 a2_2 a2_3 0)=some (.ret,lpR_o12a a0 a1 a2_0 a2_1 a2_2 a2_3)):
  lpR n [.sl 4 (a0.map formRC),.lit (.int .u8 a1),.agg [.lit (.int .i8 a2_0),.lit (.int .i8 a2_1),.lit (.int .i8 a2_2),.lit (.int .i8 a2_3)]]=some (.lit (.bool true)):=by
 have W3_:IntKind.i64.wrap (a1.tmod 4)=a1.tmod 4:=wr64 W3.1 W3.2
 unfold lpR fnP
 simp+decide [Tryz.f5,K1,C2,W3_,lpR_aw,awG,lpR_l12,lpR_l15,lpR_l16,lpR_l17,lpR_l20,lpR_l21,lpR_l22,lpR_l23,lpR_l24,lpR_l25,lpR_l26]
 rw [loopX_G (C':=lpR_C8) (e:=(lpR_h8 a0 a1 a2_0 a2_1 a2_2 a2_3)) ?_ ?_,L4]
 rotate_left
 ·kernel_rfl
 ·simp+decide [lpR_h8,K1,C2,W3_,lpR_aw,awG,lpR_l12,lpR_l15,lpR_l16,lpR_l17,lpR_l20,lpR_l21,lpR_l22,lpR_l23,lpR_l24,lpR_l25,lpR_l26]
 simp+decide [lpR_o8a,K1,C2,W3_,lpR_aw,awG,lpR_l12,lpR_l15,lpR_l16,lpR_l17,lpR_l20,lpR_l21,lpR_l22,lpR_l23,lpR_l24,lpR_l25,lpR_l26]
 rw [loopX_G (C':=lpR_C12) (e:=(lpR_h12 a0 a1 a2_0 a2_1 a2_2 a2_3 0)) ?_ ?_,L5]
 rotate_left
 ·kernel_rfl
 ·simp+decide [lpR_h12,K1,C2,W3_,lpR_aw,awG,lpR_l12,lpR_l15,lpR_l16,lpR_l17,lpR_l20,lpR_l21,lpR_l22,lpR_l23,lpR_l24,lpR_l25,lpR_l26]
 simp+decide [lpR_o12a,K1,C2,W3_,lpR_aw,awG,lpR_l12,lpR_l15,lpR_l16,lpR_l17,lpR_l20,lpR_l21,lpR_l22,lpR_l23,lpR_l24,lpR_l25,lpR_l26]
section
variable(L5:loopG Tryz.prog (lpRT n) 0 150 (livesOf 5) 12 lpR_C12 (lpR_h12 a0 a1 a2_0 a2_1 a2_2 a2_3 0)=some (.exit 2,lpR_o12b a0 a1 a2_0 a2_1 a2_2 a2_3))(K6:run (n+12) 17 [.sl 4 (a0.map formRC),.lit (.int .i64 (a1.tmod 4))]=some (.tup [.sl 4 (r8.map formC),.lit (.int .i64 r9)]))(C7:r9=0)(L8:loopG Tryz.prog (lpRT n) 0 150 (livesOf 5) 23 lpR_C23 (lpR_h23 a0 a1 ([ofQ a2_0,ofQ a2_1,ofQ a2_2,ofQ a2_3]) r8 true false false 0 0 0 0)=some (.exit 4,lpR_o23a out_23 r8 d_23 d2_23 d3_23 fz_23 s_23 s2_23))
include L5 K6 C7 L8
theorem lpR_f4(C9:d_23=true)(C10:d2_23=false)(K11:run (n+12) 26 [.sl 4 (r8.map formC),.sl 3 (out_23.map ratC)]=some (.lit (.bool r28))):
  lpR n [.sl 4 (a0.map formRC),.lit (.int .u8 a1),.agg [.lit (.int .i8 a2_0),.lit (.int .i8 a2_1),.lit (.int .i8 a2_2),.lit (.int .i8 a2_3)]]=some (.lit (.bool r28)):=by
 have W3_:IntKind.i64.wrap (a1.tmod 4)=a1.tmod 4:=wr64 W3.1 W3.2
 have C7_:(r9==0)=true:=by rw [C7];simp
 have C7_n:(r9 !=0)=false:=by rw [C7];simp
 unfold lpR fnP
 simp+decide [Tryz.f5,K1,C2,W3_,K6,C7_,C7_n,C9,C10,K11,lpR_aw,awG,lpR_l12,lpR_l15,lpR_l16,lpR_l17,lpR_l20,lpR_l21,lpR_l22,lpR_l23,lpR_l24,lpR_l25,lpR_l26]
 rw [loopX_G (C':=lpR_C8) (e:=(lpR_h8 a0 a1 a2_0 a2_1 a2_2 a2_3)) ?_ ?_,L4]
 rotate_left
 ·kernel_rfl
 ·simp+decide [lpR_h8,K1,C2,W3_,K6,C7_,C7_n,C9,C10,K11,lpR_aw,awG,lpR_l12,lpR_l15,lpR_l16,lpR_l17,lpR_l20,lpR_l21,lpR_l22,lpR_l23,lpR_l24,lpR_l25,lpR_l26]
 simp+decide [lpR_o8a,K1,C2,W3_,K6,C7_,C7_n,C9,C10,K11,lpR_aw,awG,lpR_l12,lpR_l15,lpR_l16,lpR_l17,lpR_l20,lpR_l21,lpR_l22,lpR_l23,lpR_l24,lpR_l25,lpR_l26]
 rw [loopX_G (C':=lpR_C12) (e:=(lpR_h12 a0 a1 a2_0 a2_1 a2_2 a2_3 0)) ?_ ?_,L5]
 rotate_left
 ·kernel_rfl
 ·simp+decide [lpR_h12,K1,C2,W3_,K6,C7_,C7_n,C9,C10,K11,lpR_aw,awG,lpR_l12,lpR_l15,lpR_l16,lpR_l17,lpR_l20,lpR_l21,lpR_l22,lpR_l23,lpR_l24,lpR_l25,lpR_l26]
 simp+decide [lpR_o12b,K1,C2,W3_,K6,C7_,C7_n,C9,C10,K11,lpR_aw,awG,lpR_l12,lpR_l15,lpR_l16,lpR_l17,lpR_l20,lpR_l21,lpR_l22,lpR_l23,lpR_l24,lpR_l25,lpR_l26]
 rw [loopX_G (C':=lpR_C23) (e:=(lpR_h23 a0 a1 ([ofQ a2_0,ofQ a2_1,ofQ a2_2,ofQ a2_3]) r8 true false false 0 0 0 0)) ?_ ?_,L8]
 rotate_left
 ·kernel_rfl
 ·simp+decide [lpR_h23,K1,C2,W3_,K6,C7_,C7_n,C9,C10,K11,lpR_aw,awG,lpR_l12,lpR_l15,lpR_l16,lpR_l17,lpR_l20,lpR_l21,lpR_l22,lpR_l23,lpR_l24,lpR_l25,lpR_l26]
 simp+decide [lpR_o23a,K1,C2,W3_,K6,C7_,C7_n,C9,C10,K11,lpR_aw,awG,lpR_l12,lpR_l15,lpR_l16,lpR_l17,lpR_l20,lpR_l21,lpR_l22,lpR_l23,lpR_l24,lpR_l25,lpR_l26]
theorem lpR_f5(C9:d_23=true)(C10:d2_23=true)(C11:d3_23=false)(K12:run (n+12) 26 [.sl 4 (r8.map formC),.sl 3 (out_23.map ratC)]=some (.lit (.bool r29))):
  lpR n [.sl 4 (a0.map formRC),.lit (.int .u8 a1),.agg [.lit (.int .i8 a2_0),.lit (.int .i8 a2_1),.lit (.int .i8 a2_2),.lit (.int .i8 a2_3)]]=some (.lit (.bool r29)):=by
 have W3_:IntKind.i64.wrap (a1.tmod 4)=a1.tmod 4:=wr64 W3.1 W3.2
 have C7_:(r9==0)=true:=by rw [C7];simp
 have C7_n:(r9 !=0)=false:=by rw [C7];simp
 unfold lpR fnP
 simp+decide [Tryz.f5,K1,C2,W3_,K6,C7_,C7_n,C9,C10,C11,K12,lpR_aw,awG,lpR_l12,lpR_l15,lpR_l16,lpR_l17,lpR_l20,lpR_l21,lpR_l22,lpR_l23,lpR_l24,lpR_l25,lpR_l26]
 rw [loopX_G (C':=lpR_C8) (e:=(lpR_h8 a0 a1 a2_0 a2_1 a2_2 a2_3)) ?_ ?_,L4]
 rotate_left
 ·kernel_rfl
 ·simp+decide [lpR_h8,K1,C2,W3_,K6,C7_,C7_n,C9,C10,C11,K12,lpR_aw,awG,lpR_l12,lpR_l15,lpR_l16,lpR_l17,lpR_l20,lpR_l21,lpR_l22,lpR_l23,lpR_l24,lpR_l25,lpR_l26]
 simp+decide [lpR_o8a,K1,C2,W3_,K6,C7_,C7_n,C9,C10,C11,K12,lpR_aw,awG,lpR_l12,lpR_l15,lpR_l16,lpR_l17,lpR_l20,lpR_l21,lpR_l22,lpR_l23,lpR_l24,lpR_l25,lpR_l26]
 rw [loopX_G (C':=lpR_C12) (e:=(lpR_h12 a0 a1 a2_0 a2_1 a2_2 a2_3 0)) ?_ ?_,L5]
 rotate_left
 ·kernel_rfl
 ·simp+decide [lpR_h12,K1,C2,W3_,K6,C7_,C7_n,C9,C10,C11,K12,lpR_aw,awG,lpR_l12,lpR_l15,lpR_l16,lpR_l17,lpR_l20,lpR_l21,lpR_l22,lpR_l23,lpR_l24,lpR_l25,lpR_l26]
 simp+decide [lpR_o12b,K1,C2,W3_,K6,C7_,C7_n,C9,C10,C11,K12,lpR_aw,awG,lpR_l12,lpR_l15,lpR_l16,lpR_l17,lpR_l20,lpR_l21,lpR_l22,lpR_l23,lpR_l24,lpR_l25,lpR_l26]
 rw [loopX_G (C':=lpR_C23) (e:=(lpR_h23 a0 a1 ([ofQ a2_0,ofQ a2_1,ofQ a2_2,ofQ a2_3]) r8 true false false 0 0 0 0)) ?_ ?_,L8]
 rotate_left
 ·kernel_rfl
 ·simp+decide [lpR_h23,K1,C2,W3_,K6,C7_,C7_n,C9,C10,C11,K12,lpR_aw,awG,lpR_l12,lpR_l15,lpR_l16,lpR_l17,lpR_l20,lpR_l21,lpR_l22,lpR_l23,lpR_l24,lpR_l25,lpR_l26]
 simp+decide [lpR_o23a,K1,C2,W3_,K6,C7_,C7_n,C9,C10,C11,K12,lpR_aw,awG,lpR_l12,lpR_l15,lpR_l16,lpR_l17,lpR_l20,lpR_l21,lpR_l22,lpR_l23,lpR_l24,lpR_l25,lpR_l26]
theorem lpR_f6(C9:d_23=true)(C10:d2_23=true)(C11:d3_23=true)(B12a:H s_23≤17179869184)(B12b:H s2_23≤17179869184)(K13:run (n+12) 26 [.sl 4 (r8.map formC),.sl 3 (out_23.map ratC)]=some (.lit (.bool r30))):
  lpR n [.sl 4 (a0.map formRC),.lit (.int .u8 a1),.agg [.lit (.int .i8 a2_0),.lit (.int .i8 a2_1),.lit (.int .i8 a2_2),.lit (.int .i8 a2_3)]]=some (.lit (.bool ((r30==(decide (sgR (s_23-s2_23)≤0)))))):=by
 have W3_:IntKind.i64.wrap (a1.tmod 4)=a1.tmod 4:=wr64 W3.1 W3.2
 have C7_:(r9==0)=true:=by rw [C7];simp
 have C7_n:(r9 !=0)=false:=by rw [C7];simp
 have K12:=r_cmp (p:=s_23) (q:=s2_23) B12a B12b
 unfold lpR fnP
 simp+decide [Tryz.f5,K1,C2,W3_,K6,C7_,C7_n,C9,C10,C11,K12,K13,lpR_aw,awG,lpR_l12,lpR_l15,lpR_l16,lpR_l17,lpR_l20,lpR_l21,lpR_l22,lpR_l23,lpR_l24,lpR_l25,lpR_l26]
 rw [loopX_G (C':=lpR_C8) (e:=(lpR_h8 a0 a1 a2_0 a2_1 a2_2 a2_3)) ?_ ?_,L4]
 rotate_left
 ·kernel_rfl
 ·simp+decide [lpR_h8,K1,C2,W3_,K6,C7_,C7_n,C9,C10,C11,K12,K13,lpR_aw,awG,lpR_l12,lpR_l15,lpR_l16,lpR_l17,lpR_l20,lpR_l21,lpR_l22,lpR_l23,lpR_l24,lpR_l25,lpR_l26]
 simp+decide [lpR_o8a,K1,C2,W3_,K6,C7_,C7_n,C9,C10,C11,K12,K13,lpR_aw,awG,lpR_l12,lpR_l15,lpR_l16,lpR_l17,lpR_l20,lpR_l21,lpR_l22,lpR_l23,lpR_l24,lpR_l25,lpR_l26]
 rw [loopX_G (C':=lpR_C12) (e:=(lpR_h12 a0 a1 a2_0 a2_1 a2_2 a2_3 0)) ?_ ?_,L5]
 rotate_left
 ·kernel_rfl
 ·simp+decide [lpR_h12,K1,C2,W3_,K6,C7_,C7_n,C9,C10,C11,K12,K13,lpR_aw,awG,lpR_l12,lpR_l15,lpR_l16,lpR_l17,lpR_l20,lpR_l21,lpR_l22,lpR_l23,lpR_l24,lpR_l25,lpR_l26]
 simp+decide [lpR_o12b,K1,C2,W3_,K6,C7_,C7_n,C9,C10,C11,K12,K13,lpR_aw,awG,lpR_l12,lpR_l15,lpR_l16,lpR_l17,lpR_l20,lpR_l21,lpR_l22,lpR_l23,lpR_l24,lpR_l25,lpR_l26]
 rw [loopX_G (C':=lpR_C23) (e:=(lpR_h23 a0 a1 ([ofQ a2_0,ofQ a2_1,ofQ a2_2,ofQ a2_3]) r8 true false false 0 0 0 0)) ?_ ?_,L8]
 rotate_left
 ·kernel_rfl
 ·simp+decide [lpR_h23,K1,C2,W3_,K6,C7_,C7_n,C9,C10,C11,K12,K13,lpR_aw,awG,lpR_l12,lpR_l15,lpR_l16,lpR_l17,lpR_l20,lpR_l21,lpR_l22,lpR_l23,lpR_l24,lpR_l25,lpR_l26]
 simp+decide [lpR_o23a,K1,C2,W3_,K6,C7_,C7_n,C9,C10,C11,K12,K13,lpR_aw,awG,lpR_l12,lpR_l15,lpR_l16,lpR_l17,lpR_l20,lpR_l21,lpR_l22,lpR_l23,lpR_l24,lpR_l25,lpR_l26]
theorem lpR_f7(C9:d_23=false)(K10:run (n+12) 26 [.sl 4 (r8.map formC),.sl 3 (out_23.map ratC)]=some (.lit (.bool r31))):
  lpR n [.sl 4 (a0.map formRC),.lit (.int .u8 a1),.agg [.lit (.int .i8 a2_0),.lit (.int .i8 a2_1),.lit (.int .i8 a2_2),.lit (.int .i8 a2_3)]]=some (.lit (.bool (!r31))):=by
 have W3_:IntKind.i64.wrap (a1.tmod 4)=a1.tmod 4:=wr64 W3.1 W3.2
 have C7_:(r9==0)=true:=by rw [C7];simp
 have C7_n:(r9 !=0)=false:=by rw [C7];simp
 unfold lpR fnP
 simp+decide [Tryz.f5,K1,C2,W3_,K6,C7_,C7_n,C9,K10,lpR_aw,awG,lpR_l12,lpR_l15,lpR_l16,lpR_l17,lpR_l20,lpR_l21,lpR_l22,lpR_l23,lpR_l24,lpR_l25,lpR_l26]
 rw [loopX_G (C':=lpR_C8) (e:=(lpR_h8 a0 a1 a2_0 a2_1 a2_2 a2_3)) ?_ ?_,L4]
 rotate_left
 ·kernel_rfl
 ·simp+decide [lpR_h8,K1,C2,W3_,K6,C7_,C7_n,C9,K10,lpR_aw,awG,lpR_l12,lpR_l15,lpR_l16,lpR_l17,lpR_l20,lpR_l21,lpR_l22,lpR_l23,lpR_l24,lpR_l25,lpR_l26]
 simp+decide [lpR_o8a,K1,C2,W3_,K6,C7_,C7_n,C9,K10,lpR_aw,awG,lpR_l12,lpR_l15,lpR_l16,lpR_l17,lpR_l20,lpR_l21,lpR_l22,lpR_l23,lpR_l24,lpR_l25,lpR_l26]
 rw [loopX_G (C':=lpR_C12) (e:=(lpR_h12 a0 a1 a2_0 a2_1 a2_2 a2_3 0)) ?_ ?_,L5]
 rotate_left
 ·kernel_rfl
 ·simp+decide [lpR_h12,K1,C2,W3_,K6,C7_,C7_n,C9,K10,lpR_aw,awG,lpR_l12,lpR_l15,lpR_l16,lpR_l17,lpR_l20,lpR_l21,lpR_l22,lpR_l23,lpR_l24,lpR_l25,lpR_l26]
 simp+decide [lpR_o12b,K1,C2,W3_,K6,C7_,C7_n,C9,K10,lpR_aw,awG,lpR_l12,lpR_l15,lpR_l16,lpR_l17,lpR_l20,lpR_l21,lpR_l22,lpR_l23,lpR_l24,lpR_l25,lpR_l26]
 rw [loopX_G (C':=lpR_C23) (e:=(lpR_h23 a0 a1 ([ofQ a2_0,ofQ a2_1,ofQ a2_2,ofQ a2_3]) r8 true false false 0 0 0 0)) ?_ ?_,L8]
 rotate_left
 ·kernel_rfl
 ·simp+decide [lpR_h23,K1,C2,W3_,K6,C7_,C7_n,C9,K10,lpR_aw,awG,lpR_l12,lpR_l15,lpR_l16,lpR_l17,lpR_l20,lpR_l21,lpR_l22,lpR_l23,lpR_l24,lpR_l25,lpR_l26]
 simp+decide [lpR_o23a,K1,C2,W3_,K6,C7_,C7_n,C9,K10,lpR_aw,awG,lpR_l12,lpR_l15,lpR_l16,lpR_l17,lpR_l20,lpR_l21,lpR_l22,lpR_l23,lpR_l24,lpR_l25,lpR_l26]
end
end
end
end
end
end Go.Proofs.YtdaonnnlgfhlaaaGreatDoor
