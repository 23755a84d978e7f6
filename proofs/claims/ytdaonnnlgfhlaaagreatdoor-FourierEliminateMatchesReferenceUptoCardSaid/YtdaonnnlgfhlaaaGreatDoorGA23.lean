import Derived.Test.YtdaonnnlgfhlaaaGreatDoorGA17
import Derived.Test.YtdaonnnlgfhlaaaGreatDoorGA22
import Derived.Test.YtdaonnnlgfhlaaaGreatDoorGA18
import Derived.Test.YtdaonnnlgfhlaaaGreatDoorGA21
set_option linter.all false
set_option maxHeartbeats 6400000
set_option maxRecDepth 100000
namespace Go.Proofs.YtdaonnnlgfhlaaaGreatDoor
section
open Go.RowKit
attribute [local irreducible] run runL loopG exec
theorem nat_self{q:Rat}(hq:H q≤17179869184):(oN1 (fun _=>true) fun x=>natA (lmb (val x))) [natA (rawQ q).l1]=some (natA (rawQ q).l1)∧(oN1 (fun _=>true) fun x=>natA (lmb (val x))) [natA (rawQ q).l2]=some (natA (rawQ q).l2):=by
 have hb:=rawB_q hq
 have e1:lmb (val (rawQ q).l1)=(rawQ q).l1:=by unfold rawQ;dsimp only;rw [val_lmb]
 have e2:lmb (val (rawQ q).l2)=(rawQ q).l2:=by
  unfold rawQ dlmb
  dsimp only
  split
  ·decide+kernel
  ·rw [val_lmb]
 have f1:fewN (rawQ q).l1=true:=Nat.ble_eq_true_of_le (by have:=hb.bn;omega)
 have f2:fewN (rawQ q).l2=true:=Nat.ble_eq_true_of_le (by have:=hb.bd;omega)
 constructor
 ·simp only [oN1,decN_nat hb.n,f1,Bool.and_true,if_true,e1]
 ·simp only [oN1,decN_nat hb.d,f2,Bool.and_true,if_true,e2]
theorem lcp_c{n:Nat}{q:Rat}(hq:H q≤17179869184):run (n+2) 83 [ratV q]=some (ratV q):=lcp_f1 (nat_self hq).1 (nat_self hq).2
def cofE(v:Int)(_:Nat)(_:Unit)(t:Int × Rat):Except Rat Unit:=if t.1=v then .error t.2 else .ok ()
theorem cofE_cof{v:Int}:∀{l:List (Int × Rat)} (i:Nat),foldE (cofE v) i () l=(match foldE (cofE v) i () l with|.ok _=>.ok ()|.error _=>.error (cof l v))∧((∃u,foldE (cofE v) i () l=.ok u)→cof l v=0)
 | [],i=>⟨rfl,fun _=>rfl⟩
 | t::l,i=>by
   obtain ⟨h1,h2⟩:=cofE_cof (v:=v) (l:=l) (i+1)
   by_cases e:t.1=v
   ·have e1:cofE v i () t=.error t.2:=if_pos e
    have e2:foldE (cofE v) i () (t::l)=.error t.2:=by rw [foldE,e1]
    rw [e2]
    exact ⟨by rw [cof,if_pos e],fun ⟨u,h⟩=>by cases h⟩
   ·have e1:cofE v i () t=.ok ():=if_neg e
    have e2:foldE (cofE v) i () (t::l)=foldE (cofE v) (i+1) () l:=by rw [foldE,e1]
    have e3:cof (t::l) v=cof l v:=by rw [cof,if_neg e]
    rw [e2,e3]
    exact ⟨h1,h2⟩
theorem lco_c{n:Nat}{f:Form}{v:Int}(hB:BdF 17179869184 f):run (n+3) 45 [formV f,.lit (.int .i64 v)]=some (ratV (cof f.1 v)):=by
 have hl:=hB.l
 have L:=loopG_E (O:=tab (n+3)) (P:= Tryz.prog) (m:=0) (N:=23) (lives:=livesOf 45) (r:=2) (C:=lco_C2) (L:=f.1) (f:=cofE v) (enc:=fun i _=>lco_h2 f v i) (exN:=.exit 0) (exE:=.ret) (out:=fun _=>lco_o2b) (outE:=lco_o2a) (Inv:=fun _ _=>True) () trivial (by omega) (fun h=>by cases h) (fun h=>by cases h)
  (fun i t s hi hI=>by
   obtain ⟨u,c⟩:=t
   have hlt:=(List.getElem?_eq_some_iff.1 hi).1
   unfold cofE
   by_cases e:u=v
   ·rw [if_pos e]
    exact lco_x2_1 (by omega) hi e (lcp_c (hB.t _ (List.mem_of_getElem? hi)))
   ·rw [if_neg e]
    exact ⟨lco_r2_1 (by omega) hi e ⟨by omega,by omega⟩,trivial⟩)
  (fun b hI=>lco_x2_2 (by omega))
 obtain ⟨h1,h2⟩:=cofE_cof (v:=v) (l:=f.1) 0
 have L:=L.1
 cases hE:foldE (cofE v) 0 () f.1 with
 | ok s=>
   rw [hE] at L
   rw [h2 ⟨s,hE⟩]
   have h:=lco_f2 (a1:=v) L
   simpa using h
 | error s=>
   rw [hE] at L h1
   cases h1
   exact lco_f1 L
theorem fco_c{n:Nat}{f:Form}{v:Int}(hl:f.1.length≤100000000):run n 22 [formV f,.lit (.int .i64 v)]=some (ratV (cof f.1 v)):=by
 have L:=loopG_E (O:=tab n) (P:= Tryz.prog) (m:=0) (N:=28) (lives:=livesOf 22) (r:=2) (C:=fco_C2) (L:=f.1) (f:=cofE v) (enc:=fun i _=>fco_h2 f v i) (exN:=.exit 0) (exE:=.ret) (out:=fun _=>fco_o2b) (outE:=fco_o2a) (Inv:=fun _ _=>True) () trivial (by omega) (fun h=>by cases h) (fun h=>by cases h)
  (fun i t s hi hI=>by
   obtain ⟨u,c⟩:=t
   have hlt:=(List.getElem?_eq_some_iff.1 hi).1
   unfold cofE
   by_cases e:u=v
   ·rw [if_pos e]
    exact fco_x2_1 (by omega) hi e
   ·rw [if_neg e]
    exact ⟨fco_r2_1 (by omega) hi e ⟨by omega,by omega⟩,trivial⟩)
  (fun b hI=>fco_x2_2 (by omega))
 obtain ⟨h1,h2⟩:=cofE_cof (v:=v) (l:=f.1) 0
 have L:=L.1
 cases hE:foldE (cofE v) 0 () f.1 with
 | ok s=>
   rw [hE] at L
   rw [h2 ⟨s,hE⟩]
   have h:=fco_f2 (a1:=v) L
   simpa using h
 | error s=>
   rw [hE] at L h1
   cases h1
   exact fco_f1 L
end
section
open Go.RowKit
attribute [local irreducible] run runL loopG exec
theorem foldI_fold{α β:Type}(g:β→α→β):∀(L:List α) (i:Nat) (b:β),foldI (fun _ b x=>g b x) i b L=L.foldl g b
 | [],_,_=>rfl
 | x::L,i,b=>by rw [foldI,foldI_fold g L];rfl
theorem srt_ok{f:Form}{vars:Int}(hs:Srt f.1)(hv:∀t∈f.1,0≤t.1∧t.1<vars):OkFm f vars:=fun i hi v c hx=>by
 obtain ⟨hlt,he⟩:=List.getElem?_eq_some_iff.1 hx
 have hm:=List.mem_of_getElem? hx
 refine ⟨(hv _ hm).1,(hv _ hm).2,hs.2 _ hm,fun v' c' h0 hy=>?_⟩
 obtain ⟨hlt2,he2⟩:=List.getElem?_eq_some_iff.1 hy
 have:=(List.pairwise_iff_getElem.1 hs.1) (i-1) i hlt2 hlt (by omega)
 rw [he,he2] at this
 exact this
theorem FB.ok{m:Nat}{f:Form}(h:FB m f){vars:Int}(hv:1099511627776≤vars):OkFm f vars:=srt_ok h.s fun t ht=>⟨(h.v t ht).1,by have:=(h.v t ht).2;omega⟩
theorem scl_len(F:List (Int × Rat))(c:Rat):(sclV F c).length≤F.length:=by
 induction F with
 | nil=>exact Nat.le_refl _
 | cons t F ih=>
   have e:sclV (t::F) c=put1 t.1 (t.2*c)++sclV F c:=rfl
   have h1:(put1 t.1 (t.2*c)).length≤1:=by unfold put1;split <;>simp
   rw [e,List.length_append,List.length_cons]
   omega
theorem FB.inr{m:Nat}{f:Form}(h:FB m f):InR 1099511627776 f.1:=fun t ht=>⟨(h.v t ht).1,by have:=(h.v t ht).2;omega⟩
theorem FB.scl{m k:Nat}{f:Form}{c:Rat}(h:FB m f)(hc:H c≤k):FB (m+k) (sclV f.1 c,f.2*c):=by
 refine ⟨(scl_srt h.s).1,⟨FH.scl h.h.1 hc,?_⟩,Nat.le_trans (scl_len _ _) h.l,fun t ht=>?_⟩
 ·have a:=H_mul f.2 c
  have b:=h.h.2
  show H (f.2*c)≤_
  omega
 ·have:=InR.scl (c:=c) h.inr t ht
  exact ⟨this.1,by have:=this.2;omega⟩
structure RB (m:Nat) (R:List Form):Prop where
 r:∀f∈R,FB m f∧f.1.length≤50
 n:R.length≤2500
theorem FB.comb{m:Nat}{v:Int}{f g:Form}(hf:FB m f)(hg:FB m g)(lf:f.1.length≤50)(lg:g.1.length≤50)(h1:1≤m):FB (4*m+1) (combF v f g):=by
 refine ⟨(comb_srt hf.s hg.s).1,FH.comb hf.s hg.s hf.h hg.h h1,?_,fun t ht=>?_⟩
 ·have a:=addV_len (sclV g.1 (cof f.1 v)) (sclV f.1 (-cof g.1 v))
  have b:=scl_len g.1 (cof f.1 v)
  have c:=scl_len f.1 (-cof g.1 v)
  show (addV (sclV f.1 (-cof g.1 v)) (sclV g.1 (cof f.1 v))).length≤100
  omega
 ·have:=InR.add (InR.scl (c:=-cof g.1 v) hf.inr) (InR.scl (c:=cof f.1 v) hg.inr) t ht
  exact ⟨this.1,by have:=this.2;omega⟩
def Bds(L:List Form):Prop:=∀g∈L,BdF 17179869184 g
theorem Bds.nil:Bds []:=fun g hg=>by cases hg
theorem Bds.col{m:Nat}{L:List Form}{f:Form}(hL:Bds L)(h:FB m f)(h1:1≤m)(hm:m≤5000):Bds (colF L f):=fun g hg=>by
 unfold colF at hg
 split at hg
 ·exact hL g hg
 split at hg
 ·exact hL g hg
 ·rcases List.mem_append.1 hg with h2|h2
  ·exact hL g h2
  ·rw [List.mem_singleton.1 h2]
   exact (h.norm h1).bd (by omega)
def stE(v:Int)(b:List Form × List Form × List Form)(f:Form):List Form × List Form × List Form:=
 if cof f.1 v=0 then (colF b.1 f,b.2.1,b.2.2) else if 0<cof f.1 v then (b.1,b.2.1++[f],b.2.2) else (b.1,b.2.1,b.2.2++[f])
theorem stE_fold(v:Int):∀(R:List Form) (o u d:List Form),R.foldl (stE v) (o,u,d)=((zeroL v R).foldl colF o,u++upL v R,d++downL v R)
 | [],o,u,d=>by simp [zeroL,upL,downL]
 | f::R,o,u,d=>by
   rw [List.foldl_cons]
   by_cases h0:cof f.1 v=0
   ·have e:stE v (o,u,d) f=(colF o f,u,d):=if_pos h0
    rw [e,stE_fold v R,zeroL_pos h0,upL_neg (by rw [h0];decide),downL_neg (by rw [h0];decide)];rfl
   ·rw [zeroL_neg h0]
    by_cases h1:0<cof f.1 v
    ·have e:stE v (o,u,d) f=(o,u++[f],d):=by unfold stE;rw [if_neg h0,if_pos h1]
     rw [e,stE_fold v R,upL_pos h1,downL_neg (by grind)];simp
    ·have e:stE v (o,u,d) f=(o,u,d++[f]):=by unfold stE;rw [if_neg h0,if_neg h1]
     rw [e,stE_fold v R,upL_neg h1,downL_pos (by grind)];simp
theorem elim_fold(v:Int)(R:List Form):(upL v R).foldl (fun b f=>(downL v R).foldl (fun b g=>colF b (combF v f g)) b) ((zeroL v R).foldl colF [])=elimF v R:=by
 unfold elimF allL
 rw [List.foldl_append]
 generalize (zeroL v R).foldl colF []=b
 generalize upL v R=U
 induction U generalizing b with
 | nil=>rfl
 | cons f U ih=>rw [List.foldl_cons,List.flatMap_cons,List.foldl_append,ih,List.foldl_map]
section
variable {n m : Nat} {R : List Form} {v : Int}
theorem fcan_c{vars:Int}(hB:Bds R)(hl:R.length≤100000):run (n+1) 44 [.sl 4 (R.map formC),.lit (.int .i64 vars)]=some (.lit (.bool (tv (∀f∈R,OkFm f vars)))):=by
 have X:=loopG_all (O:=tab (n+1)) (P:= Tryz.prog) (m:=0) (N:=18) (lives:=livesOf 44) (r:=2) (C:=fca_C2) (M:=R.length) (enc:=fun i=>fca_h2 R vars i) (p:=fun i=>tv (∀f,R[i]?=some f→OkFm f vars)) (exN:=.exit 0) (exE:=.ret) (out:=fca_o2b) (outE:=fca_o2a) (by omega) (by simp) (by simp)
  (fun i hi _=>by
   have hx:R[i]?=some R[i]:=List.getElem?_eq_getElem hi
   obtain ⟨g,hg⟩:∃g,R[i]=g:=⟨_,rfl⟩
   rw [hg] at hx
   obtain ⟨G,q⟩:=g
   have K:=lvalid_c (n:=n) (vars:=vars) (hB _ (List.mem_of_getElem? hx))
   refine ⟨fun hp=>fca_r2_1 (by omega) hx K (tv_t (tv_true hp _ hx)) ⟨by omega,by omega⟩,fun hp=>fca_x2_1 (by omega) hx K (tv_f fun h9=>tv_false hp fun f hf=>?_)⟩
   rw [hx] at hf;cases hf
   exact h9)
  (fca_x2_2 (by omega))
 by_cases h:∀f∈R,OkFm f vars
 ·rw [if_pos (fun i hi=>tv_t fun f hf=>h f (List.mem_of_getElem? hf))] at X
  rw [tv_t h]
  exact fca_f2 X
 ·rw [if_neg (fun h2=>h fun f hf=>by
   obtain ⟨i,hi⟩:=List.mem_iff_getElem?.1 hf
   exact tv_true (h2 i (List.getElem?_eq_some_iff.1 hi).1) f hi)] at X
  rw [tv_f h]
  exact fca_f1 X
theorem part_mem(hR:RB m R):(∀f∈upL v R,FB m f∧f.1.length≤50)∧(∀f∈downL v R,FB m f∧f.1.length≤50)∧(upL v R).length≤2500∧(downL v R).length≤2500:=by
 have:=part_len v R
 have:=hR.n
 exact ⟨fun f hf=>hR.r f (List.mem_filter.1 hf).1,fun f hf=>hR.r f (List.mem_filter.1 hf).1,by omega,by omega⟩
theorem pair_p{f g:Form}(hf:FB m f)(hg:FB m g)(lf:f.1.length≤50)(lg:g.1.length≤50)(h1:1≤m)(hm:m≤1200):
  ∃r s:Form,run (n+8) 37 [formV f,ratV (-cof g.1 v)]=some (formV r)∧run (n+8) 37 [formV g,ratV (cof f.1 v)]=some (formV s)∧run (n+8) 48 [formV r,formV s]=some (formV (combF v f g)):=by
 have c1:H (-cof g.1 v)≤m:=by rw [H_neg];exact cofH h1 hg.h.1
 have c2:H (cof f.1 v)≤m:=cofH h1 hf.h.1
 have r1:=hf.scl c1
 have r2:=hg.scl c2
 have K1:=pscl_c (n:=n+6) (f:=f) (c:=-cof g.1 v) (b:=m) hf.h.1 (by omega) (by have:=hf.h.2;omega) (by omega) (by omega)
 have K2:=pscl_c (n:=n+6) (f:=g) (c:=cof f.1 v) (b:=m) hg.h.1 (by omega) (by have:=hg.h.2;omega) (by omega) (by omega)
 rw [merge_scl] at K1 K2
 have K3:=padd_c (n:=n+6) (b:=m+m) r1.h.1 r2.h.1 (by omega) (by have:=r1.h.2;omega) (by have:=r2.h.2;omega) (by have:=r1.l;omega) (by have:=r2.l;omega)
 rw [merge_add r1.s r2.s,scl_one r2.s] at K3
 exact ⟨_,_,K1,K2,K3⟩
theorem pair_r{f g:Form}(hf:FB m f)(hg:FB m g)(lf:f.1.length≤50)(lg:g.1.length≤50)(h1:1≤m)(hm:m≤1200):
  ∃r s:Form,run (n+8) 41 [formV f,ratV (-cof g.1 v)]=some (formV r)∧run (n+8) 41 [formV g,ratV (cof f.1 v)]=some (formV s)∧run (n+8) 50 [formV r,formV s]=some (formV (combF v f g)):=by
 have c1:H (-cof g.1 v)≤m:=by rw [H_neg];exact cofH h1 hg.h.1
 have c2:H (cof f.1 v)≤m:=cofH h1 hf.h.1
 have r1:=hf.scl c1
 have r2:=hg.scl c2
 have K1:=scale_c (n:=n+7) (f:=f) (c:=-cof g.1 v) (hf.mono (k:=1000000) (by omega)).tm (by omega) (by have:=hf.h.2;omega) (by omega)
 have K2:=scale_c (n:=n+7) (f:=g) (c:=cof f.1 v) (hg.mono (k:=1000000) (by omega)).tm (by omega) (by have:=hg.h.2;omega) (by omega)
 have hl1:(sclV f.1 (-cof g.1 v)).length≤50:=Nat.le_trans (scl_len _ _) lf
 have hl2:(sclV g.1 (cof f.1 v)).length≤50:=Nat.le_trans (scl_len _ _) lg
 have K3:=add_c (n:=n+6) (m:=2400) (b:=2400) (r2.mono (by omega)).tm (by dsimp only;omega) (r1.mono (by omega)).tm (by dsimp only;omega) (by
  dsimp only
  have:(2400+1)*((sclV g.1 (cof f.1 v)).length+1)≤(2400+1)*51:=Nat.mul_le_mul_left _ (by omega)
  omega) (by have:=r1.h.2;omega) (by have:=r2.h.2;omega)
 exact ⟨_,_,K1,K2,K3⟩
theorem inner_p{up down o:List Form}{f:Form}{i0:Nat}(hf:FB m f∧f.1.length≤50)(hd:∀g∈down,FB m g∧g.1.length≤50)(hdl:down.length≤2500)(h1:1≤m)(hm:m≤1200)(ho:Vpos o)(hol:o.length≤7000000):
  loopG Tryz.prog (tab (n+9)) 0 93 (livesOf 17) 20 fel_C20 (fel_h20 v down up i0 0 o (seenM o) f.1 f.2 (cof f.1 v))=some (.exit 5,fel_o20a v down up i0 (down.foldl (fun b g=>colF b (combF v f g)) o) (seenM (down.foldl (fun b g=>colF b (combF v f g)) o)))∧(Vpos (down.foldl (fun b g=>colF b (combF v f g)) o)∧(down.foldl (fun b g=>colF b (combF v f g)) o).length≤o.length+down.length):=by
 have X:=loopG_I (O:=tab (n+9)) (P:= Tryz.prog) (m:=0) (N:=93) (lives:=livesOf 17) (r:=20) (C:=fel_C20) (exN:=.exit 5) (L:=down) (enc:=fun i b=>fel_h20 v down up i0 i b (seenM b) f.1 f.2 (cof f.1 v)) (f:=fun _ b (g:Form)=>colF b (combF v f g)) (Inv:=fun i b=>Vpos b∧b.length≤o.length+i) (out:=fun b=>fel_o20a v down up i0 b (seenM b)) o ⟨ho,by omega⟩ (by omega) (by simp)
  (fun i g b hi hI=>by
   obtain ⟨hI1,hI2⟩:=hI
   have hlt:=(List.getElem?_eq_some_iff.1 hi).1
   obtain ⟨hg,lg⟩:=hd g (List.mem_of_getElem? hi)
   obtain ⟨r,s,K1,K2,K3⟩:=pair_p (n:=n) (v:=v) hf.1 hg hf.2 lg h1 hm
   have hc:=FB.comb (v:=v) hf.1 hg hf.2 lg h1
   have Kc:=lco_c (n:=n+5) (v:=v) (hg.bd (k:=17179869184) (by omega))
   have hcH:H (cof g.1 v)≤17179869184:=Nat.le_trans (cofH h1 hg.h.1) (by omega)
   have hln:=col_len b (combF v f g)
   refine ⟨?_,hI1.col hc,by omega⟩
   rcases ladd_c (n:=n) hc (by omega) (by omega) hI1 (by omega) with ⟨e,K⟩|K
   ·rw [e]
    exact fel_r20_1 (by omega) hlt hi Kc hcH K1 K2 K3 K ⟨by omega,by omega⟩
   ·exact fel_r20_2 (by omega) hlt hi Kc hcH K1 K2 K3 K ⟨by omega,by omega⟩)
  (fun b hI=>fel_x20_1 (by omega))
 rw [foldI_fold] at X
 exact X
theorem outer_p{up down o:List Form}(hu:∀g∈up,FB m g∧g.1.length≤50)(hul:up.length≤2500)(hd:∀g∈down,FB m g∧g.1.length≤50)(hdl:down.length≤2500)(h1:1≤m)(hm:m≤1200)(ho:Vpos o)(hol:o.length≤2500):
  loopG Tryz.prog (tab (n+9)) 0 93 (livesOf 17) 16 fel_C16 (fel_h16 v down up 0 o (seenM o))=some (.exit 3,fel_o16a (up.foldl (fun b f=>down.foldl (fun b g=>colF b (combF v f g)) b) o) (seenM (up.foldl (fun b f=>down.foldl (fun b g=>colF b (combF v f g)) b) o))):=by
 have X:=loopG_I (O:=tab (n+9)) (P:= Tryz.prog) (m:=0) (N:=93) (lives:=livesOf 17) (r:=16) (C:=fel_C16) (exN:=.exit 3) (L:=up) (enc:=fun i b=>fel_h16 v down up i b (seenM b)) (f:=fun _ b (f:Form)=>down.foldl (fun b g=>colF b (combF v f g)) b) (Inv:=fun i b=>Vpos b∧b.length≤2500+i*2500) (out:=fun b=>fel_o16a b (seenM b)) o ⟨ho,by omega⟩ (by omega) (by simp)
  (fun i f b hi hI=>by
   obtain ⟨hI1,hI2⟩:=hI
   have hlt:=(List.getElem?_eq_some_iff.1 hi).1
   have hf:=hu f (List.mem_of_getElem? hi)
   have Kc:=lco_c (n:=n+5) (v:=v) (hf.1.bd (k:=17179869184) (by omega))
   obtain ⟨L5,a1,a2⟩:=inner_p (n:=n) (v:=v) (up:=up) (i0:=i) hf hd hdl h1 hm hI1 (by omega)
   exact ⟨fel_r16_1 (by omega) hlt hi Kc L5 ⟨by omega,by omega⟩,a1,by omega⟩)
  (fun b hI=>fel_x16_1 (by omega))
 rw [foldI_fold] at X
 exact X.1
theorem first_p(hR:RB m R)(h1:1≤m)(hm:m≤1200):
  loopG Tryz.prog (tab (n+9)) 0 93 (livesOf 17) 6 fel_C6 (fel_h6 R v [] [] 0 [] [])=some (.exit 0,fel_o6a v (upL v R) (downL v R) ((zeroL v R).foldl colF []) (seenM ((zeroL v R).foldl colF [])))∧Vpos ((zeroL v R).foldl colF [])∧((zeroL v R).foldl colF []).length≤2500:=by
 have hn:=hR.n
 have X:=loopG_I (O:=tab (n+9)) (P:= Tryz.prog) (m:=0) (N:=93) (lives:=livesOf 17) (r:=6) (C:=fel_C6) (exN:=.exit 0) (L:=R) (enc:=fun i (b:List Form × List Form × List Form)=>fel_h6 R v b.2.1 b.2.2 i b.1 (seenM b.1)) (f:=fun _ b f=>stE v b f) (Inv:=fun i b=>Vpos b.1∧b.1.length≤i∧b.2.1.length≤i∧b.2.2.length≤i) (out:=fun b=>fel_o6a v b.2.1 b.2.2 b.1 (seenM b.1)) ([],[],[]) ⟨Vpos.nil,by simp,by simp,by simp⟩ (by omega) (by simp)
  (fun i f b hi hI=>by
   obtain ⟨o,u,d⟩:=b
   obtain ⟨hI1,hI2,hI3,hI4⟩:=hI
   dsimp only at hI1 hI2 hI3 hI4
   have hlt:=(List.getElem?_eq_some_iff.1 hi).1
   obtain ⟨hf,lf⟩:=hR.r f (List.mem_of_getElem? hi)
   have Kc:=lco_c (n:=n+5) (v:=v) (hf.bd (k:=17179869184) (by omega))
   have hcH:H (cof f.1 v)≤17179869184:=Nat.le_trans (cofH h1 hf.h.1) (by omega)
   have hln:=col_len o f
   unfold stE
   dsimp only
   rcases sgR_three (cof f.1 v) with ⟨c1,c2⟩|⟨c1,c2⟩|⟨c1,c2⟩
   ·rw [if_neg (by grind),if_pos c1]
    exact ⟨fel_r6_3 (by omega) hi Kc hcH (by omega) c2 (by omega) ⟨by omega,by omega⟩,hI1,by dsimp only;omega,by simp;omega,by dsimp only;omega⟩
   ·rw [if_neg (by grind),if_neg (by grind)]
    exact ⟨fel_r6_4 (by omega) hi Kc hcH (by omega) (by omega) (by omega) ⟨by omega,by omega⟩,hI1,by dsimp only;omega,by dsimp only;omega,by simp;omega⟩
   ·rw [if_pos c1]
    refine ⟨?_,hI1.col hf,by dsimp only;omega,by dsimp only;omega,by dsimp only;omega⟩
    rcases ladd_c (n:=n) hf h1 (by omega) hI1 (by omega) with ⟨e,K⟩|K
    ·rw [e]
     exact fel_r6_1 (by omega) hi Kc hcH c2 K ⟨by omega,by omega⟩
    ·exact fel_r6_2 (by omega) hi Kc hcH c2 K ⟨by omega,by omega⟩)
  (fun b hI=>fel_x6_1 (by omega))
 rw [foldI_fold,stE_fold] at X
 obtain ⟨X1,X2,X3,_⟩:=X
 simp only [List.nil_append] at X1
 exact ⟨X1,X2,by dsimp only at X3;omega⟩
theorem RB.bds(hR:RB m R)(hm:m≤1200):Bds R:=fun f hf=>(hR.r f hf).1.bd (by omega)
theorem elim_c(hR:RB m R)(h1:1≤m)(hm:m≤1200)(hv:0≤v)(he:(elimF v R).length≤4096):
  run (n+9) 17 [.sl 4 (R.map formC),.lit (.int .i64 v)]=some (.tup [.sl 4 ((elimF v R).map formC),.lit (.int .i64 0)]):=by
 have K2:=fcan_c (n:=n+7) (vars:=4611686018427387904) (hR.bds hm) (by have:=hR.n;omega)
 obtain ⟨L4,a1,a2⟩:=first_p (n:=n) (v:=v) hR h1 hm
 obtain ⟨p1,p2,p3,p4⟩:=part_mem (v:=v) hR
 have L5:=outer_p (n:=n) (v:=v) p1 p3 p2 p4 h1 hm a1 a2
 rw [elim_fold] at L5
 exact fel_f4 (by omega) K2 (tv_t fun f hf=>(hR.r f hf).1.ok (by omega)) L4 L5 (by omega)
theorem elim_neg(hv:v<0):run (n+9) 17 [.sl 4 (R.map formC),.lit (.int .i64 v)]=some (.tup [.sl 4 (([]:List Form).map formC),.lit (.int .i64 1)]):=fel_f1 hv
theorem inner_r{up down o:List Form}{f:Form}{i0:Nat}(hi0:up[i0]?=some f)(hf:FB m f∧f.1.length≤50)(hd:∀g∈down,FB m g∧g.1.length≤50)(hdl:down.length≤2500)(h1:1≤m)(hm:m≤1200)(ho:Bds o)(hol:o.length≤7000000):
  loopG Tryz.prog (tab (n+9)) 0 103 (livesOf 18) 19 rel_C19 (rel_h19 v o up down i0 0)=some (.exit 5,rel_o19a v (down.foldl (fun b g=>colF b (combF v f g)) o) up down i0)∧(Bds (down.foldl (fun b g=>colF b (combF v f g)) o)∧(down.foldl (fun b g=>colF b (combF v f g)) o).length≤o.length+down.length):=by
 have hl0:=(List.getElem?_eq_some_iff.1 hi0).1
 have X:=loopG_I (O:=tab (n+9)) (P:= Tryz.prog) (m:=0) (N:=103) (lives:=livesOf 18) (r:=19) (C:=rel_C19) (exN:=.exit 5) (L:=down) (enc:=fun i b=>rel_h19 v b up down i0 i) (f:=fun _ b (g:Form)=>colF b (combF v f g)) (Inv:=fun i b=>Bds b∧b.length≤o.length+i) (out:=fun b=>rel_o19a v b up down i0) o ⟨ho,by omega⟩ (by omega) (by simp)
  (fun i g b hi hI=>by
   obtain ⟨hI1,hI2⟩:=hI
   have hlt:=(List.getElem?_eq_some_iff.1 hi).1
   obtain ⟨hg,lg⟩:=hd g (List.mem_of_getElem? hi)
   obtain ⟨r,s,K1,K2,K3⟩:=pair_r (n:=n) (v:=v) hf.1 hg hf.2 lg h1 hm
   have hc:=FB.comb (v:=v) hf.1 hg hf.2 lg h1
   have Kf:=fco_c (n:=n+8) (f:=f) (v:=v) (by have:=hf.2;omega)
   have Kg:=fco_c (n:=n+8) (f:=g) (v:=v) (by omega)
   have hcH:H (cof g.1 v)≤17179869184:=Nat.le_trans (cofH h1 hg.h.1) (by omega)
   have hln:=col_len b (combF v f g)
   refine ⟨?_,hI1.col hc (by omega) (by omega),by omega⟩
   rcases rcol_c (n:=n) hc (by omega) (by omega) hI1 (by omega) with ⟨e,K⟩|K
   ·rw [e]
    exact rel_r19_1 (by omega) hl0 hi0 Kf hlt hi Kg hcH K1 K2 K3 K ⟨by omega,by omega⟩
   ·exact rel_r19_2 (by omega) hl0 hi0 Kf hlt hi Kg hcH K1 K2 K3 K ⟨by omega,by omega⟩)
  (fun b hI=>rel_x19_1 (by omega))
 rw [foldI_fold] at X
 exact X
theorem outer_r{up down o:List Form}(hu:∀g∈up,FB m g∧g.1.length≤50)(hul:up.length≤2500)(hd:∀g∈down,FB m g∧g.1.length≤50)(hdl:down.length≤2500)(h1:1≤m)(hm:m≤1200)(ho:Bds o)(hol:o.length≤2500):
  loopG Tryz.prog (tab (n+9)) 0 103 (livesOf 18) 16 rel_C16 (rel_h16 v o up down 0)=some (.exit 3,rel_o16a (up.foldl (fun b f=>down.foldl (fun b g=>colF b (combF v f g)) b) o)):=by
 have X:=loopG_I (O:=tab (n+9)) (P:= Tryz.prog) (m:=0) (N:=103) (lives:=livesOf 18) (r:=16) (C:=rel_C16) (exN:=.exit 3) (L:=up) (enc:=fun i b=>rel_h16 v b up down i) (f:=fun _ b (f:Form)=>down.foldl (fun b g=>colF b (combF v f g)) b) (Inv:=fun i b=>Bds b∧b.length≤2500+i*2500) (out:=fun b=>rel_o16a b) o ⟨ho,by omega⟩ (by omega) (by simp)
  (fun i f b hi hI=>by
   obtain ⟨hI1,hI2⟩:=hI
   have hlt:=(List.getElem?_eq_some_iff.1 hi).1
   have hf:=hu f (List.mem_of_getElem? hi)
   obtain ⟨L5,a1,a2⟩:=inner_r (n:=n) (v:=v) hi hf hd hdl h1 hm hI1 (by omega)
   exact ⟨rel_r16_1 (by omega) L5 ⟨by omega,by omega⟩,a1,by omega⟩)
  (fun b hI=>rel_x16_1 (by omega))
 rw [foldI_fold] at X
 exact X.1
theorem first_r(hR:RB m R)(h1:1≤m)(hm:m≤1200):
  loopG Tryz.prog (tab (n+9)) 0 103 (livesOf 18) 5 rel_C5 (rel_h5 R v [] [] [] 0)=some (.exit 0,rel_o5b v ((zeroL v R).foldl colF []) (upL v R) (downL v R))∧Bds ((zeroL v R).foldl colF [])∧((zeroL v R).foldl colF []).length≤2500:=by
 have hn:=hR.n
 have X:=loopG_I (O:=tab (n+9)) (P:= Tryz.prog) (m:=0) (N:=103) (lives:=livesOf 18) (r:=5) (C:=rel_C5) (exN:=.exit 0) (L:=R) (enc:=fun i (b:List Form × List Form × List Form)=>rel_h5 R v b.1 b.2.1 b.2.2 i) (f:=fun _ b f=>stE v b f) (Inv:=fun i b=>Bds b.1∧b.1.length≤i∧b.2.1.length≤i∧b.2.2.length≤i) (out:=fun b=>rel_o5b v b.1 b.2.1 b.2.2) ([],[],[]) ⟨Bds.nil,by simp,by simp,by simp⟩ (by omega) (by simp)
  (fun i f b hi hI=>by
   obtain ⟨o,u,d⟩:=b
   obtain ⟨hI1,hI2,hI3,hI4⟩:=hI
   dsimp only at hI1 hI2 hI3 hI4
   have hlt:=(List.getElem?_eq_some_iff.1 hi).1
   obtain ⟨hf,lf⟩:=hR.r f (List.mem_of_getElem? hi)
   have Kv:=validF_c (n:=n+8) (vars:=1099511627776) (hf.bd (k:=17179869184) (by omega))
   have hok:tv (OkFm f 1099511627776)=true:=tv_t (hf.ok (by omega))
   have Kc:=fco_c (n:=n+8) (f:=f) (v:=v) (by omega)
   have hcH:H (cof f.1 v)≤17179869184:=Nat.le_trans (cofH h1 hf.h.1) (by omega)
   have hln:=col_len o f
   unfold stE
   dsimp only
   rcases sgR_three (cof f.1 v) with ⟨c1,c2⟩|⟨c1,c2⟩|⟨c1,c2⟩
   ·rw [if_neg (by grind),if_pos c1]
    exact ⟨rel_r5_3 (by omega) hi Kv hok Kc hcH (by omega) c2 (by omega) ⟨by omega,by omega⟩,hI1,by dsimp only;omega,by simp;omega,by dsimp only;omega⟩
   ·rw [if_neg (by grind),if_neg (by grind)]
    exact ⟨rel_r5_4 (by omega) hi Kv hok Kc hcH (by omega) (by omega) (by omega) ⟨by omega,by omega⟩,hI1,by dsimp only;omega,by dsimp only;omega,by simp;omega⟩
   ·rw [if_pos c1]
    refine ⟨?_,hI1.col hf h1 (by omega),by dsimp only;omega,by dsimp only;omega,by dsimp only;omega⟩
    rcases rcol_c (n:=n) hf h1 (by omega) hI1 (by omega) with ⟨e,K⟩|K
    ·rw [e]
     exact rel_r5_1 (by omega) hi Kv hok Kc hcH c2 K ⟨by omega,by omega⟩
    ·exact rel_r5_2 (by omega) hi Kv hok Kc hcH c2 K ⟨by omega,by omega⟩)
  (fun b hI=>rel_x5_2 (by omega))
 rw [foldI_fold,stE_fold] at X
 obtain ⟨X1,X2,X3,_⟩:=X
 simp only [List.nil_append] at X1
 exact ⟨X1,X2,by dsimp only at X3;omega⟩
theorem relim_c(hR:RB m R)(h1:1≤m)(hm:m≤1200)(hv:0≤v)(he:(elimF v R).length≤4096):
  run (n+9) 18 [.sl 4 (R.map formC),.lit (.int .i64 v)]=some (.tup [.sl 4 ((elimF v R).map formC),.lit (.int .i64 0)]):=by
 obtain ⟨L4,a1,a2⟩:=first_r (n:=n) (v:=v) hR h1 hm
 obtain ⟨p1,p2,p3,p4⟩:=part_mem (v:=v) hR
 have L5:=outer_r (n:=n) (v:=v) p1 p3 p2 p4 h1 hm a1 a2
 rw [elim_fold] at L5
 exact rel_f4 (by omega) L4 L5 (by omega)
theorem relim_neg(hv:v<0):run (n+9) 18 [.sl 4 (R.map formC),.lit (.int .i64 v)]=some (.tup [.sl 4 (([]:List Form).map formC),.lit (.int .i64 1)]):=rel_f1 hv
end
end
section
open Go.RowKit
attribute [local irreducible] run runL loopG exec
theorem fea_sm{n:Nat}{L:List Form}(hl:L.length≤100000000)(hB:∀f∈L,BdF 17179869184 f):run (n+1) 19 [.sl 4 (L.map formC),.sl 4 (L.map formC)]=some (.lit (.bool true)):=by
 refine fea_f3 rfl (loopG_I (O:=tab (n+1)) (P:= Tryz.prog) (m:=0) (N:=27) (lives:=livesOf 19) (r:=4) (C:=fea_C4) (L:=L) (f:=fun _ (b:Unit) _=>b) (enc:=fun i _=>fea_h4 L L i) (exN:=.exit 0) (out:=fun _=>fea_o4b) (Inv:=fun _ _=>True) () trivial (by omega) (by simp)
  (fun i f b hi hI=>by
   have hlt:=(List.getElem?_eq_some_iff.1 hi).1
   have hf:=hB f (List.mem_of_getElem? hi)
   have K:=feq_c (n:=n) hf hf
   rw [tv_t rfl] at K
   exact ⟨fea_r4_1 (by omega) hi hi K rfl ⟨by omega,by omega⟩,trivial⟩)
  (fun b hI=>fea_x4_2 (by omega))).1
theorem elim_fb{m:Nat}{v:Int}{R:List Form}(hR:RB m R)(h1:1≤m):∀f∈elimF v R,FB (8*m+2) f:=fun n hn=>by
 obtain ⟨e,he,rfl⟩:=norm_mem hn
 have key:FB (4*m+1) e:=by
  rcases List.mem_append.1 he with h2|h2
  ·exact (hR.r e (List.mem_filter.1 h2).1).1.mono (by omega)
  ·obtain ⟨f,h3,h4⟩:=List.mem_flatMap.1 h2
   obtain ⟨g,h5,rfl⟩:=List.mem_map.1 h4
   obtain ⟨a1,a2⟩:=hR.r f (List.mem_filter.1 h3).1
   obtain ⟨b1,b2⟩:=hR.r g (List.mem_filter.1 h5).1
   exact FB.comb a1 b1 a2 b2 h1
 exact (key.norm (by omega)).mono (by omega)
theorem few_rb{L:List FormR}(h:(L.length:Int)≤7∧∀f∈L,SmR f):RB 2 (L.map unR)∧(L.map unR).length≤7:=by
 have hs:=(SmR.all h.2).2
 have hl:(L.map unR).length≤7:=by rw [List.length_map];omega
 exact ⟨⟨fun f hf=>⟨(hs f hf).fb,by have:=(hs f hf).l;omega⟩,by omega⟩,hl⟩
theorem le_law{n:Nat}{a0:List FormR}{v:Int}(hl:a0.length≤1000000000)(hB:∀f∈a0,RawF f):leR n [.sl 4 (a0.map formRC),.lit (.int .i64 v)]=some (.lit (.bool true)):=by
 have K1:=few3_c (n:=n+9) hl hB
 by_cases hf:(a0.length:Int)≤7∧∀f∈a0,SmR f
 ·rw [tv_t hf] at K1
  obtain ⟨hR,hR7⟩:=few_rb hf
  have e:=(SmR.all hf.2).1
  by_cases hv:v<0
  ·have K3:=elim_neg (n:=n+3) (R:=a0.map unR) hv
   have K4:=relim_neg (n:=n+3) (R:=a0.map unR) hv
   rw [←e] at K3 K4
   exact leR_f2 K1 rfl K3 K4 rfl (fea_sm (n:=n+11) (L:=[]) (by simp) (fun f hf=>by cases hf))
  ·have h4:=elim_len4 (v:=v) hR7 (by omega)
   have K3:=elim_c (n:=n+3) (v:=v) hR (by omega) (by omega) (by omega) (by omega)
   have K4:=relim_c (n:=n+3) (v:=v) hR (by omega) (by omega) (by omega) (by omega)
   rw [←e] at K3 K4
   exact leR_f2 K1 rfl K3 K4 rfl (fea_sm (n:=n+11) (by omega) (fun f hf=>(elim_fb hR (by omega) f hf).bd (by omega)))
 ·rw [tv_f hf] at K1
  exact leR_f1 K1 rfl
end
section
open Go.ChangeShapes Go.WideShapes Go.RowKit Go.Deep
theorem okQ32{N:Nat}{r:Raw}(h:okRaw N r)(hN:N≤1048576):RawB r:=⟨h.1.1,h.2.1,by have:=h.1.2;omega,by have:=h.2.2;omega⟩
theorem okF32{N:Nat}{f:FormR}(h:okO_Affine N f)(hN:N≤1048576):RawF f:=⟨fun t ht=>okQ32 (h.1.2 t ht).2 hN,okQ32 h.2 hN⟩
theorem le_use(w:World){v0:Value}{l:List FormR}{z:Int}{N:Nat}(r0:RepT w okT (.sl 4 (l.map formRC)) v0)(k0:okO_LAffine N l)(hN:N≤1048576)(hG:Glob w okT):
  Calls Tryz.prog 4 #[v0,.int .i64 z] w (RetB true w):=
 (leR_con (le_law (n:=0) (by have:=k0.1;omega) (fun f hf=>okF32 (k0.2 f hf) hN)) w okT _ hG (rvs_cons r0 (rvs_cons (.lit _) rvs_nil))).mono fun _ _ h=>true_end h
end
end Go.Proofs.YtdaonnnlgfhlaaaGreatDoor
