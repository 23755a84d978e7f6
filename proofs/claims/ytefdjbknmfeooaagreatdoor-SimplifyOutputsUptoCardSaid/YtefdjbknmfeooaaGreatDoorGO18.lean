import Derived.Test.YtefdjbknmfeooaaGreatDoorGO16
import Derived.Test.YtefdjbknmfeooaaGreatDoorGO17
set_option linter.all false
set_option maxHeartbeats 6400000
set_option maxRecDepth 100000
namespace Go.Proofs.YtefdjbknmfeooaaGreatDoor
open Go.RowKit
noncomputable def fco_C2:Code:=(loopsOf (bodyOf Tryz.f85)).getD 0 .skip
def fco_h2(a0:Form)(a1:Int)(i_2:Nat):St:=
 ⟨[(1,.lit (.int .i64 a1)),(2,.ptr 0 0),(4,.ptr 1 0),(5,.lit (.int .i64 (i_2:Int)))],
  [(0,some (.box 45 [.sl 4 (a0.1.map termC),.lit (.bool (rawQ a0.2).s),natA (rawQ a0.2).l1,natA (rawQ a0.2).l2] false)),
   (1,some (.box 34 [.lit (.bool false),.nl 1,.nl 1] false))],2⟩
def fco_o2a(q3:Rat):St:=
 ⟨[(4,.ptr 0 0)],
  [(0,some (.box 34 [.lit (.bool (rawQ q3).s),natA (rawQ q3).l1,natA (rawQ q3).l2] false))],1⟩
def fco_o2b:St:=
 ⟨[(4,.ptr 0 0)],
  [(0,some (.box 34 [.lit (.bool false),.nl 1,.nl 1] false))],1⟩
section
variable {n : Nat} {v3 : Int} {a1 : Int} {i_2 : Nat} {q3 : Rat} {a0 : Form}
theorem fco_r2_1(C1:(i_2:Int)<(a0.1.length:Int))(E2:a0.1[i_2]?=some (v3,q3))(C3:¬v3=a1)(W4:InI ((i_2:Int)+1)):
  Cont 0 (exec Tryz.prog (tab n) 0 28 (livesOf 85) big fco_C2) (livesOf 85 2) (fco_h2 a0 a1 i_2) (fco_h2 a0 a1 (i_2+1)):=by
 have C1_:i_2<a0.1.length:=by omega
 obtain ⟨EL2,EG2⟩:=List.getElem?_eq_some_iff.1 E2
 have C3_:(v3==a1)=false:=by simpa using C3
 have C3_n:(v3 !=a1)=true:=by simpa using C3
 have W4_:IntKind.i64.wrap ((i_2:Int)+1)=(i_2:Int)+1:=wr64 W4.1 W4.2
 unfold Cont
 simp+decide [fco_h2,loopsOf, Tryz.f85,fco_C2,C1,C1_,EL2,EG2,E2,C3_,C3_n,W4_]
theorem fco_x2_1(C1:(i_2:Int)<(a0.1.length:Int))(E2:a0.1[i_2]?=some (v3,q3))(C3:v3=a1):
  Leave 0 (exec Tryz.prog (tab n) 0 28 (livesOf 85) big fco_C2) (livesOf 85 (outOf 2)) (fco_h2 a0 a1 i_2) (.ret) (fco_o2a q3):=by
 have C1_:i_2<a0.1.length:=by omega
 obtain ⟨EL2,EG2⟩:=List.getElem?_eq_some_iff.1 E2
 have C3_:(v3==a1)=true:=by rw [C3];simp
 have C3_n:(v3 !=a1)=false:=by rw [C3];simp
 unfold Leave
 simp+decide [fco_h2,loopsOf, Tryz.f85,fco_o2a,fco_C2,C1,C1_,EL2,EG2,E2,C3_,C3_n]
theorem fco_x2_2(C1:¬(i_2:Int)<(a0.1.length:Int)):
  Leave 0 (exec Tryz.prog (tab n) 0 28 (livesOf 85) big fco_C2) (livesOf 85 (outOf 2)) (fco_h2 a0 a1 i_2) (.exit 0) (fco_o2b):=by
 have C1_:¬i_2<a0.1.length:=by omega
 unfold Leave
 simp+decide [fco_h2,loopsOf, Tryz.f85,fco_o2b,fco_C2,C1,C1_]
theorem fco_f1(L1:loopG Tryz.prog (tab n) 0 28 (livesOf 85) 2 fco_C2 (fco_h2 a0 a1 0)=some (.ret,fco_o2a q3)):
  run n 85 [formV a0,.lit (.int .i64 a1)]=some (ratV q3):=by
 unfold run fnP
 simp+decide [Tryz.f85]
 rw [loopX_G (C':=fco_C2) (e:=(fco_h2 a0 a1 0)) ?_ ?_,L1]
 rotate_left
 ·kernel_rfl
 ·simp+decide [fco_h2]
 simp+decide [fco_o2a]
theorem fco_f2(L1:loopG Tryz.prog (tab n) 0 28 (livesOf 85) 2 fco_C2 (fco_h2 a0 a1 0)=some (.exit 0,fco_o2b)):
  run n 85 [formV a0,.lit (.int .i64 a1)]=some (.agg [.lit (.bool false),.sl 1 [],.sl 1 []]):=by
 unfold run fnP
 simp+decide [Tryz.f85]
 rw [loopX_G (C':=fco_C2) (e:=(fco_h2 a0 a1 0)) ?_ ?_,L1]
 rotate_left
 ·kernel_rfl
 ·simp+decide [fco_h2]
 simp+decide [fco_o2b]
end
section
attribute [local irreducible] run runL loopG exec
def cofE(v:Int)(_:Nat)(_:Unit)(t:Int × Rat):Except Rat Unit:=if t.1=v then .error t.2 else .ok ()
theorem cofE_cof{v:Int}:∀{l:List (Int × Rat)} (i:Nat),foldE (cofE v) i () l=(match foldE (cofE v) i () l with|.ok _=>.ok ()|.error _=>.error (cof l v))∧((∃u,foldE (cofE v) i () l=.ok u)→cof l v=0)
 | [],i=>⟨rfl,fun _=>rfl⟩
 | t::l,i=>by
   obtain ⟨h1,h2⟩:=cofE_cof (v:=v) (l:=l) (i+1)
   by_cases e:t.1=v
   ·have e1:cofE v i () t=.error t.2:=if_pos e
    have e2:foldE (cofE v) i () (t::l)=.error t.2:=by rw [foldE,e1]
    rw [e2]
    exact ⟨by rw [cof,if_pos e],fun ⟨u,h⟩=>by cases h⟩
   ·have e1:cofE v i () t=.ok ():=if_neg e
    have e2:foldE (cofE v) i () (t::l)=foldE (cofE v) (i+1) () l:=by rw [foldE,e1]
    have e3:cof (t::l) v=cof l v:=by rw [cof,if_neg e]
    rw [e2,e3]
    exact ⟨h1,h2⟩
theorem cof_H{b:Nat}{l:List (Int × Rat)}{v:Int}(h:∀t∈l,H t.2≤b)(hb:1≤b):H (cof l v)≤b:=by
 induction l with
 | nil=>rw [cof_nil,H_zero];exact hb
 | cons t l ih=>
   rw [cof]
   split
   ·exact h t (by simp)
   ·exact ih fun u hu=>h u (by simp [hu])
theorem fco_c{n:Nat}{f:Form}{v:Int}(hl:f.1.length≤100000000):run n 85 [formV f,.lit (.int .i64 v)]=some (ratV (cof f.1 v)):=by
 have L:=loopG_E (O:=tab n) (P:= Tryz.prog) (m:=0) (N:=28) (lives:=livesOf 85) (r:=2) (C:=fco_C2) (L:=f.1) (f:=cofE v) (enc:=fun i _=>fco_h2 f v i) (exN:=.exit 0) (exE:=.ret) (out:=fun _=>fco_o2b) (outE:=fco_o2a) (Inv:=fun _ _=>True) () trivial (by omega) (fun h=>by cases h) (fun h=>by cases h)
  (fun i t s hi hI=>by
   obtain ⟨u,c⟩:=t
   have hlt:=(List.getElem?_eq_some_iff.1 hi).1
   unfold cofE
   by_cases e:u=v
   ·rw [if_pos e]
    exact fco_x2_1 (by omega) hi e
   ·rw [if_neg e]
    exact ⟨fco_r2_1 (by omega) hi e ⟨by omega,by omega⟩,trivial⟩)
  (fun b hI=>fco_x2_2 (by omega))
 obtain ⟨h1,h2⟩:=cofE_cof (v:=v) (l:=f.1) 0
 have L:=L.1
 cases hE:foldE (cofE v) 0 () f.1 with
 | ok s=>
   rw [hE] at L
   rw [h2 ⟨s,hE⟩]
   have h:=fco_f2 (a1:=v) L
   simpa using h
 | error s=>
   rw [hE] at L h1
   cases h1
   exact fco_f1 L
def lowV(v u:Int):Int:=if v<u then u-1 else u
def lowT(v:Int)(F:List (Int × Rat)):List (Int × Rat):=F.map fun t=>(lowV v t.1,t.2)
def rpF(v:Int)(b f:Form):Form:=(lowT v (addV (rst f.1 v) (sclV b.1 (cof f.1 v))),f.2+b.2*cof f.1 v)
theorem lowV_lt{v a b:Int}(h:a<b)(ha:a≠v)(hb:b≠v):lowV v a<lowV v b:=by
 unfold lowV;split <;>split <;>omega
theorem lowV_inj{v a b:Int}(h:lowV v a=lowV v b)(ha:a≠v)(hb:b≠v):a=b:=by
 unfold lowV at h;split at h <;>split at h <;>omega
theorem lowT_srt{v:Int}{F:List (Int × Rat)}(h:Srt F)(hv:∀t∈F,t.1≠v):Srt (lowT v F):=by
 refine ⟨?_,fun t ht=>?_⟩
 ·unfold lowT
  rw [List.pairwise_map]
  exact h.1.imp_of_mem fun ha hb hab=>lowV_lt hab (hv _ ha) (hv _ hb)
 ·obtain ⟨u,hu,rfl⟩:=List.mem_map.1 ht
  exact h.2 u hu
theorem lowT_in{v:Int}{k:Nat}{F:List (Int × Rat)}(h:InR (k+1) F)(h0:0≤v)(h1:v≤(k:Int))(hv:∀t∈F,t.1≠v):InR k (lowT v F):=fun t ht=>by
 obtain ⟨u,hu,rfl⟩:=List.mem_map.1 ht
 have a:=h u hu
 have b:=hv u hu
 show 0≤lowV v u.1∧lowV v u.1<(k:Int)
 unfold lowV
 split <;>omega
theorem lowT_id{v:Int}:∀{F:List (Int × Rat)},(∀t∈F,t.1≤v)→lowT v F=F
 | [],_=>rfl
 | t::F,h=>by
   have e:lowV v t.1=t.1:=if_neg (by have:=h t (by simp);omega)
   show (lowV v t.1,t.2)::lowT v F=t::F
   rw [e,lowT_id fun u hu=>h u (by simp [hu])]
theorem cof_in{F:List (Int × Rat)}{t:Int × Rat}(h:Srt F)(ht:t∈F):cof F t.1=t.2:=by
 induction F with
 | nil=>cases ht
 | cons u F ih=>
   rcases List.mem_cons.1 ht with rfl|ht
   ·exact cof_hd rfl
   ·have:=h.head t ht
    rw [cof_tl (by omega),ih h.tail ht]
theorem no_cof{v:Int}{F:List (Int × Rat)}(h:Srt F)(hc:cof F v=0):∀t∈F,t.1≠v:=fun t ht e=>
 h.2 t ht (by rw [←cof_in h ht,e];exact hc)
theorem rp_no{v:Int}{b f:Form}(hf:Srt f.1)(hb:Srt b.1)(hv:∀t∈b.1,t.1≠v):∀t∈addV (rst f.1 v) (sclV b.1 (cof f.1 v)),t.1≠v:=by
 obtain ⟨a1,a2⟩:=add_srt (rst_srt (v:=v) hf) (scl_srt (c:=cof f.1 v) hb).1
 refine no_cof a1 ?_
 rw [a2,rst_cof,if_pos rfl,(scl_srt hb).2,cof_low hv];grind
structure Bef (v:Int) (b:Form):Prop where
 s:Srt b.1
 r:∀t∈b.1,0≤t.1∧t.1<v
theorem Bef.ne{v:Int}{b:Form}(h:Bef v b):∀t∈b.1,t.1≠v:=fun t ht=>by have:=h.r t ht;omega
theorem rp_srt{v:Int}{b f:Form}(hf:Srt f.1)(hb:Bef v b):Srt (rpF v b f).1:=
 lowT_srt (add_srt (rst_srt hf) (scl_srt hb.s).1).1 (rp_no hf hb.s hb.ne)
theorem rp_in{v:Int}{k:Nat}{b f:Form}(hf:Srt f.1)(hi:InR (k+1) f.1)(hb:Bef v b)(h0:0≤v)(h1:v≤(k:Int)):InR k (rpF v b f).1:=
 lowT_in (hi.rst.add (InR.scl fun t ht=>by have:=hb.r t ht;omega)) h0 h1 (rp_no hf hb.s hb.ne)
theorem evV_s(X:List Rat)(f:Form):evV X f=f.2+evS X f.1:=evS_fold X f.1 f.2
theorem evS_ap{X R:List Rat}:∀{F:List (Int × Rat)},InR X.length F→evS (X++R) F=evS X F
 | [],_=>rfl
 | t::F,h=>by
   have a:=h t (by simp)
   have e:(X++R).getD t.1.toNat 0=X.getD t.1.toNat 0:=by
    rw [List.getD_eq_getElem?_getD,List.getD_eq_getElem?_getD,List.getElem?_append_left (by omega)]
   rw [evS,evS,e,evS_ap fun u hu=>h u (by simp [hu])]
theorem evV_ap{X R:List Rat}{f:Form}(h:InR X.length f.1):evV (X++R) f=evV X f:=by rw [evV_s,evV_s,evS_ap h]
theorem evS_rs{X:List Rat}{v:Int}:∀{F:List (Int × Rat)},Srt F→evS X F=evS X (rst F v)+cof F v*X.getD v.toNat 0
 | [],_=>by
   have e:rst [] v=[]:=rfl
   rw [e,cof_nil,evS];grind
 | t::F,h=>by
   have ih:=evS_rs (X:=X) (v:=v) h.tail
   by_cases e:t.1=v
   ·have e2:cof F v=0:=h.head.cof (by omega)
    rw [evS,ih,rst_eq e,cof_hd e.symm,e2,e];grind
   ·rw [evS,ih,rst_ne e,cof_tl (by omega),evS];grind
theorem getD_er{X:List Rat}{v u:Int}(h0:0≤v)(hu:0≤u)(hn:u≠v):(X.eraseIdx v.toNat).getD (lowV v u).toNat 0=X.getD u.toNat 0:=by
 rw [List.getD_eq_getElem?_getD,List.getD_eq_getElem?_getD,List.getElem?_eraseIdx]
 unfold lowV
 by_cases c:v<u
 ·rw [if_pos c,if_neg (by omega),show (u-1).toNat+1=u.toNat from by omega]
 ·rw [if_neg c,if_pos (by omega)]
theorem evS_low{X:List Rat}{v:Int}(h0:0≤v):∀{F:List (Int × Rat)},(∀t∈F,0≤t.1∧t.1≠v)→evS (X.eraseIdx v.toNat) (lowT v F)=evS X F
 | [],_=>rfl
 | t::F,h=>by
   have ht:=h t (by simp)
   show t.2*(X.eraseIdx v.toNat).getD (lowV v t.1).toNat 0+evS (X.eraseIdx v.toNat) (lowT v F)=t.2*X.getD t.1.toNat 0+evS X F
   rw [evS_low h0 fun u hu=>h u (by simp [hu]),getD_er h0 ht.1 ht.2]
theorem evV_rp{X:List Rat}{v:Int}{b f:Form}(hf:Srt f.1)(hf0:∀t∈f.1,0≤t.1)(hb:Bef v b)(h0:0≤v)(h:cof f.1 v=0∨X.getD v.toNat 0=evV X b):evV (X.eraseIdx v.toNat) (rpF v b f)=evV X f:=by
 have hn:∀t∈addV (rst f.1 v) (sclV b.1 (cof f.1 v)),0≤t.1∧t.1≠v:=fun t ht=>⟨by
  have hi:∃k:Nat,InR k (addV (rst f.1 v) (sclV b.1 (cof f.1 v))):=by
   obtain ⟨k,hk⟩:∃k:Nat,InR k f.1:=by
    clear h
    generalize f.1=F at hf0
    induction F with
    | nil=>exact ⟨0,fun t ht=>by cases ht⟩
    | cons u F ih=>
      obtain ⟨k,hk⟩:=ih fun t ht=>hf0 t (by simp [ht])
      refine ⟨k+u.1.toNat+1,fun t ht=>?_⟩
      rcases List.mem_cons.1 ht with rfl|ht
      ·have:=hf0 t (by simp);omega
      ·have:=hk t ht;omega
   exact ⟨k+v.toNat,InR.add (fun t ht=>by have:=hk t (rst_mem ht);omega) (InR.scl fun t ht=>by have:=hb.r t ht;omega)⟩
  obtain ⟨k,hk⟩:=hi
  exact (hk t ht).1,rp_no hf hb.s hb.ne t ht⟩
 rw [evV_s,evV_s]
 show f.2+b.2*cof f.1 v+evS _ (lowT v _)=_
 rw [evS_low h0 hn,evS_add (rst_srt hf) (scl_srt hb.s).1,evS_scl,evS_rs (v:=v) hf]
 rcases h with h|h
 ·rw [h];grind
 ·rw [h,evV_s];grind
theorem srt_len:∀{F:List (Int × Rat)} {a k:Int},Srt F→(∀t∈F,a≤t.1∧t.1<k)→F.length≤(k-a).toNat
 | [],_,_,_,_=>Nat.zero_le _
 | t::F,a,k,h,hr=>by
   have ht:=hr t (by simp)
   have ih:=srt_len (a:=t.1+1) (k:=k) h.tail fun u hu=>⟨by have:=h.head u hu;omega,(hr u (by simp [hu])).2⟩
   rw [List.length_cons];omega
theorem inr_len{F:List (Int × Rat)}{k:Nat}(h:Srt F)(hr:InR k F):F.length≤k:=by
 have:=srt_len (a:=0) (k:=k) h hr
 omega
def HB(m:Nat)(f:Form):Prop:=TmB m f.1∧H f.2≤m
theorem HB.mono{m n:Nat}{f:Form}(h:HB m f)(hn:m≤n):HB n f:=⟨h.1.mono hn,Nat.le_trans h.2 hn⟩
theorem rp_hb{m:Nat}{v:Int}{b f:Form}(hf:HB m f)(hb:b.1=[]∨∃k,b.1=[(k,1)])(hb2:H b.2≤m)(h1:1≤m):HB (3*m+2) (rpF v b f):=by
 have hc:H (cof f.1 v)≤m:=cof_H (fun t ht=>(hf.1 t ht).2) h1
 have a1:=H_add f.2 (b.2*cof f.1 v)
 have a2:=H_mul b.2 (cof f.1 v)
 have a3:=hf.2
 have hR:TmB m (rst f.1 v):=fun t ht=>hf.1 t (rst_mem ht)
 have hT:TmB (3*m+2) (addV (rst f.1 v) (sclV b.1 (cof f.1 v))):=by
  rcases hb with e|⟨k,e⟩
  ·rw [e];exact hR.mono (by omega)
  ·rw [e]
   have hs:TmB (1+m) (sclV [(k,1)] (cof f.1 v)):=TmB.scl (fun t ht=>by rw [List.mem_singleton.1 ht];exact ⟨by show (1:Rat)≠0;decide,by show H 1≤1;decide+kernel⟩) hc
   have hl:=sclV_len (cof f.1 v) [(k,1)]
   have h4:=hR.add hs
   refine h4.mono ?_
   have h5:(1+m+1)*(sclV [(k,1)] (cof f.1 v)).length≤(1+m+1)*1:=Nat.mul_le_mul_left _ hl
   omega
 refine ⟨fun t ht=>?_,?_⟩
 ·obtain ⟨u,hu,rfl⟩:=List.mem_map.1 (show t∈lowT v _ from ht)
  exact hT u hu
 ·show H (f.2+b.2*cof f.1 v)≤_
  omega
def hasV(f:Form)(v:Int):Prop:=∃t∈f.1,t.1=v
theorem has_cof{f:Form}{v:Int}(h:Srt f.1):hasV f v↔cof f.1 v≠0:=
 ⟨fun ⟨t,ht,e⟩ hc=>no_cof h hc t ht e,fun hc=>by
  false_or_by_contra
  rename_i h2
  exact hc (cof_low fun t ht e=>h2 ⟨t,ht,e⟩)⟩
theorem has_rp{v u:Int}{f:Form}(hn:u≠v):hasV (rpF v ([],0) f) (lowV v u)↔hasV f u:=by
 have e:(rpF v ([],0) f).1=lowT v (rst f.1 v):=rfl
 unfold hasV
 rw [e]
 constructor
 ·rintro ⟨t,ht,e2⟩
  obtain ⟨w,hw,rfl⟩:=List.mem_map.1 ht
  have hwv:w.1≠v:=of_decide_eq_true (List.mem_filter.1 hw).2
  exact ⟨w,rst_mem hw,lowV_inj e2 hwv hn⟩
 ·rintro ⟨t,ht,rfl⟩
  exact ⟨(lowV v t.1,t.2),List.mem_map.2 ⟨t,List.mem_filter.2 ⟨ht,decide_eq_true hn⟩,rfl⟩,rfl⟩
def hbd(u:Nat):Nat:=3 ^ (9-u)-1
theorem hbd_step{u:Nat}(h:u+1≤8):3*hbd (u+1)+2=hbd u:=by
 unfold hbd
 have e:9-u=(9-(u+1))+1:=by omega
 rw [e,Nat.pow_succ]
 have:=Nat.pow_pos (n:=9-(u+1)) (show 0<3 by omega)
 omega
theorem hbd_two{u:Nat}(h:u≤8):2≤hbd u:=by
 unfold hbd
 have e:9-u=(8-u)+1:=by omega
 rw [e,Nat.pow_succ]
 have:=Nat.pow_pos (n:=8-u) (show 0<3 by omega)
 omega
theorem hbd_top(u:Nat):hbd u≤19682:=by
 unfold hbd
 have:=Nat.pow_le_pow_right (show 0<3 by omega) (show 9-u≤9 by omega)
 omega
theorem hbd_txt{u:Nat}(h:1≤u):hbd u≤6560:=by
 unfold hbd
 have:=Nat.pow_le_pow_right (show 0<3 by omega) (show 9-u≤8 by omega)
 omega
structure SG (g:TGraph):Prop where
 i0:0≤g.Inputs
 i1:g.Inputs≤8
 u:g.Units.length≤8
 o1:g.Outputs.length≤8
 us:∀(i:Nat) (f:Form),g.Units[i]?=some f→Srt f.1∧InR (g.Inputs.toNat+i) f.1
 os:∀f∈g.Outputs,Srt f.1∧InR (g.Inputs.toNat+g.Units.length) f.1
 hu:∀f∈g.Units,HB (hbd g.Units.length) f
 ho:∀f∈g.Outputs,HB (hbd g.Units.length) f
def rpG(g:TGraph)(j:Nat)(b:Form):TGraph:=⟨g.Inputs,g.Units.take j++(g.Units.drop (j+1)).map (rpF (g.Inputs+(j:Int)) b),g.Outputs.map (rpF (g.Inputs+(j:Int)) b)⟩
structure ByOk (g:TGraph) (j:Nat) (b:Form):Prop where
 s:b.1=[]∨∃k:Nat,k<j∧b.1=[(g.Inputs+(k:Int),1)]
 h:H b.2≤hbd g.Units.length
theorem rpG_len{g:TGraph}{j:Nat}{b:Form}(hj:j<g.Units.length):(rpG g j b).Units.length+1=g.Units.length:=by
 show (g.Units.take j++(g.Units.drop (j+1)).map (rpF (g.Inputs+(j:Int)) b)).length+1=_
 rw [List.length_append,List.length_take,List.length_map,List.length_drop];omega
theorem rpG_olen(g:TGraph)(j:Nat)(b:Form):(rpG g j b).Outputs.length=g.Outputs.length:=List.length_map _
theorem rpG_get{g:TGraph}{j:Nat}{b:Form}(hj:j<g.Units.length)(i:Nat):(rpG g j b).Units[i]?=if i<j then g.Units[i]? else (g.Units[i+1]?).map (rpF (g.Inputs+(j:Int)) b):=by
 show (g.Units.take j++(g.Units.drop (j+1)).map (rpF (g.Inputs+(j:Int)) b))[i]?=_
 rw [List.getElem?_append,List.length_take,Nat.min_eq_left (by omega)]
 by_cases c:i<j
 ·rw [if_pos c,if_pos c,List.getElem?_take,if_pos c]
 ·rw [if_neg c,if_neg c,List.getElem?_map,List.getElem?_drop,show j+1+(i-j)=i+1 from by omega]
theorem srt_1{v:Int}:Srt [(v,(1:Rat))]:=⟨by simp,fun t ht=>by rw [List.mem_singleton.1 ht];show (1:Rat)≠0;decide⟩
theorem ByOk.bef{g:TGraph}{j:Nat}{b:Form}(h:ByOk g j b)(h0:0≤g.Inputs):Bef (g.Inputs+(j:Int)) b:=by
 rcases h.s with e|⟨k,hk,e⟩
 ·exact ⟨by rw [e];exact Srt.nil,fun t ht=>by rw [e] at ht;cases ht⟩
 ·refine ⟨by rw [e];exact srt_1,fun t ht=>?_⟩
  rw [e] at ht
  rw [List.mem_singleton.1 ht]
  show 0≤g.Inputs+(k:Int)∧g.Inputs+(k:Int)<g.Inputs+(j:Int)
  omega
theorem ByOk.s2{g:TGraph}{j:Nat}{b:Form}(h:ByOk g j b):b.1=[]∨∃k,b.1=[(k,1)]:=by
 rcases h.s with e|⟨k,_,e⟩
 ·exact .inl e
 ·exact .inr ⟨_,e⟩
theorem rpG_sg{g:TGraph}{j:Nat}{b:Form}(h:SG g)(hj:j<g.Units.length)(hb:ByOk g j b):SG (rpG g j b):=by
 have hl:=rpG_len (b:=b) hj
 have h0:=h.i0
 have hu8:=h.u
 have bf:=hb.bef h0
 have hs:hbd (rpG g j b).Units.length=3*hbd g.Units.length+2:=by
  rw [←hl,hbd_step (by omega)]
 have h2:=hbd_two hu8
 refine ⟨h0,h.i1,by omega,by rw [rpG_olen];exact h.o1,fun i f hf=>?_,fun f hf=>?_,fun f hf=>?_,fun f hf=>?_⟩
 ·rw [rpG_get hj] at hf
  by_cases c:i<j
  ·rw [if_pos c] at hf
   exact h.us i f hf
  ·rw [if_neg c] at hf
   obtain ⟨f0,hf0,rfl⟩:=Option.map_eq_some_iff.1 hf
   obtain ⟨a1,a2⟩:=h.us _ _ hf0
   exact ⟨rp_srt a1 bf,rp_in a1 a2 bf (by omega) (by show _≤((g.Inputs.toNat+i:Nat):Int);omega)⟩
 ·obtain ⟨f0,hf0,rfl⟩:=List.mem_map.1 (show f∈g.Outputs.map _ from hf)
  obtain ⟨a1,a2⟩:=h.os f0 hf0
  rw [←hl,←Nat.add_assoc] at a2
  exact ⟨rp_srt a1 bf,rp_in a1 a2 bf (by omega) (by show _≤((g.Inputs.toNat+(rpG g j b).Units.length:Nat):Int);omega)⟩
 ·rw [hs]
  rcases List.mem_append.1 (show f∈g.Units.take j++_ from hf) with hf|hf
  ·exact (h.hu f (List.mem_of_mem_take hf)).mono (by omega)
  ·obtain ⟨f0,hf0,rfl⟩:=List.mem_map.1 hf
   exact rp_hb (h.hu f0 (List.mem_of_mem_drop hf0)) hb.s2 hb.h (by omega)
 ·rw [hs]
  obtain ⟨f0,hf0,rfl⟩:=List.mem_map.1 (show f∈g.Outputs.map _ from hf)
  exact rp_hb (h.ho f0 hf0) hb.s2 hb.h (by omega)
theorem SG.len{g:TGraph}(h:SG g){i:Nat}{f:Form}(hf:g.Units[i]?=some f):f.1.length≤16:=by
 obtain ⟨a,b⟩:=h.us i f hf
 have:=inr_len a b
 have:=(List.getElem?_eq_some_iff.1 hf).1
 have:=h.u
 have:=h.i1
 omega
theorem SG.leno{g:TGraph}(h:SG g){f:Form}(hf:f∈g.Outputs):f.1.length≤16:=by
 obtain ⟨a,b⟩:=h.os f hf
 have:=inr_len a b
 have:=h.u
 have:=h.i1
 omega
def coB(f:Form):Form:=([],max f.2 0)
def cnL:Nat→TGraph→Nat→TGraph
 | 0,g,_=>g
 | n+1,g,j=>match g.Units[j]? with
   | none=>g
   | some f=>if f.1=[] then cnL n (rpG g j (coB f)) j else cnL n g (j+1)
def coP(g:TGraph):TGraph:=cnL g.Units.length g 0
theorem H_mx(q:Rat):H (max q 0)≤max (H q) 1:=by
 rcases (by rw [Rat.max_def];split;exact .inr rfl;exact .inl rfl:max q 0=q∨max q 0=0) with e|e
 ·rw [e];omega
 ·rw [e,show H 0=1 from by decide];omega
theorem coB_ok{g:TGraph}{j:Nat}{f:Form}(h:SG g)(hf:g.Units[j]?=some f):ByOk g j (coB f):=by
 have h1:=(h.hu f (List.mem_of_getElem? hf)).2
 have h2:=H_mx f.2
 have h3:=hbd_two h.u
 exact ⟨.inl rfl,by show H (max f.2 0)≤_;omega⟩
theorem cnL_sg:∀(n:Nat) {g:TGraph} {j:Nat},SG g→SG (cnL n g j)∧(cnL n g j).Units.length≤g.Units.length∧(cnL n g j).Inputs=g.Inputs
 | 0,g,j,h=>⟨h,Nat.le_refl _,rfl⟩
 | n+1,g,j,h=>by
   rw [cnL]
   cases e:g.Units[j]? with
   | none=>exact ⟨h,Nat.le_refl _,rfl⟩
   | some f=>
     have hj:=(List.getElem?_eq_some_iff.1 e).1
     dsimp only
     split
     ·obtain ⟨a,b,c⟩:=cnL_sg n (j:=j) (rpG_sg h hj (coB_ok h e))
      have:=rpG_len (b:=coB f) hj
      exact ⟨a,by omega,c⟩
     ·exact cnL_sg n h
theorem coP_sg{g:TGraph}(h:SG g):SG (coP g)∧(coP g).Units.length≤g.Units.length∧(coP g).Inputs=g.Inputs:=cnL_sg _ h
theorem cnL_olen:∀(n:Nat) (g:TGraph) (j:Nat),(cnL n g j).Outputs.length=g.Outputs.length
 | 0,g,j=>rfl
 | n+1,g,j=>by
   rw [cnL]
   cases g.Units[j]? with
   | none=>rfl
   | some f=>
     dsimp only
     split
     ·rw [cnL_olen,rpG_olen]
     ·exact cnL_olen n g (j+1)
theorem cnL_fix:∀(n:Nat) {g:TGraph} {j:Nat},SG g→g.Units.length≤j+n→(cnL n g j).Units.length=g.Units.length→cnL n g j=g∧∀i f,j≤i→g.Units[i]?=some f→f.1≠[]
 | 0,g,j,h,hn,_=>⟨rfl,fun i f hi hf=>by have:=(List.getElem?_eq_some_iff.1 hf).1;omega⟩
 | n+1,g,j,h,hn,hl=>by
   rw [cnL] at hl ⊢
   cases e:g.Units[j]? with
   | none=>exact ⟨rfl,fun i f hi hf=>by have:=(List.getElem?_eq_some_iff.1 hf).1;have:=List.getElem?_eq_none_iff.1 e;omega⟩
   | some f=>
     have hj:=(List.getElem?_eq_some_iff.1 e).1
     rw [e] at hl
     dsimp only at hl ⊢
     by_cases c:f.1=[]
     ·rw [if_pos c] at hl
      have a:=(cnL_sg n (j:=j) (rpG_sg h hj (coB_ok h e))).2.1
      have:=rpG_len (b:=coB f) hj
      omega
     ·rw [if_neg c] at hl ⊢
      obtain ⟨a,b⟩:=cnL_fix n h (by omega) hl
      refine ⟨a,fun i f2 hi hf2=>?_⟩
      by_cases c2:i=j
      ·subst c2
       rw [e] at hf2;cases hf2;exact c
      ·exact b i f2 (by omega) hf2
def fstI(U:List Form)(j:Nat):Nat:=U.findIdx fun x=>decide (some x=U[j]?)
theorem fstI_spec{U:List Form}{j:Nat}{f:Form}(h:U[j]?=some f):fstI U j≤j∧U[fstI U j]?=some f∧∀i,i<fstI U j→U[i]?≠some f:=by
 have hj:=(List.getElem?_eq_some_iff.1 h)
 obtain ⟨hj1,hj2⟩:=hj
 have h1:fstI U j≤j:=by
  unfold fstI
  refine Nat.le_of_not_lt fun c=>?_
  have h9:=List.not_of_lt_findIdx c
  have h8:decide (some U[j]=U[j]?)=true:=by rw [h,hj2];simp
  exact absurd h8 (by rw [h9];simp)
 have hlt:fstI U j<U.length:=by omega
 refine ⟨h1,?_,fun i hi hf=>?_⟩
 ·have h2:decide (some U[fstI U j]=U[j]?)=true:=List.findIdx_getElem (w:=hlt)
  rw [List.getElem?_eq_getElem hlt,of_decide_eq_true h2,h]
 ·have h9:=List.not_of_lt_findIdx (show i<U.findIdx (fun x=>decide (some x=U[j]?)) from hi)
  obtain ⟨a,b⟩:=List.getElem?_eq_some_iff.1 hf
  have h8:decide (some U[i]=U[j]?)=true:=by rw [h,b];simp
  exact absurd h8 (by rw [h9];simp)
theorem fstI_uniq{U:List Form}{j k:Nat}{f:Form}(h:U[j]?=some f)(hk:U[k]?=some f)(hn:∀i,i<k→U[i]?≠some f):fstI U j=k:=by
 obtain ⟨a,b,c⟩:=fstI_spec h
 rcases Nat.lt_trichotomy (fstI U j) k with h1|h1|h1
 ·exact absurd b (hn _ h1)
 ·exact h1
 ·exact absurd hk (c _ h1)
def duB(g:TGraph)(k:Nat):Form:=([(g.Inputs+(k:Int),1)],0)
def duL:Nat→TGraph→Nat→TGraph
 | 0,g,_=>g
 | n+1,g,j=>match g.Units[j]? with
   | none=>g
   | some f=>if fstI g.Units j<j then duL n (rpG g j (duB g (fstI g.Units j))) j else duL n g (j+1)
def duP(g:TGraph):TGraph:=duL g.Units.length g 0
theorem duB_ok{g:TGraph}{j k:Nat}(h:SG g)(hk:k<j):ByOk g j (duB g k):=by
 have h3:=hbd_two h.u
 exact ⟨.inr ⟨k,hk,rfl⟩,by show H 0≤_;rw [show H 0=1 from by decide];omega⟩
theorem duL_sg:∀(n:Nat) {g:TGraph} {j:Nat},SG g→SG (duL n g j)∧(duL n g j).Units.length≤g.Units.length∧(duL n g j).Inputs=g.Inputs
 | 0,g,j,h=>⟨h,Nat.le_refl _,rfl⟩
 | n+1,g,j,h=>by
   rw [duL]
   cases e:g.Units[j]? with
   | none=>exact ⟨h,Nat.le_refl _,rfl⟩
   | some f=>
     have hj:=(List.getElem?_eq_some_iff.1 e).1
     dsimp only
     split
     ·rename_i c
      obtain ⟨a,b,d⟩:=duL_sg n (j:=j) (rpG_sg h hj (duB_ok h c))
      have:=rpG_len (b:=duB g (fstI g.Units j)) hj
      exact ⟨a,by omega,d⟩
     ·exact duL_sg n h
theorem duL_olen:∀(n:Nat) (g:TGraph) (j:Nat),(duL n g j).Outputs.length=g.Outputs.length
 | 0,g,j=>rfl
 | n+1,g,j=>by
   rw [duL]
   cases g.Units[j]? with
   | none=>rfl
   | some f=>
     dsimp only
     split
     ·rw [duL_olen,rpG_olen]
     ·exact duL_olen n g (j+1)
theorem duP_sg{g:TGraph}(h:SG g):SG (duP g)∧(duP g).Units.length≤g.Units.length∧(duP g).Inputs=g.Inputs:=duL_sg _ h
theorem duL_fix:∀(n:Nat) {g:TGraph} {j:Nat},SG g→g.Units.length≤j+n→(duL n g j).Units.length=g.Units.length→duL n g j=g∧∀i k f,j≤i→k<i→g.Units[i]?=some f→g.Units[k]?≠some f
 | 0,g,j,h,hn,_=>⟨rfl,fun i k f hi hk hf=>by have:=(List.getElem?_eq_some_iff.1 hf).1;omega⟩
 | n+1,g,j,h,hn,hl=>by
   rw [duL] at hl ⊢
   cases e:g.Units[j]? with
   | none=>exact ⟨rfl,fun i k f hi hk hf=>by have:=(List.getElem?_eq_some_iff.1 hf).1;have:=List.getElem?_eq_none_iff.1 e;omega⟩
   | some f=>
     have hj:=(List.getElem?_eq_some_iff.1 e).1
     rw [e] at hl
     dsimp only at hl ⊢
     by_cases c:fstI g.Units j<j
     ·rw [if_pos c] at hl
      have a:=(duL_sg n (j:=j) (rpG_sg h hj (duB_ok h c))).2.1
      have:=rpG_len (b:=duB g (fstI g.Units j)) hj
      omega
     ·rw [if_neg c] at hl ⊢
      obtain ⟨a,b⟩:=duL_fix n h (by omega) hl
      refine ⟨a,fun i k f2 hi hk hf2 hk2=>?_⟩
      by_cases c2:i=j
      ·subst c2
       obtain ⟨s1,s2,s3⟩:=fstI_spec hf2
       exact s3 k (by omega) hk2
      ·exact b i k f2 (by omega) hk hf2 hk2
inductive Need (g:TGraph):Nat→Prop
 | out {j:Nat} {f:Form} (h:f∈g.Outputs) (hv:hasV f (g.Inputs+(j:Int))):Need g j
 | unit {j i:Nat} {f:Form} (h:g.Units[i]?=some f) (hn:Need g i) (hv:hasV f (g.Inputs+(j:Int))):Need g j
theorem need_iff{g:TGraph}(h:SG g){j:Nat}:Need g j↔(∃f∈g.Outputs,hasV f (g.Inputs+(j:Int)))∨∃i f,j<i∧g.Units[i]?=some f∧Need g i∧hasV f (g.Inputs+(j:Int)):=by
 constructor
 ·intro hn
  cases hn with
  | out h1 h2=>exact .inl ⟨_,h1,h2⟩
  | unit h1 h2 h3=>
    refine .inr ⟨_,_,?_,h1,h2,h3⟩
    obtain ⟨t,ht,e⟩:=h3
    have:=(h.us _ _ h1).2 t ht
    have:=h.i0
    omega
 ·rintro (⟨f,h1,h2⟩|⟨i,f,_,h1,h2,h3⟩)
  ·exact .out h1 h2
  ·exact .unit h1 h2 h3
def zF:Form:=([],0)
theorem zF_ok{g:TGraph}{j:Nat}(h:SG g):ByOk g j zF:=by
 have h3:=hbd_two h.u
 exact ⟨.inl rfl,by show H 0≤_;rw [show H 0=1 from by decide];omega⟩
def shv(j i:Nat):Nat:=if i<j then i else i+1
theorem shv_ne(j i:Nat):shv j i≠j:=by unfold shv;split <;>omega
theorem low_shv{I:Int}(j i:Nat):lowV (I+(j:Int)) (I+(shv j i:Int))=I+(i:Int):=by
 unfold lowV shv
 split <;>split <;>omega
theorem has_shv{I:Int}{f:Form}(j i:Nat):hasV (rpF (I+(j:Int)) zF f) (I+(i:Int))↔hasV f (I+(shv j i:Int)):=by
 rw [←low_shv (I:=I) j i]
 exact has_rp (by have:=shv_ne j i;omega)
theorem need_rp{g:TGraph}(h:SG g){j:Nat}(hj:j<g.Units.length)(hn:¬Need g j)(i:Nat):Need (rpG g j zF) i↔Need g (shv j i):=by
 have fwd:∀i,Need (rpG g j zF) i→Need g (shv j i):=fun i hi=>by
  induction hi with
  | out h1 h2=>
    obtain ⟨f0,hf0,rfl⟩:=List.mem_map.1 (show _∈g.Outputs.map _ from h1)
    exact .out hf0 ((has_shv j _).1 h2)
  | @unit i2 i3 f h1 _ h3 ih=>
    rw [rpG_get hj] at h1
    by_cases c:i3<j
    ·rw [if_pos c] at h1
     have e:shv j i3=i3:=if_pos c
     rw [e] at ih
     refine .unit h1 ih ?_
     have e2:shv j i2=i2:=by
      obtain ⟨t,ht,e4⟩:=h3
      have:=(h.us _ _ h1).2 t ht
      have:=h.i0
      have e5:t.1=g.Inputs+(i2:Int):=e4
      exact if_pos (by omega)
     rw [e2];exact h3
    ·rw [if_neg c] at h1
     obtain ⟨f0,hf0,rfl⟩:=Option.map_eq_some_iff.1 h1
     have e:shv j i3=i3+1:=if_neg c
     rw [e] at ih
     exact .unit hf0 ih ((has_shv j i2).1 h3)
 have bwd:∀k,Need g k→∀i,shv j i=k→Need (rpG g j zF) i:=fun k hk=>by
  induction hk with
  | @out j2 f h1 h2=>
    intro i e
    refine .out (f:=rpF (g.Inputs+(j:Int)) zF f) (List.mem_map.2 ⟨f,h1,rfl⟩) ?_
    exact (has_shv j i).2 (by rw [e];exact h2)
  | @unit j2 i3 f h1 h2 h3 ih=>
    intro i e
    have c0:i3≠j:=fun e2=>hn (e2▸h2)
    by_cases c:i3<j
    ·have e4:=ih i3 (if_pos c)
     refine .unit (i:=i3) (f:=f) (by rw [rpG_get hj,if_pos c];exact h1) e4 ?_
     have e5:i=j2:=by
      obtain ⟨t,ht,e6⟩:=h3
      have:=(h.us _ _ h1).2 t ht
      have:=h.i0
      unfold shv at e
      split at e <;>omega
     rw [e5];exact h3
    ·obtain ⟨i4,rfl⟩:∃i4,i3=i4+1:=⟨i3-1,by omega⟩
     have e4:=ih i4 (if_neg (by omega))
     refine .unit (i:=i4) (f:=rpF (g.Inputs+(j:Int)) zF f) (by rw [rpG_get hj,if_neg (by omega),h1];rfl) e4 ?_
     exact (has_shv j i).2 (by rw [e];exact h3)
 exact ⟨fwd i,fun hk=>bwd _ hk i rfl⟩
noncomputable def dmL(N:Nat→Bool):Nat→TGraph→TGraph
 | 0,g=>g
 | j+1,g=>dmL N j (if N j=true then g else rpG g j zF)
noncomputable def deR:Nat→TGraph→TGraph
 | 0,g=>g
 | j+1,g=>deR j (if tv (Need g j)=true then g else rpG g j zF)
noncomputable def deP(g:TGraph):TGraph:=deR g.Units.length g
theorem dmL_eq{N:Nat→Bool}:∀(j:Nat) {g:TGraph},SG g→j≤g.Units.length→(∀i,i<j→(N i=true↔Need g i))→dmL N j g=deR j g
 | 0,g,_,_,_=>rfl
 | j+1,g,h,hj,hN=>by
   rw [dmL,deR]
   by_cases c:Need g j
   ·rw [if_pos ((hN j (by omega)).2 c),if_pos (tv_t c)]
    exact dmL_eq j h (by omega) fun i hi=>hN i (by omega)
   ·rw [if_neg (fun e=>c ((hN j (by omega)).1 e)),if_neg (by rw [tv_f c];simp)]
    have hl:=rpG_len (b:=zF) (show j<g.Units.length by omega)
    refine dmL_eq j (rpG_sg h (by omega) (zF_ok h)) (by omega) fun i hi=>?_
    rw [hN i (by omega),need_rp h (by omega) c,show shv j i=i from if_pos hi]
theorem deR_sg:∀(j:Nat) {g:TGraph},SG g→j≤g.Units.length→SG (deR j g)∧(deR j g).Units.length≤g.Units.length∧(deR j g).Inputs=g.Inputs
 | 0,g,h,_=>⟨h,Nat.le_refl _,rfl⟩
 | j+1,g,h,hj=>by
   rw [deR]
   split
   ·exact deR_sg j h (by omega)
   ·have hl:=rpG_len (b:=zF) (show j<g.Units.length by omega)
    obtain ⟨a,b,c⟩:=deR_sg j (rpG_sg h (show j<g.Units.length by omega) (zF_ok h)) (by omega)
    exact ⟨a,by omega,c⟩
theorem deR_olen:∀(j:Nat) (g:TGraph),(deR j g).Outputs.length=g.Outputs.length
 | 0,g=>rfl
 | j+1,g=>by
   rw [deR,deR_olen j]
   split
   ·rfl
   ·exact rpG_olen _ _ _
theorem deP_sg{g:TGraph}(h:SG g):SG (deP g)∧(deP g).Units.length≤g.Units.length∧(deP g).Inputs=g.Inputs:=deR_sg _ h (Nat.le_refl _)
theorem deR_fix:∀(j:Nat) {g:TGraph},SG g→j≤g.Units.length→(deR j g).Units.length=g.Units.length→deR j g=g∧∀i,i<j→Need g i
 | 0,g,_,_,_=>⟨rfl,fun i hi=>by omega⟩
 | j+1,g,h,hj,hl=>by
   rw [deR] at hl ⊢
   by_cases c:Need g j
   ·rw [if_pos (tv_t c)] at hl ⊢
    obtain ⟨a,b⟩:=deR_fix j h (by omega) hl
    exact ⟨a,fun i hi=>by
     by_cases e:i=j
     ·rw [e];exact c
     ·exact b i (by omega)⟩
   ·rw [if_neg (by rw [tv_f c];simp)] at hl
    have h2:=rpG_len (b:=zF) (show j<g.Units.length by omega)
    have:=(deR_sg j (rpG_sg h (show j<g.Units.length by omega) (zF_ok h)) (by omega)).2.1
    omega
noncomputable def simS(g:TGraph):TGraph:=deP (duP (coP g))
noncomputable def simL:Nat→TGraph→TGraph
 | 0,g=>g
 | n+1,g=>if (simS g).Units.length=g.Units.length then simS g else simL n (simS g)
noncomputable def simP(g:TGraph):TGraph:=simL (g.Units.length+1) g
theorem simS_sg{g:TGraph}(h:SG g):SG (simS g)∧(simS g).Units.length≤g.Units.length∧(simS g).Inputs=g.Inputs:=by
 obtain ⟨a1,a2,a3⟩:=coP_sg h
 obtain ⟨b1,b2,b3⟩:=duP_sg a1
 obtain ⟨c1,c2,c3⟩:=deP_sg b1
 exact ⟨c1,by show (deP (duP (coP g))).Units.length≤_;omega,by show (deP (duP (coP g))).Inputs=_;rw [c3,b3,a3]⟩
structure Done (g:TGraph):Prop where
 sg:SG g
 t:∀(i:Nat) (f:Form),g.Units[i]?=some f→f.1≠[]
 d:∀(i k:Nat) (f:Form),k<i→g.Units[i]?=some f→g.Units[k]?≠some f
 n:∀i,i<g.Units.length→Need g i
theorem simS_fix{g:TGraph}(h:SG g)(hl:(simS g).Units.length=g.Units.length):simS g=g∧Done g:=by
 obtain ⟨a1,a2,a3⟩:=coP_sg h
 obtain ⟨b1,b2,b3⟩:=duP_sg a1
 obtain ⟨c1,c2,c3⟩:=deP_sg b1
 have hl':(deP (duP (coP g))).Units.length=g.Units.length:=hl
 obtain ⟨d1,d2⟩:=cnL_fix g.Units.length (j:=0) h (by omega) (show (coP g).Units.length=_ by omega)
 have d1':coP g=g:=d1
 unfold simS
 rw [d1'] at b1 b2 c1 c2 hl' ⊢
 obtain ⟨e1,e2⟩:=duL_fix g.Units.length (j:=0) h (by omega) (show (duP g).Units.length=_ by omega)
 have e1':duP g=g:=e1
 rw [e1'] at c1 c2 hl' ⊢
 obtain ⟨f1,f2⟩:=deR_fix g.Units.length h (Nat.le_refl _) hl'
 exact ⟨f1,h,fun i f hf=>d2 i f (by omega) hf,fun i k f hk hf=>e2 i k f (by omega) hk hf,f2⟩
theorem simS_olen(g:TGraph):(simS g).Outputs.length=g.Outputs.length:=by
 unfold simS deP duP coP
 rw [deR_olen,duL_olen,cnL_olen]
theorem simL_olen:∀(n:Nat) (g:TGraph),(simL n g).Outputs.length=g.Outputs.length
 | 0,g=>rfl
 | n+1,g=>by
   rw [simL]
   split
   ·exact simS_olen g
   ·rw [simL_olen n,simS_olen]
theorem simL_done:∀(n:Nat) {g:TGraph},SG g→g.Units.length<n→Done (simL n g)∧(simL n g).Units.length≤g.Units.length∧(simL n g).Inputs=g.Inputs
 | 0,g,_,hn=>by omega
 | n+1,g,h,hn=>by
   rw [simL]
   obtain ⟨a1,a2,a3⟩:=simS_sg h
   split
   ·rename_i c
    obtain ⟨e,d⟩:=simS_fix h c
    rw [e]
    exact ⟨d,Nat.le_refl _,rfl⟩
   ·obtain ⟨b1,b2,b3⟩:=simL_done n a1 (by omega)
    exact ⟨b1,by omega,by rw [b3,a3]⟩
theorem simP_done{g:TGraph}(h:SG g):Done (simP g)∧(simP g).Units.length≤g.Units.length∧(simP g).Inputs=g.Inputs:=simL_done _ h (by omega)
end
theorem pt_new{n:Nat}{F:List (Int × Rat)}{v:Int}{q k:Rat}(hq:H q≤17179869184)(h0:q≠0)(hF:F.length≤10000000):
  runL n 146 [.agg [.own 0 F.length,.lit (.bool (rawQ k).s),natA (rawQ k).l1,natA (rawQ k).l2],.lit (.int .i64 v),.agg [.lit (.bool (rawQ q).s),natA (rawQ q).l1,natA (rawQ q).l2]] [.row 57 4 (F.map termC) 0]=some (.agg [.own 4 (F++[(v,q)]).length,.lit (.bool (rawQ k).s),natA (rawQ k).l1,natA (rawQ k).l2],[(4,.row 57 4 ((F++[(v,q)]).map termC) 0)]):=by
 unfold runL fnL
 have hs:=r_sign (p:=q) hq
 have hc:=r_canon (p:=q) hq
 have e2:(sgR q==0)=false:=by simpa using fun h=>h0 (sgR_eq_zero.1 h)
 have e3:(sgR q !=0)=true:=by simpa using fun h=>h0 (sgR_eq_zero.1 h)
 have hr:∀b,b≤10000→roomy (F.length+1) b=true:=fun b hb=>roomy_s (by omega) hb
 simp+decide [Tryz.f146,hs,hc,e2,e3,hr]
theorem pt_same{n:Nat}{F:List (Int × Rat)}{v:Int}{q k:Rat}(hq:H q≤17179869184)(h0:q=0):
  runL n 146 [.agg [.own 0 F.length,.lit (.bool (rawQ k).s),natA (rawQ k).l1,natA (rawQ k).l2],.lit (.int .i64 v),.agg [.lit (.bool (rawQ q).s),natA (rawQ q).l1,natA (rawQ q).l2]] [.row 57 4 (F.map termC) 0]=some (.agg [.own 0 F.length,.lit (.bool (rawQ k).s),natA (rawQ k).l1,natA (rawQ k).l2],[(0,.row 57 4 (F.map termC) 0)]):=by
 unfold runL fnL
 have hs:=r_sign (p:=q) hq
 have e2:(sgR q==0)=true:=by rw [sgR_eq_zero.2 h0];rfl
 have e3:(sgR q !=0)=false:=by rw [sgR_eq_zero.2 h0];rfl
 simp+decide [Tryz.f146,hs,e2,e3]
noncomputable def mg_C3:Code:=(loopsOf (bodyOf Tryz.f124)).getD 0 .skip
def mg_h3(a0:Form)(a1:Form)(a2:Rat)(l_3:List (Int × Rat))(l2_3:List (Int × Rat))(out_3:List (Int × Rat)):St:=
 ⟨[(5,.ptr 0 0),(6,.ptr 1 0),(7,.ptr 2 0),(8,.sl 4 (l_3.map termC)),(9,.sl 4 (l2_3.map termC))],
  [(0,some (.box 34 [.lit (.bool (rawQ a2).s),natA (rawQ a2).l1,natA (rawQ a2).l2] false)),
   (1,some (.box 45 [.nl 4,.lit (.bool false),.nl 1,.nl 1] false)),
   (2,some (.box 45 [.own 3 out_3.length,.lit (.bool (rawQ (a0.2+(a1.2*a2))).s),natA (rawQ (a0.2+(a1.2*a2))).l1,natA (rawQ (a0.2+(a1.2*a2))).l2] false)),
   (3,some (.row 57 4 (out_3.map termC) 0))],4⟩
def mg_o3a(a0:Form)(a1:Form)(a2:Rat)(out_3:List (Int × Rat)):St:=
 ⟨[(6,.ptr 0 0),(7,.ptr 1 0)],
  [(0,some (.box 45 [.nl 4,.lit (.bool false),.nl 1,.nl 1] false)),
   (1,some (.box 45 [.own 2 out_3.length,.lit (.bool (rawQ (a0.2+(a1.2*a2))).s),natA (rawQ (a0.2+(a1.2*a2))).l1,natA (rawQ (a0.2+(a1.2*a2))).l2] false)),
   (2,some (.row 57 4 (out_3.map termC) 0))],3⟩
section
variable{l_3:List (Int × Rat)}{n:Nat}{v11:Int}{a1:Form}{a0:Form}{q11:Rat}{a2:Rat}{l2_3:List (Int × Rat)}{out_3:List (Int × Rat)}{R11:List (Int × Rat)}{v10:Int}{v9:Int}{q9:Rat}{q10:Rat}{R12:List (Int × Rat)}{R13:List (Int × Rat)}{R14:List (Int × Rat)}{q12:Rat}{v12:Int}{R15:List (Int × Rat)}
section
variable(C1:0<(l_3.length:Int))
include C1
theorem mg_r3_1(C2:(l2_3.length:Int)=0)(E3:l_3[0]?=some (v11,q11))(K4:runL n 146 [.agg [.own 0 out_3.length,.lit (.bool (rawQ (a0.2+(a1.2*a2))).s),natA (rawQ (a0.2+(a1.2*a2))).l1,natA (rawQ (a0.2+(a1.2*a2))).l2],.lit (.int .i64 v11),ratV q11] [.row 57 4 (out_3.map termC) 0]=some (.agg [.own 0 out_3.length,.lit (.bool (rawQ (a0.2+(a1.2*a2))).s),natA (rawQ (a0.2+(a1.2*a2))).l1,natA (rawQ (a0.2+(a1.2*a2))).l2],[(0,.row 57 4 (out_3.map termC) 0)]))(U5:0≤1∧1≤(l_3.length:Int)):
  Cont 0 (exec Tryz.prog (tab (n+1)) 0 113 (livesOf 124) big mg_C3) (livesOf 124 3) (mg_h3 a0 a1 a2 l_3 l2_3 out_3) (mg_h3 a0 a1 a2 (l_3.drop 1) l2_3 out_3):=by
 have C1_:0<l_3.length:=by omega
 have C2_:((l2_3.length:Int)==0)=true:=by rw [C2];simp
 obtain ⟨EL3,EG3⟩:=List.getElem?_eq_some_iff.1 E3
 simp only [ratV] at K4
 unfold Cont
 simp+decide [mg_h3,loopsOf, Tryz.f124,mg_C3,C1_,C2_,EG3,K4,U5]
theorem mg_r3_2(C2:(l2_3.length:Int)=0)(E3:l_3[0]?=some (v11,q11))(K4:runL n 146 [.agg [.own 0 out_3.length,.lit (.bool (rawQ (a0.2+(a1.2*a2))).s),natA (rawQ (a0.2+(a1.2*a2))).l1,natA (rawQ (a0.2+(a1.2*a2))).l2],.lit (.int .i64 v11),ratV q11] [.row 57 4 (out_3.map termC) 0]=some (.agg [.own 4 R11.length,.lit (.bool (rawQ (a0.2+(a1.2*a2))).s),natA (rawQ (a0.2+(a1.2*a2))).l1,natA (rawQ (a0.2+(a1.2*a2))).l2],[(4,.row 57 4 (R11.map termC) 0)]))(U5:0≤1∧1≤(l_3.length:Int)):
  Cont 0 (exec Tryz.prog (tab (n+1)) 0 113 (livesOf 124) big mg_C3) (livesOf 124 3) (mg_h3 a0 a1 a2 l_3 l2_3 out_3) (mg_h3 a0 a1 a2 (l_3.drop 1) l2_3 R11):=by
 have C1_:0<l_3.length:=by omega
 have C2_:((l2_3.length:Int)==0)=true:=by rw [C2];simp
 obtain ⟨EL3,EG3⟩:=List.getElem?_eq_some_iff.1 E3
 simp only [ratV] at K4
 unfold Cont
 simp+decide [mg_h3,loopsOf, Tryz.f124,mg_C3,C1_,C2_,EG3,K4,U5]
section
variable(C2:¬(l2_3.length:Int)=0)(E3:l_3[0]?=some (v9,q9))(E4:l2_3[0]?=some (v10,q10))
include C2 E3 E4
theorem mg_r3_3(C5:v9<v10)(K6:runL n 146 [.agg [.own 0 out_3.length,.lit (.bool (rawQ (a0.2+(a1.2*a2))).s),natA (rawQ (a0.2+(a1.2*a2))).l1,natA (rawQ (a0.2+(a1.2*a2))).l2],.lit (.int .i64 v9),ratV q9] [.row 57 4 (out_3.map termC) 0]=some (.agg [.own 0 out_3.length,.lit (.bool (rawQ (a0.2+(a1.2*a2))).s),natA (rawQ (a0.2+(a1.2*a2))).l1,natA (rawQ (a0.2+(a1.2*a2))).l2],[(0,.row 57 4 (out_3.map termC) 0)]))(U7:0≤1∧1≤(l_3.length:Int)):
  Cont 0 (exec Tryz.prog (tab (n+1)) 0 113 (livesOf 124) big mg_C3) (livesOf 124 3) (mg_h3 a0 a1 a2 l_3 l2_3 out_3) (mg_h3 a0 a1 a2 (l_3.drop 1) l2_3 out_3):=by
 have C1_:0<l_3.length:=by omega
 have C2_:((l2_3.length:Int)==0)=false:=by simpa using C2
 obtain ⟨EL3,EG3⟩:=List.getElem?_eq_some_iff.1 E3
 obtain ⟨EL4,EG4⟩:=List.getElem?_eq_some_iff.1 E4
 simp only [ratV] at K6
 unfold Cont
 simp+decide [mg_h3,loopsOf, Tryz.f124,mg_C3,C1_,C2_,EG3,EL4,EG4,C5,K6,U7]
theorem mg_r3_4(C5:v9<v10)(K6:runL n 146 [.agg [.own 0 out_3.length,.lit (.bool (rawQ (a0.2+(a1.2*a2))).s),natA (rawQ (a0.2+(a1.2*a2))).l1,natA (rawQ (a0.2+(a1.2*a2))).l2],.lit (.int .i64 v9),ratV q9] [.row 57 4 (out_3.map termC) 0]=some (.agg [.own 4 R12.length,.lit (.bool (rawQ (a0.2+(a1.2*a2))).s),natA (rawQ (a0.2+(a1.2*a2))).l1,natA (rawQ (a0.2+(a1.2*a2))).l2],[(4,.row 57 4 (R12.map termC) 0)]))(U7:0≤1∧1≤(l_3.length:Int)):
  Cont 0 (exec Tryz.prog (tab (n+1)) 0 113 (livesOf 124) big mg_C3) (livesOf 124 3) (mg_h3 a0 a1 a2 l_3 l2_3 out_3) (mg_h3 a0 a1 a2 (l_3.drop 1) l2_3 R12):=by
 have C1_:0<l_3.length:=by omega
 have C2_:((l2_3.length:Int)==0)=false:=by simpa using C2
 obtain ⟨EL3,EG3⟩:=List.getElem?_eq_some_iff.1 E3
 obtain ⟨EL4,EG4⟩:=List.getElem?_eq_some_iff.1 E4
 simp only [ratV] at K6
 unfold Cont
 simp+decide [mg_h3,loopsOf, Tryz.f124,mg_C3,C1_,C2_,EG3,EL4,EG4,C5,K6,U7]
theorem mg_r3_5(C5:¬v9<v10)(C6:v10<v9)(B7a:H q10≤17179869184)(B7b:H a2≤17179869184)(K8:runL n 146 [.agg [.own 0 out_3.length,.lit (.bool (rawQ (a0.2+(a1.2*a2))).s),natA (rawQ (a0.2+(a1.2*a2))).l1,natA (rawQ (a0.2+(a1.2*a2))).l2],.lit (.int .i64 v10),ratV (q10*a2)] [.row 57 4 (out_3.map termC) 0]=some (.agg [.own 0 out_3.length,.lit (.bool (rawQ (a0.2+(a1.2*a2))).s),natA (rawQ (a0.2+(a1.2*a2))).l1,natA (rawQ (a0.2+(a1.2*a2))).l2],[(0,.row 57 4 (out_3.map termC) 0)]))(U9:0≤1∧1≤(l2_3.length:Int)):
  Cont 0 (exec Tryz.prog (tab (n+1)) 0 113 (livesOf 124) big mg_C3) (livesOf 124 3) (mg_h3 a0 a1 a2 l_3 l2_3 out_3) (mg_h3 a0 a1 a2 l_3 (l2_3.drop 1) out_3):=by
 have C1_:0<l_3.length:=by omega
 have C1_z:(l_3.length:Int)≠0:=by omega
 have C1_e:((l_3.length:Int)==0)=false:=by simpa using C1_z
 have C2_:((l2_3.length:Int)==0)=false:=by simpa using C2
 obtain ⟨EL3,EG3⟩:=List.getElem?_eq_some_iff.1 E3
 obtain ⟨EL4,EG4⟩:=List.getElem?_eq_some_iff.1 E4
 have K7:=r_mul (p:=q10) (q:=a2) B7a B7b
 simp only [ratV] at K8
 unfold Cont
 simp+decide [mg_h3,loopsOf, Tryz.f124,mg_C3,C1_,C1_e,C2_,EG3,EL4,EG4,C5,C6,K7,K8,U9]
theorem mg_r3_6(C5:¬v9<v10)(C6:v10<v9)(B7a:H q10≤17179869184)(B7b:H a2≤17179869184)(K8:runL n 146 [.agg [.own 0 out_3.length,.lit (.bool (rawQ (a0.2+(a1.2*a2))).s),natA (rawQ (a0.2+(a1.2*a2))).l1,natA (rawQ (a0.2+(a1.2*a2))).l2],.lit (.int .i64 v10),ratV (q10*a2)] [.row 57 4 (out_3.map termC) 0]=some (.agg [.own 4 R13.length,.lit (.bool (rawQ (a0.2+(a1.2*a2))).s),natA (rawQ (a0.2+(a1.2*a2))).l1,natA (rawQ (a0.2+(a1.2*a2))).l2],[(4,.row 57 4 (R13.map termC) 0)]))(U9:0≤1∧1≤(l2_3.length:Int)):
  Cont 0 (exec Tryz.prog (tab (n+1)) 0 113 (livesOf 124) big mg_C3) (livesOf 124 3) (mg_h3 a0 a1 a2 l_3 l2_3 out_3) (mg_h3 a0 a1 a2 l_3 (l2_3.drop 1) R13):=by
 have C1_:0<l_3.length:=by omega
 have C1_z:(l_3.length:Int)≠0:=by omega
 have C1_e:((l_3.length:Int)==0)=false:=by simpa using C1_z
 have C2_:((l2_3.length:Int)==0)=false:=by simpa using C2
 obtain ⟨EL3,EG3⟩:=List.getElem?_eq_some_iff.1 E3
 obtain ⟨EL4,EG4⟩:=List.getElem?_eq_some_iff.1 E4
 have K7:=r_mul (p:=q10) (q:=a2) B7a B7b
 simp only [ratV] at K8
 unfold Cont
 simp+decide [mg_h3,loopsOf, Tryz.f124,mg_C3,C1_,C1_e,C2_,EG3,EL4,EG4,C5,C6,K7,K8,U9]
section
variable(C5:¬v9<v10)(C6:¬v10<v9)(B7a:H q10≤17179869184)(B7b:H a2≤17179869184)(B8a:H q9≤17179869184)(B8b:H (q10*a2)≤17179869184)
include C5 C6 B7a B7b B8a B8b
theorem mg_r3_7(K9:runL n 146 [.agg [.own 0 out_3.length,.lit (.bool (rawQ (a0.2+(a1.2*a2))).s),natA (rawQ (a0.2+(a1.2*a2))).l1,natA (rawQ (a0.2+(a1.2*a2))).l2],.lit (.int .i64 v9),ratV (q9+(q10*a2))] [.row 57 4 (out_3.map termC) 0]=some (.agg [.own 0 out_3.length,.lit (.bool (rawQ (a0.2+(a1.2*a2))).s),natA (rawQ (a0.2+(a1.2*a2))).l1,natA (rawQ (a0.2+(a1.2*a2))).l2],[(0,.row 57 4 (out_3.map termC) 0)]))(U10:0≤1∧1≤(l_3.length:Int))(U11:0≤1∧1≤(l2_3.length:Int)):
  Cont 0 (exec Tryz.prog (tab (n+1)) 0 113 (livesOf 124) big mg_C3) (livesOf 124 3) (mg_h3 a0 a1 a2 l_3 l2_3 out_3) (mg_h3 a0 a1 a2 (l_3.drop 1) (l2_3.drop 1) out_3):=by
 have C1_:0<l_3.length:=by omega
 have C1_z:(l_3.length:Int)≠0:=by omega
 have C1_e:((l_3.length:Int)==0)=false:=by simpa using C1_z
 have C2_:((l2_3.length:Int)==0)=false:=by simpa using C2
 obtain ⟨EL3,EG3⟩:=List.getElem?_eq_some_iff.1 E3
 obtain ⟨EL4,EG4⟩:=List.getElem?_eq_some_iff.1 E4
 have K7:=r_mul (p:=q10) (q:=a2) B7a B7b
 have K8:=r_add (p:=q9) (q:=q10*a2) B8a B8b
 simp only [ratV] at K9
 unfold Cont
 simp+decide [mg_h3,loopsOf, Tryz.f124,mg_C3,C1_,C1_e,C2_,EG3,EL4,EG4,C5,C6,K7,K8,K9,U10,U11]
theorem mg_r3_8(K9:runL n 146 [.agg [.own 0 out_3.length,.lit (.bool (rawQ (a0.2+(a1.2*a2))).s),natA (rawQ (a0.2+(a1.2*a2))).l1,natA (rawQ (a0.2+(a1.2*a2))).l2],.lit (.int .i64 v9),ratV (q9+(q10*a2))] [.row 57 4 (out_3.map termC) 0]=some (.agg [.own 4 R14.length,.lit (.bool (rawQ (a0.2+(a1.2*a2))).s),natA (rawQ (a0.2+(a1.2*a2))).l1,natA (rawQ (a0.2+(a1.2*a2))).l2],[(4,.row 57 4 (R14.map termC) 0)]))(U10:0≤1∧1≤(l_3.length:Int))(U11:0≤1∧1≤(l2_3.length:Int)):
  Cont 0 (exec Tryz.prog (tab (n+1)) 0 113 (livesOf 124) big mg_C3) (livesOf 124 3) (mg_h3 a0 a1 a2 l_3 l2_3 out_3) (mg_h3 a0 a1 a2 (l_3.drop 1) (l2_3.drop 1) R14):=by
 have C1_:0<l_3.length:=by omega
 have C1_z:(l_3.length:Int)≠0:=by omega
 have C1_e:((l_3.length:Int)==0)=false:=by simpa using C1_z
 have C2_:((l2_3.length:Int)==0)=false:=by simpa using C2
 obtain ⟨EL3,EG3⟩:=List.getElem?_eq_some_iff.1 E3
 obtain ⟨EL4,EG4⟩:=List.getElem?_eq_some_iff.1 E4
 have K7:=r_mul (p:=q10) (q:=a2) B7a B7b
 have K8:=r_add (p:=q9) (q:=q10*a2) B8a B8b
 simp only [ratV] at K9
 unfold Cont
 simp+decide [mg_h3,loopsOf, Tryz.f124,mg_C3,C1_,C1_e,C2_,EG3,EL4,EG4,C5,C6,K7,K8,K9,U10,U11]
end
end
end
theorem mg_r3_9(C1:¬0<(l_3.length:Int))(C2:0<(l2_3.length:Int))(E3:l2_3[0]?=some (v12,q12))(B4a:H q12≤17179869184)(B4b:H a2≤17179869184)(K5:runL n 146 [.agg [.own 0 out_3.length,.lit (.bool (rawQ (a0.2+(a1.2*a2))).s),natA (rawQ (a0.2+(a1.2*a2))).l1,natA (rawQ (a0.2+(a1.2*a2))).l2],.lit (.int .i64 v12),ratV (q12*a2)] [.row 57 4 (out_3.map termC) 0]=some (.agg [.own 0 out_3.length,.lit (.bool (rawQ (a0.2+(a1.2*a2))).s),natA (rawQ (a0.2+(a1.2*a2))).l1,natA (rawQ (a0.2+(a1.2*a2))).l2],[(0,.row 57 4 (out_3.map termC) 0)]))(U6:0≤1∧1≤(l2_3.length:Int)):
  Cont 0 (exec Tryz.prog (tab (n+1)) 0 113 (livesOf 124) big mg_C3) (livesOf 124 3) (mg_h3 a0 a1 a2 l_3 l2_3 out_3) (mg_h3 a0 a1 a2 l_3 (l2_3.drop 1) out_3):=by
 have C1_:¬0<l_3.length:=by omega
 have C1_z:(l_3.length:Int)=0:=by omega
 have C1_e:((l_3.length:Int)==0)=true:=by rw [C1_z];simp
 have C2_:0<l2_3.length:=by omega
 have C2_z:(l2_3.length:Int)≠0:=by omega
 have C2_e:((l2_3.length:Int)==0)=false:=by simpa using C2_z
 obtain ⟨EL3,EG3⟩:=List.getElem?_eq_some_iff.1 E3
 have K4:=r_mul (p:=q12) (q:=a2) B4a B4b
 simp only [ratV] at K5
 unfold Cont
 simp+decide [mg_h3,loopsOf, Tryz.f124,mg_C3,C1_,C1_e,C2_,C2_e,EG3,K4,K5,U6]
theorem mg_r3_10(C1:¬0<(l_3.length:Int))(C2:0<(l2_3.length:Int))(E3:l2_3[0]?=some (v12,q12))(B4a:H q12≤17179869184)(B4b:H a2≤17179869184)(K5:runL n 146 [.agg [.own 0 out_3.length,.lit (.bool (rawQ (a0.2+(a1.2*a2))).s),natA (rawQ (a0.2+(a1.2*a2))).l1,natA (rawQ (a0.2+(a1.2*a2))).l2],.lit (.int .i64 v12),ratV (q12*a2)] [.row 57 4 (out_3.map termC) 0]=some (.agg [.own 4 R15.length,.lit (.bool (rawQ (a0.2+(a1.2*a2))).s),natA (rawQ (a0.2+(a1.2*a2))).l1,natA (rawQ (a0.2+(a1.2*a2))).l2],[(4,.row 57 4 (R15.map termC) 0)]))(U6:0≤1∧1≤(l2_3.length:Int)):
  Cont 0 (exec Tryz.prog (tab (n+1)) 0 113 (livesOf 124) big mg_C3) (livesOf 124 3) (mg_h3 a0 a1 a2 l_3 l2_3 out_3) (mg_h3 a0 a1 a2 l_3 (l2_3.drop 1) R15):=by
 have C1_:¬0<l_3.length:=by omega
 have C1_z:(l_3.length:Int)=0:=by omega
 have C1_e:((l_3.length:Int)==0)=true:=by rw [C1_z];simp
 have C2_:0<l2_3.length:=by omega
 have C2_z:(l2_3.length:Int)≠0:=by omega
 have C2_e:((l2_3.length:Int)==0)=false:=by simpa using C2_z
 obtain ⟨EL3,EG3⟩:=List.getElem?_eq_some_iff.1 E3
 have K4:=r_mul (p:=q12) (q:=a2) B4a B4b
 simp only [ratV] at K5
 unfold Cont
 simp+decide [mg_h3,loopsOf, Tryz.f124,mg_C3,C1_,C1_e,C2_,C2_e,EG3,K4,K5,U6]
theorem mg_x3_1(C1:¬0<(l_3.length:Int))(C2:¬0<(l2_3.length:Int)):
  Leave 0 (exec Tryz.prog (tab (n+1)) 0 113 (livesOf 124) big mg_C3) (livesOf 124 (outOf 3)) (mg_h3 a0 a1 a2 l_3 l2_3 out_3) (.exit 0) (mg_o3a a0 a1 a2 out_3):=by
 have C1_:¬0<l_3.length:=by omega
 have C2_:¬0<l2_3.length:=by omega
 unfold Leave
 simp+decide [mg_h3,loopsOf, Tryz.f124,mg_o3a,mg_C3,C1_,C2_]
theorem mg_f1(B1a:H a1.2≤17179869184)(B1b:H a2≤17179869184)(B2a:H a0.2≤17179869184)(B2b:H (a1.2*a2)≤17179869184)(L3:loopG Tryz.prog (tab (n+1)) 0 113 (livesOf 124) 3 mg_C3 (mg_h3 a0 a1 a2 a0.1 a1.1 [])=some (.exit 0,mg_o3a a0 a1 a2 out_3)):
  run (n+1) 124 [formV a0,formV a1,ratV a2]=some (formV (out_3,a0.2+(a1.2*a2))):=by
 have K1:=r_mul (p:=a1.2) (q:=a2) B1a B1b
 have K2:=r_add (p:=a0.2) (q:=a1.2*a2) B2a B2b
 unfold run fnP
 simp+decide [Tryz.f124,K1,K2]
 rw [loopX_G (C':=mg_C3) (e:=(mg_h3 a0 a1 a2 a0.1 a1.1 [])) ?_ ?_,L3]
 rotate_left
 ·kernel_rfl
 ·simp+decide [mg_h3]
 simp+decide [mg_o3a]
end
section
attribute [local irreducible] run runL loopG exec
def mgK:List (Int × Rat)→List (Int × Rat)→Nat
 | [],m=>m.length
 | a::l,[]=>(a::l).length
 | a::l,b::m=>1+if a.1<b.1 then mgK l (b::m) else if b.1<a.1 then mgK (a::l) m else mgK l m
termination_by l m=>l.length+m.length
theorem mgK_nil(m:List (Int × Rat)):mgK [] m=m.length:=by rw [mgK]
theorem mgK_a(a:Int × Rat)(l:List (Int × Rat)):mgK (a::l) []=l.length+1:=by rw [mgK];rfl
theorem mgK_ab(a b:Int × Rat)(l m:List (Int × Rat)):mgK (a::l) (b::m)=1+if a.1<b.1 then mgK l (b::m) else if b.1<a.1 then mgK (a::l) m else mgK l m:=by rw [mgK]
theorem mgK_one(l:List (Int × Rat)):mgK l []=l.length:=by cases l;exact mgK_nil [];exact mgK_a _ _
theorem mgK_le:∀(k:Nat) (l m:List (Int × Rat)),l.length+m.length≤k→mgK l m≤l.length+m.length
 | k,[],m,h=>by rw [mgK_nil];simp
 | k,a::l,[],h=>by rw [mgK_a];simp
 | 0,a::l,b::m,h=>by simp at h
 | k+1,a::l,b::m,h=>by
   simp only [List.length_cons] at h
   have h1:=mgK_le k l (b::m) (by simp <;>omega)
   have h2:=mgK_le k (a::l) m (by simp <;>omega)
   have h3:=mgK_le k l m (by omega)
   simp only [List.length_cons] at h1 h2
   rw [mgK_ab]
   simp only [List.length_cons]
   split
   ·omega
   ·split <;>omega
structure MgS where
 l:List (Int × Rat)
 m:List (Int × Rat)
 out:List (Int × Rat)
theorem put_no{v:Int}{q:Rat}(h:q=0):put1 v q=[]:=if_pos h
theorem put_yes{v:Int}{q:Rat}(h:¬q=0):put1 v q=[(v,q)]:=if_neg h
theorem merge_c{n:Nat}{f g:Form}{c:Rat}{b:Nat}(hF:∀t∈f.1,H t.2≤b)(hG:∀t∈g.1,H t.2≤b)(hb:b≤1000000)(hc:H c≤1000000)(hk:H f.2≤1000000)(hk2:H g.2≤1000000)(hlf:f.1.length≤1000000)(hlg:g.1.length≤1000000):
  run (n+1) 124 [formV f,formV g,ratV c]=some (formV (mergeV f.1 g.1 c,f.2+g.2*c)):=by
 have hm:=H_mul g.2 c
 have ha:=H_add f.2 (g.2*c)
 have hM:=mgK_le _ f.1 g.1 (Nat.le_refl _)
 obtain ⟨b',hL,hI⟩:=loopG_R (O:=tab (n+1)) (P:= Tryz.prog) (m:=0) (N:=113) (lives:=livesOf 124) (r:=3) (C:=mg_C3) (exN:=.exit 0) (M:=mgK f.1 g.1) (enc:=fun i (s:MgS)=>mg_h3 f g c s.l s.m s.out) (out:=fun s=>mg_o3a f g c s.out)
  (fun i s=>s.out++mergeV s.l s.m c=mergeV f.1 g.1 c∧mgK s.l s.m+i=mgK f.1 g.1∧s.out.length≤i∧(∀t∈s.l,H t.2≤b)∧∀t∈s.m,H t.2≤b) ⟨f.1,g.1,[]⟩ ⟨rfl,rfl,by simp,hF,hG⟩ (by omega) (by simp)
  (fun i s hi hI=>by
   obtain ⟨l,m,out⟩:=s
   obtain ⟨i1,i2,i3,i4,i5⟩:=hI
   dsimp only at i1 i2 i3 i4 i5 ⊢
   have fin:∀(l' m':List (Int × Rat)) (v:Int) (q:Rat),mergeV l m c=put1 v q++mergeV l' m' c→mgK l m=1+mgK l' m'→(∀t∈l',H t.2≤b)→(∀t∈m',H t.2≤b)→∀(q':Rat),q'=q→
     (out++put1 v q')++mergeV l' m' c=mergeV f.1 g.1 c∧mgK l' m'+(i+1)=mgK f.1 g.1∧(out++put1 v q').length≤i+1∧(∀t∈l',H t.2≤b)∧∀t∈m',H t.2≤b:=fun l' m' v q h1 h2 h3 h4 q' hq=>by
    subst hq
    refine ⟨by rw [List.append_assoc,←h1];exact i1,by omega,?_,h3,h4⟩
    have:=put1_len v q'
    rw [List.length_append];omega
   match l,m with
   | [],[]=>rw [mgK_nil] at i2;simp at i2;omega
   | (v,q)::l,[]=>
     have e:=fin l [] v q (mergeV_a (v,q) l c) (by rw [mgK_a,mgK_one];omega) (fun t ht=>i4 t (by simp [ht])) i5 q rfl
     have hq:H q≤b:=i4 (v,q) (by simp)
     by_cases h0:q=0
     ·rw [put_no h0,List.append_nil] at e
      exact ⟨⟨l,[],out⟩,mg_r3_1 (l_3:=(v,q)::l) (by simp <;>omega) (by simp) rfl (pt_same (by omega) h0) ⟨by omega,by simp <;>omega⟩,e⟩
     ·rw [put_yes h0] at e
      exact ⟨⟨l,[],out++[(v,q)]⟩,mg_r3_2 (l_3:=(v,q)::l) (by simp <;>omega) (by simp) rfl (pt_new (by omega) h0 (by omega)) ⟨by omega,by simp <;>omega⟩,e⟩
   | [],(u,p)::m=>
     have e:=fin [] m u (p*c) (mergeV_b (u,p) m c) (by rw [mgK_nil,mgK_nil,List.length_cons];omega) i4 (fun t ht=>i5 t (by simp [ht])) (p*c) rfl
     have hp:H p≤b:=i5 (u,p) (by simp)
     have hpc:=H_mul p c
     by_cases h0:p*c=0
     ·rw [put_no h0,List.append_nil] at e
      exact ⟨⟨[],m,out⟩,mg_r3_9 (l2_3:=(u,p)::m) (by simp) (by simp <;>omega) rfl (by omega) (by omega) (pt_same (by omega) h0) ⟨by omega,by simp <;>omega⟩,e⟩
     ·rw [put_yes h0] at e
      exact ⟨⟨[],m,out++[(u,p*c)]⟩,mg_r3_10 (l2_3:=(u,p)::m) (by simp) (by simp <;>omega) rfl (by omega) (by omega) (pt_new (by omega) h0 (by omega)) ⟨by omega,by simp <;>omega⟩,e⟩
   | (v,q)::l,(u,p)::m=>
     have hq:H q≤b:=i4 (v,q) (by simp)
     have hp:H p≤b:=i5 (u,p) (by simp)
     have hpc:=H_mul p c
     have hqp:=H_add q (p*c)
     have hk:=mgK_ab (v,q) (u,p) l m
     dsimp only at hk
     by_cases c1:v<u
     ·rw [if_pos c1] at hk
      have e:=fin l ((u,p)::m) v q (mergeV_lt c1 l m c) hk (fun t ht=>i4 t (by simp [ht])) i5 q rfl
      by_cases h0:q=0
      ·rw [put_no h0,List.append_nil] at e
       exact ⟨⟨l,(u,p)::m,out⟩,mg_r3_3 (l_3:=(v,q)::l) (l2_3:=(u,p)::m) (by simp <;>omega) (by simp <;>omega) rfl rfl c1 (pt_same (by omega) h0) ⟨by omega,by simp <;>omega⟩,e⟩
      ·rw [put_yes h0] at e
       exact ⟨⟨l,(u,p)::m,out++[(v,q)]⟩,mg_r3_4 (l_3:=(v,q)::l) (l2_3:=(u,p)::m) (by simp <;>omega) (by simp <;>omega) rfl rfl c1 (pt_new (by omega) h0 (by omega)) ⟨by omega,by simp <;>omega⟩,e⟩
     ·rw [if_neg c1] at hk
      by_cases c2:u<v
      ·rw [if_pos c2] at hk
       have e:=fin ((v,q)::l) m u (p*c) (mergeV_gt c2 l m c) hk i4 (fun t ht=>i5 t (by simp [ht])) (p*c) rfl
       by_cases h0:p*c=0
       ·rw [put_no h0,List.append_nil] at e
        exact ⟨⟨(v,q)::l,m,out⟩,mg_r3_5 (l_3:=(v,q)::l) (l2_3:=(u,p)::m) (by simp <;>omega) (by simp <;>omega) rfl rfl c1 c2 (by omega) (by omega) (pt_same (by omega) h0) ⟨by omega,by simp <;>omega⟩,e⟩
       ·rw [put_yes h0] at e
        exact ⟨⟨(v,q)::l,m,out++[(u,p*c)]⟩,mg_r3_6 (l_3:=(v,q)::l) (l2_3:=(u,p)::m) (by simp <;>omega) (by simp <;>omega) rfl rfl c1 c2 (by omega) (by omega) (pt_new (by omega) h0 (by omega)) ⟨by omega,by simp <;>omega⟩,e⟩
      ·rw [if_neg c2] at hk
       have huv:v=u:=by omega
       have e:=fin l m v (q+p*c) (mergeV_eq huv l m c) hk (fun t ht=>i4 t (by simp [ht])) (fun t ht=>i5 t (by simp [ht])) (q+p*c) rfl
       by_cases h0:q+p*c=0
       ·rw [put_no h0,List.append_nil] at e
        exact ⟨⟨l,m,out⟩,mg_r3_7 (l_3:=(v,q)::l) (l2_3:=(u,p)::m) (by simp <;>omega) (by simp <;>omega) rfl rfl c1 c2 (by omega) (by omega) (by omega) (by omega) (pt_same (by omega) h0) ⟨by omega,by simp <;>omega⟩ ⟨by omega,by simp <;>omega⟩,e⟩
       ·rw [put_yes h0] at e
        exact ⟨⟨l,m,out++[(v,q+p*c)]⟩,mg_r3_8 (l_3:=(v,q)::l) (l2_3:=(u,p)::m) (by simp <;>omega) (by simp <;>omega) rfl rfl c1 c2 (by omega) (by omega) (by omega) (by omega) (pt_new (by omega) h0 (by omega)) ⟨by omega,by simp <;>omega⟩ ⟨by omega,by simp <;>omega⟩,e⟩)
  (fun s hI=>by
   obtain ⟨l,m,out⟩:=s
   obtain ⟨_,i2,_⟩:=hI
   dsimp only at i2 ⊢
   have h0:l=[]∧m=[]:=by
    match l,m with
    | [],[]=>exact ⟨rfl,rfl⟩
    | a::l,[]=>rw [mgK_a] at i2;omega
    | [],b::m=>rw [mgK_nil] at i2;simp at i2
    | a::l,b::m=>rw [mgK_ab] at i2;omega
   obtain ⟨rfl,rfl⟩:=h0
   exact mg_x3_1 (by simp) (by simp))
 obtain ⟨l,m,out⟩:=b'
 obtain ⟨i1,i2,_⟩:=hI
 dsimp only at i1 i2 hL
 have h0:l=[]∧m=[]:=by
  match l,m with
  | [],[]=>exact ⟨rfl,rfl⟩
  | a::l,[]=>rw [mgK_a] at i2;omega
  | [],b::m=>rw [mgK_nil] at i2;simp at i2
  | a::l,b::m=>rw [mgK_ab] at i2;omega
 obtain ⟨rfl,rfl⟩:=h0
 rw [mergeV_nil,List.append_nil] at i1
 subst i1
 exact mg_f1 (by omega) (by omega) (by omega) (by omega) hL
end
noncomputable def lsb_C4:Code:=(loopsOf (bodyOf Tryz.f105)).getD 0 .skip
def lsb_h4(a0:Form)(a1:Int)(a2:Form)(i_4:Nat)(out_4:List (Int × Rat))(s_4:Rat):St:=
 ⟨[(1,.lit (.int .i64 a1)),(5,.ptr 0 0),(6,.ptr 1 0),(7,.ptr 2 0),(8,.ptr 4 0),(16,.sl 4 (a0.1.map termC)),(17,.lit (.int .i64 (a0.1.length:Int))),(18,.lit (.int .i64 (i_4:Int)))],
  [(0,some (.box 45 [.sl 4 (a2.1.map termC),.lit (.bool (rawQ a2.2).s),natA (rawQ a2.2).l1,natA (rawQ a2.2).l2] false)),
   (1,some (.box 45 [.nl 4,.lit (.bool false),.nl 1,.nl 1] false)),
   (2,some (.box 45 [.own 3 out_4.length,.lit (.bool (rawQ a0.2).s),natA (rawQ a0.2).l1,natA (rawQ a0.2).l2] false)),
   (3,some (.row 57 4 (out_4.map termC) 0)),
   (4,some (.box 34 [.lit (.bool (rawQ s_4).s),natA (rawQ s_4).l1,natA (rawQ s_4).l2] false))],5⟩
def lsb_o4a(a0:Form)(a2:Form)(out_4:List (Int × Rat))(s_4:Rat):St:=
 ⟨[(5,.ptr 0 0),(6,.ptr 1 0),(7,.ptr 2 0),(8,.ptr 4 0)],
  [(0,some (.box 45 [.sl 4 (a2.1.map termC),.lit (.bool (rawQ a2.2).s),natA (rawQ a2.2).l1,natA (rawQ a2.2).l2] false)),
   (1,some (.box 45 [.nl 4,.lit (.bool false),.nl 1,.nl 1] false)),
   (2,some (.box 45 [.own 3 out_4.length,.lit (.bool (rawQ a0.2).s),natA (rawQ a0.2).l1,natA (rawQ a0.2).l2] false)),
   (3,some (.row 57 4 (out_4.map termC) 0)),
   (4,some (.box 34 [.lit (.bool (rawQ s_4).s),natA (rawQ s_4).l1,natA (rawQ s_4).l2] false))],5⟩
section
variable{n:Nat}{v3:Int}{a1:Int}{s_4:Rat}{i_4:Nat}{q3:Rat}{a0:Form}{a2:Form}{out_4:List (Int × Rat)}{r:Form}
theorem lsb_r4_1(C1:(i_4:Int)<(a0.1.length:Int))(E2:a0.1[i_4]?=some (v3,q3))(C3:v3=a1)(W4:InI ((i_4:Int)+1)):
  Cont 0 (exec Tryz.prog (tab (n+2)) 0 39 (livesOf 105) big lsb_C4) (livesOf 105 4) (lsb_h4 a0 a1 a2 i_4 out_4 s_4) (lsb_h4 a0 a1 a2 (i_4+1) out_4 q3):=by
 have C1_:i_4<a0.1.length:=by omega
 obtain ⟨EL2,EG2⟩:=List.getElem?_eq_some_iff.1 E2
 have C3_:(v3==a1)=true:=by rw [C3];simp
 have C3_n:(v3 !=a1)=false:=by rw [C3];simp
 have W4_:IntKind.i64.wrap ((i_4:Int)+1)=(i_4:Int)+1:=wr64 W4.1 W4.2
 unfold Cont
 simp+decide [lsb_h4,loopsOf, Tryz.f105,lsb_C4,natA,C1,C1_,EL2,EG2,E2,C3_,C3_n,W4_]
theorem lsb_r4_2(C1:(i_4:Int)<(a0.1.length:Int))(E2:a0.1[i_4]?=some (v3,q3))(C3:¬v3=a1)(M4:out_4.length+1≤100000000)(W5:InI ((i_4:Int)+1)):
  Cont 0 (exec Tryz.prog (tab (n+2)) 0 39 (livesOf 105) big lsb_C4) (livesOf 105 4) (lsb_h4 a0 a1 a2 i_4 out_4 s_4) (lsb_h4 a0 a1 a2 (i_4+1) (out_4++[(v3,q3)]) s_4):=by
 have C1_:i_4<a0.1.length:=by omega
 obtain ⟨EL2,EG2⟩:=List.getElem?_eq_some_iff.1 E2
 have C3_:(v3==a1)=false:=by simpa using C3
 have C3_n:(v3 !=a1)=true:=by simpa using C3
 have M4_:∀b,b≤10000→roomy (out_4.length+1) b=true:=fun b hb=>roomy_s M4 hb
 have W5_:IntKind.i64.wrap ((i_4:Int)+1)=(i_4:Int)+1:=wr64 W5.1 W5.2
 unfold Cont
 simp+decide [lsb_h4,loopsOf, Tryz.f105,lsb_C4,natA,C1,C1_,EL2,EG2,E2,C3_,C3_n,M4_,W5_]
theorem lsb_x4_1(C1:¬(i_4:Int)<(a0.1.length:Int)):
  Leave 0 (exec Tryz.prog (tab (n+2)) 0 39 (livesOf 105) big lsb_C4) (livesOf 105 (outOf 4)) (lsb_h4 a0 a1 a2 i_4 out_4 s_4) (.exit 0) (lsb_o4a a0 a2 out_4 s_4):=by
 have C1_:¬i_4<a0.1.length:=by omega
 unfold Leave
 simp+decide [lsb_h4,loopsOf, Tryz.f105,lsb_o4a,lsb_C4,C1,C1_]
theorem lsb_f1(L1:loopG Tryz.prog (tab (n+2)) 0 39 (livesOf 105) 4 lsb_C4 (lsb_h4 a0 a1 a2 0 [] 0)=some (.exit 0,lsb_o4a a0 a2 out_4 s_4))(K2:run (n+1) 124 [formV (out_4,a0.2),formV a2,ratV s_4]=some (formV r)):
  run (n+2) 105 [formV a0,.lit (.int .i64 a1),formV a2]=some (formV r):=by
 simp only [ratV,formV] at K2
 unfold run fnP
 simp+decide [Tryz.f105,K2]
 rw [loopX_G (C':=lsb_C4) (e:=(lsb_h4 a0 a1 a2 0 [] 0)) ?_ ?_,L1]
 rotate_left
 ·kernel_rfl
 ·simp+decide [lsb_h4,K2]
 simp+decide [lsb_o4a,K2]
end
theorem fsb_f1{n:Nat}{a0:Form}{a1:Int}{a2:Form}{r:Rat}{r2:Form}{r3:Form}{r4:Form}(K1:run (n+2) 85 [formV a0,.lit (.int .i64 a1)]=some (ratV r))(B2a:H r≤17179869184)(K3:run (n+2) 52 [formV a0,.lit (.int .i64 a1),ratV (-r)]=some (formV r2))(K4:run (n+2) 50 [formV a2,ratV r]=some (formV r3))(K5:run (n+2) 31 [formV r2,formV r3]=some (formV r4)):
  run (n+3) 59 [formV a0,.lit (.int .i64 a1),formV a2]=some (formV r4):=by
 simp only [ratV,formV] at K1
 have K2:=r_neg (p:=r) B2a
 simp only [ratV,formV] at K3
 simp only [ratV,formV] at K4
 simp only [formV] at K5
 unfold run fnP
 simp+decide [Tryz.f59,K1,K2,K3,K4,K5]
end Go.Proofs.YtefdjbknmfeooaaGreatDoor
