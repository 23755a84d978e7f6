import Derived.Test.YtefdjbknmfeooaaGreatDoorGO18
import Derived.Test.YtefdjbknmfeooaaGreatDoorGO19
import Derived.Test.YtefdjbknmfeooaaGreatDoorGO20
import Derived.Test.YtefdjbknmfeooaaGreatDoorGO21
import Derived.Test.YtefdjbknmfeooaaGreatDoorGO22
import Derived.Test.YtefdjbknmfeooaaGreatDoorGO16
set_option linter.all false
set_option maxHeartbeats 6400000
set_option maxRecDepth 100000
namespace Go.Proofs.YtefdjbknmfeooaaGreatDoor
section
open Go.RowKit
attribute [local irreducible] run runL loopG exec
theorem rpdlow_c{n:Nat}{a0:List Form}{v:Int}{b:Form}{o:List Form}{i:Nat}{r:Form}(hr:r.1.length≤1000000)(hv:∀t∈r.1,0≤t.1∧t.1<1000000):
  loopG Tryz.prog (tab (n+3)) 0 54 (livesOf 80) 8 rpd_C8 (rpd_h8 a0 v b o i r.1 r 0)=some (.exit 2,rpd_o8a a0 v b o i (lowT v r.1) r):=by
 obtain ⟨d,L,hd1,hd2⟩:=loopG_R (β:=List (Int × Rat)) (P:= Tryz.prog) (O:=tab (n+3)) (m:=0) (N:=54) (lives:=livesOf 80) (r:=8) (C:=rpd_C8) (M:=r.1.length) (enc:=fun k d=>rpd_h8 a0 v b o i d r k) (exN:=.exit 2) (out:=fun d=>rpd_o8a a0 v b o i d r) (fun k d=>d.length=r.1.length∧∀j,d[j]?=if j<k then (r.1[j]?).map (fun t=>(lowV v t.1,t.2)) else r.1[j]?) r.1 ⟨rfl,fun j=>by rw [if_neg (by omega)]⟩ (by omega) (fun h=>by cases h)
  (fun k d hk hI=>by
   obtain ⟨h1,h2⟩:=hI
   have ht:r.1[k]?=some r.1[k]:=List.getElem?_eq_getElem hk
   generalize r.1[k]=t at ht
   obtain ⟨u,q⟩:=t
   have hu:=hv (u,q) (List.mem_of_getElem? ht)
   have hu:0≤u∧u<1000000:=hu
   have e:d[k]?=some (u,q):=by rw [h2,if_neg (by omega),ht]
   by_cases c:v<u
   ·refine ⟨d.set k (u-1,q),rpd_r8_1 (by omega) (by omega) e c ⟨by omega,by omega⟩ ⟨by omega,by omega⟩,by simpa using h1,fun j=>?_⟩
    rw [List.getElem?_set]
    by_cases cj:k=j
    ·subst cj
     rw [if_pos rfl,if_pos (by omega),if_pos (by omega),ht]
     show some (u-1,q)=some (lowV v u,q)
     unfold lowV
     rw [if_pos c]
    ·rw [if_neg cj,h2]
     by_cases c3:j<k
     ·rw [if_pos c3,if_pos (by omega)]
     ·rw [if_neg c3,if_neg (by omega)]
   ·refine ⟨d,rpd_r8_2 (by omega) (by omega) e c ⟨by omega,by omega⟩,h1,fun j=>?_⟩
    rw [h2]
    by_cases cj:j=k
    ·subst cj
     rw [if_neg (by omega),if_pos (by omega),ht]
     show some (u,q)=some (lowV v u,q)
     unfold lowV
     rw [if_neg c]
    ·by_cases c3:j<k
     ·rw [if_pos c3,if_pos (by omega)]
     ·rw [if_neg c3,if_neg (by omega)])
  (fun d hI=>rpd_x8_1 (by omega))
 have e:d=lowT v r.1:=by
  refine List.ext_getElem? fun j=>?_
  rw [hd2 j]
  show _=(r.1.map fun t=>(lowV v t.1,t.2))[j]?
  rw [List.getElem?_map]
  split
  ·rfl
  ·rw [List.getElem?_eq_none (by omega)];rfl
 rw [e] at L
 exact L
theorem replaced_c{n:Nat}{L:List Form}{v:Int}{b:Form}{m K:Nat}(hL:∀f∈L,Srt f.1∧InR K f.1∧HB m f)(hs:Srt b.1)(hi:InR K b.1)(hb:HB m b)(hm:m≤100000)(h1:1≤m)(hK:K≤1000)(hl:L.length≤1000):
  run (n+3) 80 [.sl 4 (L.map formC),.lit (.int .i64 v),formV b]=some (.sl 4 ((L.map (rpF v b)).map formC)):=by
 have hbl:=inr_len hs hi
 obtain ⟨o,L1,ho⟩:=loopG_R (β:=List Form) (P:= Tryz.prog) (O:=tab (n+3)) (m:=0) (N:=54) (lives:=livesOf 80) (r:=3) (C:=rpd_C3) (M:=L.length) (enc:=fun i o=>rpd_h3 L v b o i) (exN:=.exit 0) (out:=fun o=>rpd_o3a o) (fun i o=>o=(L.take i).map (rpF v b)) [] rfl (by omega) (fun h=>by cases h)
  (fun i o hi2 hI=>by
   have hf:L[i]?=some L[i]:=List.getElem?_eq_getElem hi2
   generalize L[i]=f at hf
   obtain ⟨F,q⟩:=f
   obtain ⟨s1,s2,s3⟩:=hL _ (List.mem_of_getElem? hf)
   have hfl:F.length≤K:=inr_len s1 s2
   have K3:=lsb_c (n:=n) (f:=(F,q)) (g:=b) (v:=v) (b:=m) s1 (fun t ht=>(s3.1 t ht).2) (fun t ht=>(hb.1 t ht).2) (by omega) h1 (Nat.le_trans s3.2 (by omega)) (Nat.le_trans hb.2 (by omega)) (by dsimp only;omega) (by omega)
   rw [merge_add (rst_srt s1) hs] at K3
   have ir:InR K (addV (rst F v) (sclV b.1 (cof F v))):=(InR.rst s2).add (InR.scl hi)
   have hsr:Srt (addV (rst F v) (sclV b.1 (cof F v))):=(add_srt (rst_srt s1) (scl_srt hs).1).1
   have hll:=inr_len hsr ir
   have hol:o.length=i:=by rw [hI,List.length_map,List.length_take];omega
   refine ⟨_,rpd_r3_1 (by omega) hf K3 (by dsimp only;omega) (rpdlow_c (by dsimp only;omega) fun t ht=>by have:=ir t ht;omega) (by omega) ⟨by omega,by omega⟩,?_⟩
   rw [hI,List.take_add_one,hf,List.map_append]
   rfl)
  (fun o hI=>rpd_x3_1 (by omega))
 rw [List.take_of_length_le (Nat.le_refl _)] at ho
 rw [←ho]
 exact rpd_f1 L1
theorem replace_c{n:Nat}{g:TGraph}{j:Nat}{b:Form}(h:SG g)(hj:j<g.Units.length)(hb:ByOk g j b):
  run (n+4) 54 [graphV g,.lit (.int .i64 (j:Int)),formV b]=some (graphV (rpG g j b)):=by
 have i0:=h.i0
 have i1:=h.i1
 have u8:=h.u
 have o1:=h.o1
 have bf:=hb.bef i0
 have h2:=hbd_two u8
 have ht:=hbd_top g.Units.length
 have hbb:HB (hbd g.Units.length) b:=⟨by
  rcases hb.s2 with e|⟨k,e⟩
  ·rw [e];exact fun t ht=>by cases ht
  ·rw [e]
   exact fun t ht=>by
    rw [List.mem_singleton.1 ht]
    exact ⟨by show (1:Rat)≠0;decide,by show H 1≤_;rw [show H 1=1 from by decide+kernel];omega⟩,hb.h⟩
 have hbi:InR (g.Inputs.toNat+g.Units.length) b.1:=fun t ht=>by have:=bf.r t ht;omega
 have a1:∀f∈g.Units.drop (j+1),Srt f.1∧InR (g.Inputs.toNat+g.Units.length) f.1∧HB (hbd g.Units.length) f:=fun f hf=>by
  have hf2:=List.mem_of_mem_drop hf
  obtain ⟨i,hi⟩:=List.mem_iff_getElem?.1 hf2
  obtain ⟨s1,s2⟩:=h.us i f hi
  have hil:=(List.getElem?_eq_some_iff.1 hi).1
  exact ⟨s1,fun t ht=>by have:=s2 t ht;omega,h.hu f hf2⟩
 have a2:∀f∈g.Outputs,Srt f.1∧InR (g.Inputs.toNat+g.Units.length) f.1∧HB (hbd g.Units.length) f:=fun f hf=>⟨(h.os f hf).1,(h.os f hf).2,h.ho f hf⟩
 have K6:=replaced_c (n:=n) (v:=g.Inputs+(j:Int)) a1 bf.s hbi hbb (by omega) (by omega) (by omega) (by rw [List.length_drop];omega)
 have K8:=replaced_c (n:=n) (v:=g.Inputs+(j:Int)) a2 bf.s hbi hbb (by omega) (by omega) (by omega) (by omega)
 exact rpl_f1 (A:=g.Units.take j) (D:=g.Units.drop (j+1)) (by rw [Int.toNat_natCast,←List.map_take]) (by rw [show ((j:Int)+1).toNat=j+1 from by omega,←List.map_drop]) ⟨by omega,by omega⟩ ⟨by omega,by omega,by omega⟩ (by rw [List.length_take];omega) ⟨by omega,by omega⟩ ⟨by omega,by omega⟩ K6 (by rw [List.length_append,List.length_take,List.length_map,List.length_drop];omega) K8
theorem pmx0_c{n:Nat}{q:Rat}(hq:H q≤1000000):run n 55 [ratV q,.agg [.lit (.bool false),.sl 1 [],.sl 1 []]]=some (ratV (max q 0)):=by
 have e:ratV 0=.agg [.lit (.bool false),.sl 1 [],.sl 1 []]:=by simp
 have h0:H 0≤17179869184:=by decide
 rw [←e]
 have hs:=@sgq_nonneg (q-0)
 by_cases h:0≤q
 ·rw [show max q 0=q from by rw [Rat.max_def];split <;>grind]
  exact pmx_f1 (by omega) h0 (hs.2 (by grind))
 ·rw [show max q 0=0 from by rw [Rat.max_def];split <;>grind]
  exact pmx_f2 (by omega) h0 fun h2=>h (by have:=hs.1 h2;grind)
theorem constants_c{n:Nat}{g:TGraph}(h:SG g):run (n+5) 35 [graphV g]=some (graphV (coP g)):=by
 have u8:=h.u
 obtain ⟨⟨x,j⟩,L1,hI⟩:=loopG_R (β:=TGraph × Nat) (P:= Tryz.prog) (O:=tab (n+5)) (m:=0) (N:=30) (lives:=livesOf 35) (r:=2) (C:=cns_C2) (M:=g.Units.length) (enc:=fun _ s=>cns_h2 s.2 s.1.Inputs s.1.Units s.1.Outputs) (exN:=.exit 0) (out:=fun s=>cns_o2a s.1.Inputs s.1.Units s.1.Outputs) (fun i s=>SG s.1∧s.1.Units.length+i=s.2+g.Units.length∧i≤g.Units.length∧cnL (g.Units.length-i) s.1 s.2=coP g) (g,0) ⟨h,by dsimp only;omega,by omega,rfl⟩ (by omega) (fun h=>by cases h)
  (fun i s hi hI=>by
   obtain ⟨x,j⟩:=s
   obtain ⟨h1,h2,h3,h4⟩:=hI
   dsimp only at h1 h2 h4 ⊢
   have ux:=h1.u
   obtain ⟨k,hk⟩:∃k,g.Units.length-i=k+1:=⟨g.Units.length-i-1,by omega⟩
   have hj:j<x.Units.length:=by omega
   have hf:x.Units[j]?=some x.Units[j]:=List.getElem?_eq_getElem hj
   generalize x.Units[j]=f at hf
   rw [hk,cnL,hf] at h4
   dsimp only at h4
   obtain ⟨F,q⟩:=f
   have hB:=h1.hu _ (List.mem_of_getElem? hf)
   have ht:=hbd_top x.Units.length
   by_cases c:F=[]
   ·rw [if_pos c] at h4
    have hl:=rpG_len (b:=coB (F,q)) hj
    have hq:H q≤hbd x.Units.length:=hB.2
    exact ⟨(rpG x j (coB (F,q)),j),cns_r2_1 (by omega) hf (by rw [c];rfl) (pmx0_c (by omega)) (replace_c h1 hj (coB_ok h1 hf)),rpG_sg h1 hj (coB_ok h1 hf),by dsimp only;omega,by omega,by rw [show g.Units.length-(i+1)=k from by omega];exact h4⟩
   ·rw [if_neg c] at h4
    have hF:¬(F.length:Int)=0:=fun e=>c (List.length_eq_zero_iff.1 (by omega))
    exact ⟨(x,j+1),cns_r2_2 (by omega) hf hF ⟨by omega,by omega⟩,h1,by dsimp only;omega,by omega,by rw [show g.Units.length-(i+1)=k from by omega];exact h4⟩)
  (fun s hI=>cns_x2_1 (by have:=hI.2.1;omega))
 obtain ⟨h1,h2,h3,h4⟩:=hI
 rw [Nat.sub_self,cnL] at h4
 dsimp only at h4 L1
 subst h4
 exact cns_f1 L1
theorem bab_eq(a b:ByteArray):(a==b)=decide (a=b):=by
 by_cases h:a=b
 ·rw [decide_eq_true h]
  exact (MapKept.bytes_beq a b).2 h
 ·rw [decide_eq_false h,Bool.eq_false_iff]
  exact fun e=>h ((MapKept.bytes_beq a b).1 e)
theorem findM_put_same{s:ByteArray}{v:Value}:∀{l:List (ByteArray × Value)},findM s (putM s v l)=some v
 | []=>by rw [putM,findM,bab_eq,decide_eq_true rfl,if_pos rfl]
 | (k,u)::l=>by
   rw [putM]
   split
   ·rw [findM,bab_eq,decide_eq_true rfl,if_pos rfl]
   ·rename_i c
    rw [findM,if_neg c]
    exact findM_put_same
theorem findM_put_ne{s t:ByteArray}{v:Value}(h:s≠t):∀{l:List (ByteArray × Value)},findM s (putM t v l)=findM s l
 | []=>by
   show (if (s==t)=true then some v else none)=none
   rw [bab_eq,decide_eq_false h,if_neg Bool.false_ne_true]
 | (k,u)::l=>by
   rw [putM]
   split
   ·rename_i c
    have e:t=k:=by rw [bab_eq] at c;exact of_decide_eq_true c
    subst e
    rw [findM,findM,bab_eq,decide_eq_false h,if_neg Bool.false_ne_true,if_neg Bool.false_ne_true]
   ·rw [findM,findM,findM_put_ne h]
theorem SG.tx{g:TGraph}(h:SG g){i:Nat}{f:Form}(hf:g.Units[i]?=some f):TxB f∧∀t∈f.1,0≤t.1:=by
 have hl:=h.len hf
 obtain ⟨s1,s2⟩:=h.us i f hf
 have hi:=(List.getElem?_eq_some_iff.1 hf).1
 have hB:=h.hu f (List.mem_of_getElem? hf)
 have ht:=hbd_txt (u:=g.Units.length) (by omega)
 have u8:=h.u
 have i1:=h.i1
 exact ⟨⟨by omega,fun t ht=>⟨by have:=(hB.1 t ht).2;omega,by have:=s2 t ht;omega,by have:=s2 t ht;omega⟩,by have:=hB.2;omega⟩,fun t ht=>(s2 t ht).1⟩
structure Frs (U:List Form) (j:Nat) (mp:List (ByteArray × Value)):Prop where
 d:∀i k f,k<i→i<j→U[i]?=some f→U[k]?≠some f
 y:∀k f,k<j→U[k]?=some f→findM (bs (txt f)) mp=some (.int .i64 (k:Int))
 n:∀s,(∀k f,k<j→U[k]?=some f→s≠bs (txt f))→findM s mp=none
theorem Frs.cut{U V:List Form}{j:Nat}{mp:List (ByteArray × Value)}(h:Frs U j mp)(e:∀k,k<j→V[k]?=U[k]?):Frs V j mp:=
 ⟨fun i k f hk hi hf=>by rw [e k (by omega)];rw [e i hi] at hf;exact h.d i k f hk hi hf,fun k f hk hf=>by rw [e k hk] at hf;exact h.y k f hk hf,fun s hs=>h.n s fun k f hk hf=>hs k f hk (by rw [e k hk];exact hf)⟩
theorem duplicates_c{n:Nat}{g:TGraph}(h:SG g):run (n+8) 40 [graphV g]=some (graphV (duP g)):=by
 have u8:=h.u
 obtain ⟨⟨x,j,mp⟩,L1,hI⟩:=loopG_R (β:=TGraph × Nat × List (ByteArray × Value)) (P:= Tryz.prog) (O:=tab (n+8)) (m:=0) (N:=44) (lives:=livesOf 40) (r:=3) (C:=dup_C3) (M:=g.Units.length) (enc:=fun _ s=>dup_h3 s.2.1 s.1.Inputs s.1.Units s.1.Outputs s.2.2) (exN:=.exit 0) (out:=fun s=>dup_o3a s.1.Inputs s.1.Units s.1.Outputs) (fun i s=>SG s.1∧s.1.Units.length+i=s.2.1+g.Units.length∧i≤g.Units.length∧duL (g.Units.length-i) s.1 s.2.1=duP g∧Frs s.1.Units s.2.1 s.2.2) (g,0,[]) ⟨h,by dsimp only;omega,by omega,rfl,fun i k f hk hi=>by dsimp only at hi;omega,fun k f hk=>by dsimp only at hk;omega,fun s _=>rfl⟩ (by omega) (fun h=>by cases h)
  (fun i s hi hI=>by
   obtain ⟨x,j,mp⟩:=s
   obtain ⟨h1,h2,h3,h4,h5⟩:=hI
   dsimp only at h1 h2 h4 h5 ⊢
   have ux:=h1.u
   have i0:=h1.i0
   have i1:=h1.i1
   obtain ⟨k,hk⟩:∃k,g.Units.length-i=k+1:=⟨g.Units.length-i-1,by omega⟩
   have hj:j<x.Units.length:=by omega
   have hf:x.Units[j]?=some x.Units[j]:=List.getElem?_eq_getElem hj
   generalize x.Units[j]=f at hf
   rw [hk,duL,hf] at h4
   dsimp only at h4
   obtain ⟨tx,t0⟩:=h1.tx hf
   have K3:=ltx_c (n:=n) tx
   obtain ⟨fs1,fs2,fs3⟩:=fstI_spec hf
   obtain ⟨F,q⟩:=f
   by_cases c:fstI x.Units j<j
   ·rw [if_pos c] at h4
    have hl:=rpG_len (b:=duB x (fstI x.Units j)) hj
    have hk2:=h5.y _ _ c fs2
    have ok:=duB_ok h1 c
    have K7:=replace_c (n:=n+3) h1 hj ok
    exact ⟨(rpG x j (duB x (fstI x.Units j)),j,mp),dup_r3_1 (by omega) hf K3 hk2 ⟨by omega,by omega⟩ K7,rpG_sg h1 hj ok,by dsimp only;omega,by omega,by rw [show g.Units.length-(i+1)=k from by omega];exact h4,h5.cut fun k hk=>by dsimp only;rw [rpG_get hj,if_pos hk]⟩
   ·rw [if_neg c] at h4
    have no:∀k f,k<j→x.Units[k]?=some f→bs (txt (F,q))≠bs (txt f):=fun k f hk hfk e=>by
     have e2:=txt_one t0 (h1.tx hfk).2 (bs_inj e)
     rw [←e2] at hfk
     exact fs3 k (by omega) hfk
    have K4:=h5.n _ no
    refine ⟨(x,j+1,putM (bs (txt (F,q))) (.int .i64 (j:Int)) mp),dup_r3_2 (by omega) hf K3 K4 ⟨by omega,by omega⟩,h1,by dsimp only;omega,by omega,by rw [show g.Units.length-(i+1)=k from by omega];exact h4,fun i2 k2 f2 hk2 hi2 hf2=>?_,fun k2 f2 hk2 hf2=>?_,fun s hs=>?_⟩
    ·dsimp only at hi2 hf2 ⊢
     by_cases e:i2=j
     ·subst e
      rw [hf] at hf2
      cases hf2
      exact fs3 k2 (by omega)
     ·exact h5.d i2 k2 f2 hk2 (by omega) hf2
    ·dsimp only at hk2 hf2 ⊢
     by_cases e:k2=j
     ·subst e
      rw [hf] at hf2
      cases hf2
      exact findM_put_same
     ·rw [findM_put_ne (fun e2=>no k2 f2 (by omega) hf2 e2.symm)]
      exact h5.y k2 f2 (by omega) hf2
    ·dsimp only at hs ⊢
     rw [findM_put_ne (hs j _ (by omega) hf)]
     exact h5.n s fun k2 f2 hk2 hf2=>hs k2 f2 (by omega) hf2)
  (fun s hI=>dup_x3_1 (by have:=hI.2.1;omega))
 obtain ⟨h1,h2,h3,h4,h5⟩:=hI
 rw [Nat.sub_self,duL] at h4
 dsimp only at h4 L1
 subst h4
 exact dup_f1 L1
def zG:TGraph:=⟨0,[],[]⟩
theorem cpyd_c{n:Nat}{g:TGraph}(hB:BdG 17179869184 g):run (n+6) 36 [graphV g]=some (graphV (if tv (OkGr g)=true then g else zG)):=by
 have K:=gvalid_c (n:=n) hB
 by_cases h:OkGr g
 ·rw [if_pos (tv_t h)]
  have hu:=h.u
  have ho:=h.o1
  exact cpd_f2 K (tv_t h) (by omega) (by omega)
 ·rw [if_neg (by rw [tv_f h];simp)]
  exact cpd_f1 K (tv_f h)
end
section
open Go.RowKit
theorem xCo_f1{n:Nat}{a0:TGraph}{r:TGraph}{r2:TGraph}(K1:run (n+6) 36 [graphV a0]=some (graphV r))(K2:run (n+6) 35 [graphV r]=some (graphV r2)):
  run (n+7) 13 [graphV a0]=some (graphV r2):=by
 simp only [graphV] at K1
 simp only [graphV] at K2
 unfold run fnP
 simp+decide [Tryz.f13,K1,K2]
theorem xDu_f1{n:Nat}{a0:TGraph}{r:TGraph}{r2:TGraph}(K1:run (n+8) 36 [graphV a0]=some (graphV r))(K2:run (n+8) 40 [graphV r]=some (graphV r2)):
  run (n+9) 17 [graphV a0]=some (graphV r2):=by
 simp only [graphV] at K1
 simp only [graphV] at K2
 unfold run fnP
 simp+decide [Tryz.f17,K1,K2]
theorem xDe_f1{n:Nat}{a0:TGraph}{r:TGraph}{r2:TGraph}(K1:run (n+6) 36 [graphV a0]=some (graphV r))(K2:run (n+6) 41 [graphV r]=some (graphV r2)):
  run (n+7) 19 [graphV a0]=some (graphV r2):=by
 simp only [graphV] at K1
 simp only [graphV] at K2
 unfold run fnP
 simp+decide [Tryz.f19,K1,K2]
theorem xSi_f1{n:Nat}{a0:TGraph}{r:TGraph}{r2:TGraph}(K1:run (n+9) 36 [graphV a0]=some (graphV r))(K2:run (n+9) 39 [graphV r,.sl 1 [[.clo 35 []],[.clo 40 []],[.clo 41 []]]]=some (graphV r2)):
  run (n+10) 15 [graphV a0]=some (graphV r2):=by
 simp only [graphV] at K1
 simp only [graphV] at K2
 unfold run fnP
 simp+decide [Tryz.f15,K1,K2]
@[simp] def ops3:AV:=.sl 1 [[.clo 35 []],[.clo 40 []],[.clo 41 []]]
noncomputable def al7_C1:Code:=(loopsOf (bodyOf Tryz.f39)).getD 0 .skip
noncomputable def al7_C3:Code:=(loopsOf al7_C1).getD 0 .skip
def al7_B(g:TGraph):List (Nat × Option AB):=[(0,some (.box 24 (graphC g) false)),(1,some (.box 24 [.lit (.int .i64 0),.nl 4,.nl 4] false))]
def al7_h1(g:TGraph):St:=⟨[(1,ops3),(2,.ptr 0 0),(4,.ptr 1 0)],al7_B g,2⟩
def al7_h3(g:TGraph)(m i:Nat):St:=⟨[(1,ops3),(2,.ptr 0 0),(4,.ptr 1 0),(5,.lit (.int .i64 (m:Int))),(11,ops3),(12,.lit (.int .i64 3)),(13,.lit (.int .i64 (i:Int)))],al7_B g,2⟩
def al7_o3(g:TGraph)(m:Nat):St:=⟨[(1,ops3),(2,.ptr 0 0),(4,.ptr 1 0),(5,.lit (.int .i64 (m:Int)))],al7_B g,2⟩
def al7_o1(g:TGraph):St:=⟨[(2,.ptr 0 0),(4,.ptr 1 0)],al7_B g,2⟩
theorem al7_r3_0{n m:Nat}{g h:TGraph}(K:run (n+8) 35 [graphV g]=some (graphV h)):
  Cont 0 (exec Tryz.prog (tab (n+9)) 0 27 (livesOf 39) big al7_C3) (livesOf 39 3) (al7_h3 g m 0) (al7_h3 h m 1):=by
 simp only [graphV] at K
 apply Cont_m
 simp+decide [al7_h3,al7_B,loopsOf, Tryz.f39,al7_C1,al7_C3,K]
theorem al7_r3_1{n m:Nat}{g h:TGraph}(K:run (n+8) 40 [graphV g]=some (graphV h)):
  Cont 0 (exec Tryz.prog (tab (n+9)) 0 27 (livesOf 39) big al7_C3) (livesOf 39 3) (al7_h3 g m 1) (al7_h3 h m 2):=by
 simp only [graphV] at K
 apply Cont_m
 simp+decide [al7_h3,al7_B,loopsOf, Tryz.f39,al7_C1,al7_C3,K]
theorem al7_r3_2{n m:Nat}{g h:TGraph}(K:run (n+8) 41 [graphV g]=some (graphV h)):
  Cont 0 (exec Tryz.prog (tab (n+9)) 0 27 (livesOf 39) big al7_C3) (livesOf 39 3) (al7_h3 g m 2) (al7_h3 h m 3):=by
 simp only [graphV] at K
 apply Cont_m
 simp+decide [al7_h3,al7_B,loopsOf, Tryz.f39,al7_C1,al7_C3,K]
theorem al7_x3{n m:Nat}{g:TGraph}:
  Leave 0 (exec Tryz.prog (tab (n+9)) 0 27 (livesOf 39) big al7_C3) (livesOf 39 (outOf 3)) (al7_h3 g m 3) (.exit 2) (al7_o3 g m):=by
 apply Leave_m
 simp+decide [al7_h3,al7_o3,al7_B,loopsOf, Tryz.f39,al7_C1,al7_C3]
theorem al7_r1{n:Nat}{g h:TGraph}(C:¬h.Units.length=g.Units.length)(L:loopG Tryz.prog (tab (n+9)) 0 27 (livesOf 39) 3 al7_C3 (al7_h3 g g.Units.length 0)=some (.exit 2,al7_o3 h g.Units.length)):
  Cont 0 (exec Tryz.prog (tab (n+9)) 0 27 (livesOf 39) big al7_C1) (livesOf 39 1) (al7_h1 g) (al7_h1 h):=by
 have C_:((h.Units.length:Int)==(g.Units.length:Int))=false:=by simpa using (by omega:¬(h.Units.length:Int)=(g.Units.length:Int))
 apply Cont_m
 simp+decide [al7_h1,al7_B,loopsOf, Tryz.f39,al7_C1]
 rw [loopX_G (C':=al7_C3) (e:=al7_h3 g g.Units.length 0) ?_ ?_,L]
 rotate_left
 ·kernel_rfl
 ·simp+decide [al7_h3,al7_B]
 simp+decide [al7_o3,al7_B,C_,C]
theorem al7_x1{n:Nat}{g h:TGraph}(C:h.Units.length=g.Units.length)(L:loopG Tryz.prog (tab (n+9)) 0 27 (livesOf 39) 3 al7_C3 (al7_h3 g g.Units.length 0)=some (.exit 2,al7_o3 h g.Units.length)):
  Leave 0 (exec Tryz.prog (tab (n+9)) 0 27 (livesOf 39) big al7_C1) (livesOf 39 (outOf 1)) (al7_h1 g) (.exit 0) (al7_o1 h):=by
 have C_:((h.Units.length:Int)==(g.Units.length:Int))=true:=by rw [C];simp
 apply Leave_m
 simp+decide [al7_h1,al7_B,loopsOf, Tryz.f39,al7_C1]
 rw [loopX_G (C':=al7_C3) (e:=al7_h3 g g.Units.length 0) ?_ ?_,L]
 rotate_left
 ·kernel_rfl
 ·simp+decide [al7_h3,al7_B]
 simp+decide [al7_o3,al7_o1,al7_B,C_,C]
theorem al7_f1{n:Nat}{g h:TGraph}(L:loopG Tryz.prog (tab (n+9)) 0 27 (livesOf 39) 1 al7_C1 (al7_h1 g)=some (.exit 0,al7_o1 h)):
  run (n+9) 39 [graphV g,.sl 1 [[.clo 35 []],[.clo 40 []],[.clo 41 []]]]=some (graphV h):=by
 unfold run fnP
 simp+decide [Tryz.f39]
 rw [loopX_G (C':=al7_C1) (e:=al7_h1 g) ?_ ?_,L]
 rotate_left
 ·kernel_rfl
 ·simp+decide [al7_h1,al7_B]
 simp+decide [al7_o1,al7_B]
def rangesOf:Code→List (Code × Code)
 | .rangeFunc _ _ a b=>[(a,b)]
 | .seq a b=>rangesOf a++rangesOf b
 | .cond _ a b=>rangesOf a++rangesOf b
 | .block _ c=>rangesOf c
 | .scope c=>rangesOf c
 | _=>[]
noncomputable def rangeX(P:Program)(O:FuncId→Option Orc)(m N:Nat)(lives:Nat→List Nat)(fuel r:Nat)(A B:Code)(g:Operand)(ps:Array Tmp)(s:St):Option (Ex × St):=
 rangeE P m N (lives r) (exec P O m N lives fuel A) (exec P O m N lives fuel B) (simpleC A && simpleC B) g ps s
@[simp] theorem exec_range(P:Program)(O:FuncId→Option Orc)(m N:Nat)(lives:Nat→List Nat)(fuel:Nat)(A B:Code)(g:Operand)(ps:Array Tmp)(s:St):exec P O m N lives fuel (.rangeFunc g ps A B) s=rangeX P O m N lives fuel (regOf A) A B g ps s:=rfl
noncomputable def rangeH(m:Nat)(step:Nat→List AV→St→Option St)(live:List Nat)(es:List (List AV)):Nat→St→Option St
 | 0,e=>some e
 | i+1,e=>match es[i]? with
   | some el=>(match step i el e with
     | some s2=>rangeS m step live es i ⟨e.T,s2.B,s2.nx⟩
     | none=>none)
   | none=>none
theorem rangeS_H{m:Nat}{step:Nat→List AV→St→Option St}{live:List Nat}{es:List (List AV)}:∀(n:Nat) {s e:St},gc m live s=some e→rangeS m step live es n s=rangeH m step live es n e
 | 0,s,e,h=>by rw [rangeS,rangeH,h]
 | n+1,s,e,h=>by
   rw [rangeS,rangeH,h]
   cases es[n]? <;>rfl
noncomputable def rangeG(P:Program)(O:FuncId→Option Orc)(m N:Nat)(lives:Nat→List Nat)(r:Nat)(A B:Code)(ag:Bool)(k p q:Nat)(es:List (List AV))(e:St):Option St:=
 rangeH m (rangeR (exec P O m N lives big A) (exec P O m N lives big B) ag k p q) (lives r) es es.length e
theorem rangeX_G{P:Program}{O:FuncId→Option Orc}{m N:Nat}{lives:Nat→List Nat}{r:Nat}{A B A' B':Code}{g:Operand}{p q:Tmp}{s e:St}{f:FuncId}{t e':TypeId}{ag:Bool}{k y:Nat}{z:List Value}{es:List (List AV)}(hA:A=A')(hB:B=B')(hS:(simpleC A' && simpleC B')=true)(hg:opnd g s.t=.clo f [.mem [.sl k es]])(hf:backL.lookup f=some t)(hel:elOf P t=some (e',ag,k,y,z))(hl:es.length≤1000000)(hp:p<N)(hq:q<N)(hgc:gc m (lives r) s=some e):
  rangeX P O m N lives big r A B g #[p,q] s=(match rangeG P O m N lives r A' B' ag k p q es e with|some s'=>some (.nrm,s')|none=>none):=by
 subst hA hB
 unfold rangeX rangeE
 rw [hS,hg]
 dsimp only
 rw [hf]
 dsimp only
 rw [hel]
 dsimp only
 rw [if_pos ⟨rfl,hl,hp,hq⟩,rangeS_H _ hgc]
 rfl
def RCont(m:Nat)(step:Nat→List AV→St→Option St)(live:List Nat)(i:Nat)(el:List AV)(e t:St):Prop:=∃s2,step i el e=some s2∧gc m live ⟨e.T,s2.B,s2.nx⟩=some t
theorem RCont_m{m:Nat}{step:Nat→List AV→St→Option St}{live:List Nat}{i:Nat}{el:List AV}{e t:St}(h:(match step i el e with|some s2=>gc m live ⟨e.T,s2.B,s2.nx⟩|none=>none)=some t):RCont m step live i el e t:=by
 cases hs:step i el e with
 | none=>rw [hs] at h;cases h
 | some s2=>rw [hs] at h;exact ⟨s2,hs,h⟩
theorem rangeH_R{β:Type}{m:Nat}{step:Nat→List AV→St→Option St}{live:List Nat}{es:List (List AV)}(enc:Nat→β→St)(Inv:Nat→β→Prop)(hstep:∀i el b,es[i]?=some el→Inv (i+1) b→∃b',RCont m step live i el (enc (i+1) b) (enc i b')∧Inv i b'):
  ∀(n:Nat) (b:β),n≤es.length→Inv n b→∃b',rangeH m step live es n (enc n b)=some (enc 0 b')∧Inv 0 b'
 | 0,b,_,hI=>⟨b,rfl,hI⟩
 | n+1,b,hn,hI=>by
   obtain ⟨el,hel⟩:∃el,es[n]?=some el:=⟨_,List.getElem?_eq_getElem (by omega)⟩
   obtain ⟨b',⟨s2,h1,h2⟩,h3⟩:=hstep n el b hel hI
   obtain ⟨b'',h4,h5⟩:=rangeH_R enc Inv hstep n b' (by omega) h3
   refine ⟨b'',?_,h5⟩
   rw [rangeH,hel]
   dsimp only
   rw [h1]
   dsimp only
   rw [rangeS_H _ h2]
   exact h4
noncomputable def dn_C2:Code:=(loopsOf (bodyOf Tryz.f64)).getD 0 .skip
def dn_B(g:TGraph)(N:List Bool)(M j:Nat):List (Nat × Option AB):=[(0,some (.box 24 (graphC g) false)),(1,some (.box 41 [.own j M] false)),(2,some (.row 4 1 (N.map boolC) 0))]
def dn_h2(f:Form)(g:TGraph)(N:List Bool)(M i:Nat):St:=⟨[(1,.ptr 0 0),(2,.ptr 1 0),(7,.sl 4 (f.1.map termC)),(8,.lit (.int .i64 (f.1.length:Int))),(9,.lit (.int .i64 (i:Int)))],dn_B g N M 2,3⟩
def dn_o2(g:TGraph)(N:List Bool)(M:Nat):St:=⟨[],dn_B g N M 2,3⟩
theorem dn_r2_1{n M i:Nat}{f:Form}{g:TGraph}{N:List Bool}{v:Int}{q:Rat}(hM:N.length=M)(C1:(i:Int)<(f.1.length:Int))(E2:f.1[i]?=some (v,q))(C3:g.Inputs≤v)(W4:InI (v-g.Inputs))(G5:(v-g.Inputs).toNat<M)(Z5:0≤v-g.Inputs)(W6:InI ((i:Int)+1)):
  Cont 3 (exec Tryz.prog (tab n) 3 26 (livesOf 64) big dn_C2) (livesOf 64 2) (dn_h2 f g N M i) (dn_h2 f g (N.set (v-g.Inputs).toNat true) M (i+1)):=by
 have C1_:i<f.1.length:=by omega
 obtain ⟨EL2,EG2⟩:=List.getElem?_eq_some_iff.1 E2
 have W4_:IntKind.i64.wrap (v-g.Inputs)=v-g.Inputs:=wr64 W4.1 W4.2
 have W6_:IntKind.i64.wrap ((i:Int)+1)=(i:Int)+1:=wr64 W6.1 W6.2
 apply Cont_m
 simp+decide [dn_h2,dn_B,loopsOf, Tryz.f64,dn_C2,C1,C1_,EL2,EG2,E2,C3,W4_,G5,Z5,hM,W6_]
theorem dn_r2_2{n M i:Nat}{f:Form}{g:TGraph}{N:List Bool}{v:Int}{q:Rat}(C1:(i:Int)<(f.1.length:Int))(E2:f.1[i]?=some (v,q))(C3:¬g.Inputs≤v)(W6:InI ((i:Int)+1)):
  Cont 3 (exec Tryz.prog (tab n) 3 26 (livesOf 64) big dn_C2) (livesOf 64 2) (dn_h2 f g N M i) (dn_h2 f g N M (i+1)):=by
 have C1_:i<f.1.length:=by omega
 obtain ⟨EL2,EG2⟩:=List.getElem?_eq_some_iff.1 E2
 have W6_:IntKind.i64.wrap ((i:Int)+1)=(i:Int)+1:=wr64 W6.1 W6.2
 apply Cont_m
 simp+decide [dn_h2,dn_B,loopsOf, Tryz.f64,dn_C2,C1,C1_,EL2,EG2,E2,C3,W6_]
theorem dn_x2{n M i:Nat}{f:Form}{g:TGraph}{N:List Bool}(C1:¬(i:Int)<(f.1.length:Int)):
  Leave 3 (exec Tryz.prog (tab n) 3 26 (livesOf 64) big dn_C2) (livesOf 64 (outOf 2)) (dn_h2 f g N M i) (.exit 0) (dn_o2 g N M):=by
 have C1_:¬i<f.1.length:=by omega
 apply Leave_m
 simp+decide [dn_h2,dn_o2,dn_B,loopsOf, Tryz.f64,dn_C2,C1,C1_]
theorem dn_f1{n M:Nat}{f:Form}{g:TGraph}{N N':List Bool}(L:loopG Tryz.prog (tab n) 3 26 (livesOf 64) 2 dn_C2 (dn_h2 f g N M 0)=some (.exit 0,dn_o2 g N' M)):
  runL n 64 [formV f,.ptr 0 0,.ptr 1 0] [.box 24 (graphC g) false,.box 41 [.own 2 M] false,.row 4 1 (N.map boolC) 0]=some (.tup [],[(0,.box 24 (graphC g) false),(1,.box 41 [.own 2 M] false),(2,.row 4 1 (N'.map boolC) 0)]):=by
 unfold runL fnL
 simp+decide [Tryz.f64]
 rw [loopX_G (C':=dn_C2) (e:=dn_h2 f g N M 0) ?_ ?_,L]
 rotate_left
 ·kernel_rfl
 ·simp+decide [dn_h2,dn_B]
 simp+decide [dn_o2,dn_B]
noncomputable def de_C4:Code:=(loopsOf (bodyOf Tryz.f41)).getD 0 .skip
noncomputable def de_A9:Code:=((rangesOf (bodyOf Tryz.f41)).getD 0 (.skip,.skip)).1
noncomputable def de_D9:Code:=((rangesOf (bodyOf Tryz.f41)).getD 0 (.skip,.skip)).2
noncomputable def de_A14:Code:=((rangesOf (bodyOf Tryz.f41)).getD 1 (.skip,.skip)).1
noncomputable def de_D14:Code:=((rangesOf (bodyOf Tryz.f41)).getD 1 (.skip,.skip)).2
def de_Z:AB:=.box 24 [.lit (.int .i64 0),.nl 4,.nl 4] false
def de_B(g:TGraph)(N:List Bool)(M:Nat):List (Nat × Option AB):=[(0,some (.box 24 (graphC g) false)),(1,some de_Z),(2,some (.box 41 [.own 3 M] false)),(3,some (.row 4 1 (N.map boolC) 0)),(4,some (.box 76 [.clo 64 [.ptr 0 0,.ptr 2 0]] false))]
def de_h4(g:TGraph)(N:List Bool)(M i:Nat):St:=⟨[(1,.ptr 0 0),(2,.ptr 1 0),(3,.ptr 2 0),(4,.ptr 4 0),(17,.sl 4 (g.Outputs.map formC)),(18,.lit (.int .i64 (g.Outputs.length:Int))),(19,.lit (.int .i64 (i:Int)))],de_B g N M,5⟩
def de_o4(g:TGraph)(N:List Bool)(M:Nat):St:=⟨[(1,.ptr 0 0),(2,.ptr 1 0),(3,.ptr 2 0),(4,.ptr 4 0)],de_B g N M,5⟩
def de_h14(g:TGraph):St:=⟨[(1,.ptr 0 0),(2,.ptr 1 0)],[(0,some (.box 24 (graphC g) false)),(1,some de_Z)],2⟩
abbrev dnK (n:Nat) (f:Form) (g:TGraph) (N N':List Bool) (M:Nat):Prop:=runL n 64 [formV f,.ptr 0 0,.ptr 1 0] [.box 24 (graphC g) false,.box 41 [.own 2 M] false,.row 4 1 (N.map boolC) 0]=some (.tup [],[(0,.box 24 (graphC g) false),(1,.box 41 [.own 2 M] false),(2,.row 4 1 (N'.map boolC) 0)])
theorem de_r4{n M i:Nat}{g:TGraph}{N N':List Bool}{F:List (Int × Rat)}{q:Rat}(C1:(i:Int)<(g.Outputs.length:Int))(E2:g.Outputs[i]?=some (F,q))(K:dnK (n+4) (F,q) g N N' M)(W6:InI ((i:Int)+1)):
  Cont 0 (exec Tryz.prog (tab (n+5)) 0 50 (livesOf 41) big de_C4) (livesOf 41 4) (de_h4 g N M i) (de_h4 g N' M (i+1)):=by
 have C1_:i<g.Outputs.length:=by omega
 obtain ⟨EL2,EG2⟩:=List.getElem?_eq_some_iff.1 E2
 have W6_:IntKind.i64.wrap ((i:Int)+1)=(i:Int)+1:=wr64 W6.1 W6.2
 simp only [dnK,formV,graphC] at K
 apply Cont_m
 simp+decide [de_h4,de_B,de_Z,loopsOf, Tryz.f41,de_C4,C1,C1_,EL2,EG2,E2,K,W6_]
theorem de_x4{n M i:Nat}{g:TGraph}{N:List Bool}(C1:¬(i:Int)<(g.Outputs.length:Int)):
  Leave 0 (exec Tryz.prog (tab (n+5)) 0 50 (livesOf 41) big de_C4) (livesOf 41 (outOf 4)) (de_h4 g N M i) (.exit 0) (de_o4 g N M):=by
 have C1_:¬i<g.Outputs.length:=by omega
 apply Leave_m
 simp+decide [de_h4,de_o4,de_B,de_Z,loopsOf, Tryz.f41,de_C4,C1,C1_]
theorem de_r9_1{n M i:Nat}{g:TGraph}{N N':List Bool}{F:List (Int × Rat)}{q:Rat}(hM:N.length=M)(E1:N[i]?=some true)(K:dnK (n+4) (F,q) g N N' M):
  RCont 0 (rangeR (exec Tryz.prog (tab (n+5)) 0 50 (livesOf 41) big de_A9) (exec Tryz.prog (tab (n+5)) 0 50 (livesOf 41) big de_D9) true 4 30 31) (livesOf 41 9) i (formC (F,q)) (de_o4 g N M) (de_o4 g N' M):=by
 obtain ⟨EL1,EG1⟩:=List.getElem?_eq_some_iff.1 E1
 have EL1_:i<M:=by omega
 simp only [dnK,formV,graphC] at K
 apply RCont_m
 simp+decide [rangeR,de_o4,de_B,de_Z,rangesOf, Tryz.f41,de_A9,de_D9,EL1,EG1,E1,EL1_,hM,K]
theorem de_r9_2{n M i:Nat}{g:TGraph}{N:List Bool}{F:List (Int × Rat)}{q:Rat}(hM:N.length=M)(E1:N[i]?=some false):
  RCont 0 (rangeR (exec Tryz.prog (tab (n+5)) 0 50 (livesOf 41) big de_A9) (exec Tryz.prog (tab (n+5)) 0 50 (livesOf 41) big de_D9) true 4 30 31) (livesOf 41 9) i (formC (F,q)) (de_o4 g N M) (de_o4 g N M):=by
 obtain ⟨EL1,EG1⟩:=List.getElem?_eq_some_iff.1 E1
 have EL1_:i<M:=by omega
 apply RCont_m
 simp+decide [rangeR,de_o4,de_B,de_Z,rangesOf, Tryz.f41,de_A9,de_D9,EL1,EG1,E1,EL1_,hM]
theorem de_r14_1{n i:Nat}{g:TGraph}:
  RCont 0 (rangeR (exec Tryz.prog (tab (n+5)) 0 50 (livesOf 41) big de_A14) (exec Tryz.prog (tab (n+5)) 0 50 (livesOf 41) big de_D14) false 1 41 42) (livesOf 41 14) i (boolC true) (de_h14 g) (de_h14 g):=by
 apply RCont_m
 simp+decide [rangeR,de_h14,de_Z,rangesOf, Tryz.f41,de_A14,de_D14]
theorem de_r14_2{n i:Nat}{g h:TGraph}(K:run (n+4) 54 [graphV g,.lit (.int .i64 (i:Int)),formV ([],0)]=some (graphV h)):
  RCont 0 (rangeR (exec Tryz.prog (tab (n+5)) 0 50 (livesOf 41) big de_A14) (exec Tryz.prog (tab (n+5)) 0 50 (livesOf 41) big de_D14) false 1 41 42) (livesOf 41 14) i (boolC false) (de_h14 g) (de_h14 h):=by
 simp only [graphV,formV,List.map_nil,z0s,z0n,z0d] at K
 apply RCont_m
 simp+decide [rangeR,de_h14,de_Z,rangesOf, Tryz.f41,de_A14,de_D14,K]
theorem de_f1{n M:Nat}{g h:TGraph}{N1 N2:List Bool}(hM:g.Units.length=M)(hR:M≤1000)(h2:N2.length=M)(L4:loopG Tryz.prog (tab (n+5)) 0 50 (livesOf 41) 4 de_C4 (de_h4 g (List.replicate M false) M 0)=some (.exit 0,de_o4 g N1 M))(K8:run (n+4) 65 [.sl 4 (g.Units.map formC)]=some (.clo 96 [.mem [.sl 4 (g.Units.map formC)]]))(L9:rangeG Tryz.prog (tab (n+5)) 0 50 (livesOf 41) 9 de_A9 de_D9 true 4 30 31 (g.Units.map formC) (de_o4 g N1 M)=some (de_o4 g N2 M))(K13:run (n+4) 66 [.sl 1 (N2.map boolC)]=some (.clo 97 [.mem [.sl 1 (N2.map boolC)]]))(L14:rangeG Tryz.prog (tab (n+5)) 0 50 (livesOf 41) 14 de_A14 de_D14 false 1 41 42 (N2.map boolC) (de_h14 g)=some (de_h14 h)):
  run (n+5) 41 [graphV g]=some (graphV h):=by
 have hM1:∀b,b≤10000→roomy M b=true:=fun b hb=>roomy_s (by omega) hb
 have hrep:(List.replicate M false).map boolC=List.replicate M [AV.lit (.bool false)]:=by rw [List.map_replicate];rfl
 unfold run fnP
 simp+decide [Tryz.f41,hM,hM1]
 rw [loopX_G (C':=de_C4) (e:=de_h4 g (List.replicate M false) M 0) ?_ ?_,L4]
 rotate_left
 ·kernel_rfl
 ·simp+decide [de_h4,de_B,de_Z,hrep]
 simp+decide [de_o4,de_B,de_Z,K8]
 rw [rangeX_G (A':=de_A9) (B':=de_D9) (e:=de_o4 g N1 M) (es:=g.Units.map formC) (f:= 96) ?_ ?_ ?_ ?_ (by rfl) el22 ?_ (by decide) (by decide) ?_,L9]
 rotate_left
 ·kernel_rfl
 ·kernel_rfl
 ·kernel_rfl
 ·simp
 ·rw [List.length_map];omega
 ·simp+decide [de_o4,de_B,de_Z]
 simp+decide [de_o4,de_B,de_Z,K13,h2]
 rw [rangeX_G (A':=de_A14) (B':=de_D14) (e:=de_h14 g) (es:=N2.map boolC) (f:= 97) ?_ ?_ ?_ ?_ (by rfl) el41 ?_ (by decide) (by decide) ?_,L14]
 rotate_left
 ·kernel_rfl
 ·kernel_rfl
 ·kernel_rfl
 ·simp
 ·rw [List.length_map];omega
 ·simp+decide [de_h14,de_Z]
 simp+decide [de_h14,de_Z]
theorem bwA_f1{n:Nat}{l:List Form}:run n 65 [.sl 4 (l.map formC)]=some (.clo 96 [.mem [.sl 4 (l.map formC)]]):=by
 unfold run fnP
 simp+decide [Tryz.f65]
theorem bwB_f1{n:Nat}{l:List Bool}:run n 66 [.sl 1 (l.map boolC)]=some (.clo 97 [.mem [.sl 1 (l.map boolC)]]):=by
 unfold run fnP
 simp+decide [Tryz.f66]
end
section
open Go.RowKit
attribute [local irreducible] run runL loopG exec
theorem mk_set{N:List Bool}{p:Nat}(hp:p<N.length)(k:Nat):((N.set p true).getD k false=true↔(N.getD k false=true∨k=p)):=by
 rw [List.getD_eq_getElem?_getD,List.getD_eq_getElem?_getD,List.getElem?_set]
 by_cases c:p=k
 ·subst c
  rw [if_pos rfl,if_pos hp]
  exact ⟨fun _=>.inr rfl,fun _=>rfl⟩
 ·rw [if_neg c]
  exact ⟨.inl,fun h=>h.elim id fun e=>absurd e.symm c⟩
theorem has_take{F:List (Int × Rat)}{i:Nat}{t:Int × Rat}(ht:F[i]?=some t){v:Int}:(∃u∈F.take (i+1),u.1=v)↔(∃u∈F.take i,u.1=v)∨t.1=v:=by
 rw [List.take_add_one,ht]
 constructor
 ·rintro ⟨u,hu,e⟩
  rcases List.mem_append.1 hu with hu|hu
  ·exact .inl ⟨u,hu,e⟩
  ·rw [List.mem_singleton.1 hu] at e
   exact .inr e
 ·rintro (⟨u,hu,e⟩|e)
  ·exact ⟨u,List.mem_append_left _ hu,e⟩
  ·exact ⟨t,List.mem_append_right _ (List.mem_singleton.2 rfl),e⟩
theorem dn_c{n M:Nat}{f:Form}{g:TGraph}{N:List Bool}(hM:N.length=M)(hF:InR (g.Inputs.toNat+M) f.1)(hl:f.1.length≤1000)(h0:0≤g.Inputs)(h1:g.Inputs≤1000)(h2:M≤1000):
  ∃N',dnK n f g N N' M∧N'.length=M∧∀k:Nat,(N'.getD k false=true↔(N.getD k false=true∨hasV f (g.Inputs+(k:Int)))):=by
 obtain ⟨N',L,hI1,hI2⟩:=loopG_R (β:=List Bool) (P:= Tryz.prog) (O:=tab n) (m:=3) (N:=26) (lives:=livesOf 64) (r:=2) (C:=dn_C2) (M:=f.1.length) (enc:=fun i N=>dn_h2 f g N M i) (exN:=.exit 0) (out:=fun N=>dn_o2 g N M) (fun i N'=>N'.length=M∧∀k:Nat,(N'.getD k false=true↔(N.getD k false=true∨∃t∈f.1.take i,t.1=g.Inputs+(k:Int)))) N ⟨hM,fun k=>⟨.inl,fun h=>h.elim id fun ⟨t,ht,_⟩=>by cases ht⟩⟩ (by omega) (fun h=>by cases h)
  (fun i N' hi hI=>by
   obtain ⟨h3,h4⟩:=hI
   have ht:f.1[i]?=some f.1[i]:=List.getElem?_eq_getElem hi
   generalize f.1[i]=t at ht
   obtain ⟨v,q⟩:=t
   have hv:=hF (v,q) (List.mem_of_getElem? ht)
   have hv:0≤v∧v<((g.Inputs.toNat+M:Nat):Int):=hv
   by_cases c:g.Inputs≤v
   ·refine ⟨N'.set (v-g.Inputs).toNat true,dn_r2_1 h3 (by omega) ht c ⟨by omega,by omega⟩ (by omega) (by omega) ⟨by omega,by omega⟩,by rw [List.length_set];exact h3,fun k=>?_⟩
    rw [mk_set (by omega),h4,has_take ht,or_assoc]
    refine or_congr Iff.rfl (or_congr Iff.rfl ?_)
    show k=_↔v=_
    constructor <;>intro h <;>omega
   ·refine ⟨N',dn_r2_2 (by omega) ht c ⟨by omega,by omega⟩,h3,fun k=>?_⟩
    rw [h4,has_take ht]
    refine or_congr Iff.rfl ⟨.inl,fun h=>h.elim id fun e=>?_⟩
    have e:v=g.Inputs+(k:Int):=e
    omega)
  (fun N' hI=>dn_x2 (by omega))
 rw [List.take_of_length_le (Nat.le_refl _)] at hI2
 exact ⟨N',dn_f1 L,hI1,hI2⟩
theorem out_take{L:List Form}{i:Nat}{f:Form}(hf:L[i]?=some f){v:Int}:(∃u∈L.take (i+1),hasV u v)↔(∃u∈L.take i,hasV u v)∨hasV f v:=by
 rw [List.take_add_one,hf]
 constructor
 ·rintro ⟨u,hu,e⟩
  rcases List.mem_append.1 hu with hu|hu
  ·exact .inl ⟨u,hu,e⟩
  ·rw [List.mem_singleton.1 hu] at e
   exact .inr e
 ·rintro (⟨u,hu,e⟩|e)
  ·exact ⟨u,List.mem_append_left _ hu,e⟩
  ·exact ⟨f,List.mem_append_right _ (List.mem_singleton.2 rfl),e⟩
theorem SG.leni{g:TGraph}(h:SG g){i:Nat}{f:Form}(hf:g.Units[i]?=some f):InR (g.Inputs.toNat+g.Units.length) f.1:=fun t ht=>by
 have:=(h.us i f hf).2 t ht
 have:=(List.getElem?_eq_some_iff.1 hf).1
 omega
theorem dead_c{n:Nat}{g:TGraph}(h:SG g):run (n+5) 41 [graphV g]=some (graphV (deP g)):=by
 have u8:=h.u
 have o8:=h.o1
 have i0:=h.i0
 have i8:=h.i1
 obtain ⟨N1,L4,a1,a2⟩:=loopG_R (β:=List Bool) (P:= Tryz.prog) (O:=tab (n+5)) (m:=0) (N:=50) (lives:=livesOf 41) (r:=4) (C:=de_C4) (M:=g.Outputs.length) (enc:=fun i N=>de_h4 g N g.Units.length i) (exN:=.exit 0) (out:=fun N=>de_o4 g N g.Units.length) (fun i N=>N.length=g.Units.length∧∀k:Nat,(N.getD k false=true↔∃f∈g.Outputs.take i,hasV f (g.Inputs+(k:Int)))) (List.replicate g.Units.length false) ⟨List.length_replicate,fun k=>by
   rw [List.getD_eq_getElem?_getD,List.getElem?_replicate]
   constructor
   ·intro h;split at h <;>cases h
   ·rintro ⟨f,hf,_⟩;cases hf⟩ (by omega) (fun h=>by cases h)
  (fun i N hi hI=>by
   obtain ⟨h3,h4⟩:=hI
   have hf:g.Outputs[i]?=some g.Outputs[i]:=List.getElem?_eq_getElem hi
   generalize g.Outputs[i]=f at hf
   have hm:=List.mem_of_getElem? hf
   obtain ⟨N',K,b1,b2⟩:=dn_c (n:=n+4) h3 (h.os f hm).2 (by have:=h.leno hm;omega) i0 (by omega) (by omega)
   obtain ⟨F,q⟩:=f
   refine ⟨N',de_r4 (by omega) hf K ⟨by omega,by omega⟩,b1,fun k=>?_⟩
   rw [b2,h4,out_take hf])
  (fun N hI=>de_x4 (by omega))
 rw [List.take_of_length_le (Nat.le_refl _)] at a2
 obtain ⟨N2,L9,c1,c2⟩:=rangeH_R (β:=List Bool) (m:=0) (step:=rangeR (exec Tryz.prog (tab (n+5)) 0 50 (livesOf 41) big de_A9) (exec Tryz.prog (tab (n+5)) 0 50 (livesOf 41) big de_D9) true 4 30 31) (live:=livesOf 41 9) (es:=g.Units.map formC) (fun _ N=>de_o4 g N g.Units.length) (fun n N=>N.length=g.Units.length∧∀k:Nat,(N.getD k false=true↔((∃f∈g.Outputs,hasV f (g.Inputs+(k:Int)))∨∃i f,n≤i∧g.Units[i]?=some f∧Need g i∧hasV f (g.Inputs+(k:Int)))))
  (fun i el N he hI=>by
   obtain ⟨h3,h4⟩:=hI
   rw [List.getElem?_map] at he
   obtain ⟨f,hf,rfl⟩:=Option.map_eq_some_iff.1 he
   have hi:=(List.getElem?_eq_some_iff.1 hf).1
   have hN:N[i]?=some N[i]:=List.getElem?_eq_getElem (by omega)
   have h5:=h4 i
   rw [List.getD_eq_getElem?_getD,hN] at h5
   have h6:N[i]=true↔Need g i:=h5.trans (need_iff h).symm
   generalize N[i]=b at hN h6
   obtain ⟨N',K,b1,b2⟩:=dn_c (n:=n+4) h3 (h.leni hf) (by have:=h.len hf;omega) i0 (by omega) (by omega)
   obtain ⟨F,q⟩:=f
   cases b with
   | true=>
     refine ⟨N',de_r9_1 h3 hN K,b1,fun k=>?_⟩
     rw [b2,h4,or_assoc]
     refine or_congr Iff.rfl ⟨?_,?_⟩
     ·rintro (⟨j,f2,h7,h8⟩|h7)
      ·exact ⟨j,f2,by omega,h8⟩
      ·exact ⟨i,_,Nat.le_refl _,hf,h6.1 rfl,h7⟩
     ·rintro ⟨j,f2,h7,h8,h9,h10⟩
      by_cases e:j=i
      ·subst e
       rw [hf] at h8
       cases h8
       exact .inr h10
      ·exact .inl ⟨j,f2,by omega,h8,h9,h10⟩
   | false=>
     refine ⟨N,de_r9_2 h3 hN,h3,fun k=>?_⟩
     rw [h4]
     refine or_congr Iff.rfl ⟨?_,?_⟩
     ·rintro ⟨j,f2,h7,h8⟩
      exact ⟨j,f2,by omega,h8⟩
     ·rintro ⟨j,f2,h7,h8,h9,h10⟩
      by_cases e:j=i
      ·subst e
       exact absurd (h6.2 h9) (by simp)
      ·exact ⟨j,f2,by omega,h8,h9,h10⟩)
  g.Units.length N1 (by rw [List.length_map];omega) ⟨a1,fun k=>by
   rw [a2]
   refine ⟨.inl,fun h=>h.elim id ?_⟩
   rintro ⟨i,f,h1,h2,_⟩
   have:=(List.getElem?_eq_some_iff.1 h2).1
   omega⟩
 have c3:∀k:Nat,(N2.getD k false=true↔Need g k):=fun k=>by
  rw [c2]
  constructor
  ·rintro (⟨f,h1,h2⟩|⟨i,f,_,h1,h2,h3⟩)
   ·exact .out h1 h2
   ·exact .unit h1 h2 h3
  ·intro h
   cases h with
   | out h1 h2=>exact .inl ⟨_,h1,h2⟩
   | unit h1 h2 h3=>exact .inr ⟨_,_,Nat.zero_le _,h1,h2,h3⟩
 obtain ⟨x,L14,d1,d2,d3⟩:=rangeH_R (β:=TGraph) (m:=0) (step:=rangeR (exec Tryz.prog (tab (n+5)) 0 50 (livesOf 41) big de_A14) (exec Tryz.prog (tab (n+5)) 0 50 (livesOf 41) big de_D14) false 1 41 42) (live:=livesOf 41 14) (es:=N2.map boolC) (fun _ x=>de_h14 x) (fun n x=>SG x∧n≤x.Units.length∧dmL (fun i=>N2.getD i false) n x=deP g)
  (fun i el x he hI=>by
   obtain ⟨h3,h4,h5⟩:=hI
   rw [List.getElem?_map] at he
   obtain ⟨b,hb,rfl⟩:=Option.map_eq_some_iff.1 he
   have hg:N2.getD i false=b:=by rw [List.getD_eq_getElem?_getD,hb];rfl
   rw [dmL] at h5
   rw [hg] at h5
   cases b with
   | true=>
     rw [if_pos rfl] at h5
     exact ⟨x,de_r14_1,h3,by omega,h5⟩
   | false=>
     rw [if_neg (by simp)] at h5
     have hl:=rpG_len (b:=zF) (show i<x.Units.length by omega)
     exact ⟨rpG x i zF,de_r14_2 (replace_c h3 (by omega) (zF_ok h3)),rpG_sg h3 (by omega) (zF_ok h3),by omega,h5⟩)
  g.Units.length g (by rw [List.length_map];omega) ⟨h,Nat.le_refl _,dmL_eq _ h (Nat.le_refl _) fun i _=>c3 i⟩
 rw [dmL] at d3
 subst d3
 have e1:(g.Units.map formC).length=g.Units.length:=List.length_map _
 have e2:(N2.map boolC).length=g.Units.length:=by rw [List.length_map,c1]
 exact de_f1 rfl (by omega) c1 L4 bwA_f1 (by unfold rangeG;rw [e1];exact L9) bwB_f1 (by unfold rangeG;rw [e2];exact L14)
theorem all_c{n:Nat}{g:TGraph}(h:SG g):run (n+9) 39 [graphV g,.sl 1 [[.clo 35 []],[.clo 40 []],[.clo 41 []]]]=some (graphV (simP g)):=by
 have u8:=h.u
 have inner:∀{x:TGraph},SG x→loopG Tryz.prog (tab (n+9)) 0 27 (livesOf 39) 3 al7_C3 (al7_h3 x x.Units.length 0)=some (.exit 2,al7_o3 (simS x) x.Units.length):=fun {x} hx=>by
  obtain ⟨a1,_,_⟩:=coP_sg hx
  obtain ⟨b1,_,_⟩:=duP_sg a1
  obtain ⟨y,L,hy⟩:=loopG_R (β:=TGraph) (P:= Tryz.prog) (O:=tab (n+9)) (m:=0) (N:=27) (lives:=livesOf 39) (r:=3) (C:=al7_C3) (M:=3) (enc:=fun i y=>al7_h3 y x.Units.length i) (exN:=.exit 2) (out:=fun y=>al7_o3 y x.Units.length) (fun i y=>(i=0→y=x)∧(i=1→y=coP x)∧(i=2→y=duP (coP x))∧(i=3→y=simS x)) x ⟨fun _=>rfl,fun h=>by omega,fun h=>by omega,fun h=>by omega⟩ (by omega) (fun h=>by cases h)
   (fun i y hi hI=>by
    obtain ⟨h1,h2,h3,_⟩:=hI
    rcases (by omega:i=0∨i=1∨i=2) with rfl|rfl|rfl
    ·rw [h1 rfl]
     exact ⟨_,al7_r3_0 (constants_c (n:=n+3) hx),fun h=>by omega,fun _=>rfl,fun h=>by omega,fun h=>by omega⟩
    ·rw [h2 rfl]
     exact ⟨_,al7_r3_1 (duplicates_c (n:=n) a1),fun h=>by omega,fun h=>by omega,fun _=>rfl,fun h=>by omega⟩
    ·rw [h3 rfl]
     exact ⟨_,al7_r3_2 (dead_c (n:=n+3) b1),fun h=>by omega,fun h=>by omega,fun h=>by omega,fun _=>rfl⟩)
   (fun y hI=>al7_x3)
  rw [hy.2.2.2 rfl] at L
  exact L
 obtain ⟨ex,t,L,rfl,rfl⟩:=loopG_Q (β:=TGraph) (P:= Tryz.prog) (O:=tab (n+9)) (m:=0) (N:=27) (lives:=livesOf 39) (r:=1) (C:=al7_C1) (M:=g.Units.length+1) (enc:=fun _ x=>al7_h1 x) (fun i x=>SG x∧x.Units.length+i≤g.Units.length∧simL (g.Units.length+1-i) x=simP g) (fun ex t=>ex=.exit 0∧t=al7_o1 (simP g)) g ⟨h,by omega,rfl⟩ (by omega)
  (fun i x hi hI=>by
   obtain ⟨h1,h2,h3⟩:=hI
   obtain ⟨a1,a2,_⟩:=simS_sg h1
   rw [show g.Units.length+1-i=(g.Units.length-i)+1 from by omega,simL] at h3
   by_cases c:(simS x).Units.length=x.Units.length
   ·rw [if_pos c] at h3
    rw [←h3]
    exact .inr ⟨_,_,by simp,al7_x1 c (inner h1),rfl,rfl⟩
   ·rw [if_neg c] at h3
    exact .inl ⟨simS x,al7_r1 c (inner h1),a1,by omega,by rw [show g.Units.length+1-(i+1)=g.Units.length-i from by omega];exact h3⟩)
  (fun x hI=>by have:=hI.2.1;omega)
 exact al7_f1 L
noncomputable def cpG(g:TGraph):TGraph:=if tv (OkGr g)=true then g else zG
theorem zG_sg:SG zG:=⟨by decide,by decide,by decide,by decide,fun i f hf=>(by cases hf),fun f hf=>(by cases hf),fun f hf=>(by cases hf),fun f hf=>(by cases hf)⟩
section
variable{n:Nat}{g:TGraph}(hB:BdG 17179869184 g)(hS:SG (cpG g))
include hB hS
theorem xCo_c:run (n+7) 13 [graphV g]=some (graphV (coP (cpG g))):=xCo_f1 (cpyd_c (n:=n) hB) (constants_c (n:=n+1) hS)
theorem xDu_c:run (n+9) 17 [graphV g]=some (graphV (duP (cpG g))):=xDu_f1 (cpyd_c (n:=n+2) hB) (duplicates_c (n:=n) hS)
theorem xDe_c:run (n+7) 19 [graphV g]=some (graphV (deP (cpG g))):=xDe_f1 (cpyd_c (n:=n) hB) (dead_c (n:=n+1) hS)
theorem xSi_c:run (n+10) 15 [graphV g]=some (graphV (simP (cpG g))):=xSi_f1 (cpyd_c (n:=n+3) hB) (all_c (n:=n) hS)
end
theorem srt_okf{f:Form}{k:Nat}{vars:Int}(hs:Srt f.1)(hv:InR k f.1)(hk:(k:Int)≤vars):OkFm f vars:=fun i hi v c hx=>by
 obtain ⟨hlt,he⟩:=List.getElem?_eq_some_iff.1 hx
 have hm:=List.mem_of_getElem? hx
 have hr:0≤v∧v<(k:Int):=hv _ hm
 refine ⟨hr.1,by omega,hs.2 _ hm,fun v' c' h0 hy=>?_⟩
 obtain ⟨hlt2,he2⟩:=List.getElem?_eq_some_iff.1 hy
 have:=(List.pairwise_iff_getElem.1 hs.1) (i-1) i hlt2 hlt (by omega)
 rw [he,he2] at this
 exact this
theorem SG.ok{g:TGraph}(h:SG g)(h1:1≤g.Inputs)(h2:1≤g.Outputs.length):OkGr g:=by
 have u8:=h.u
 have i8:=h.i1
 have o8:=h.o1
 exact ⟨h1,by omega,by omega,by omega,by omega,fun i _ f hf=>srt_okf (h.us i f hf).1 (h.us i f hf).2 (by omega),fun f hf=>srt_okf (h.os f hf).1 (h.os f hf).2 (by omega)⟩
theorem SG.bd{g:TGraph}(h:SG g):BdG 17179869184 g:=by
 have u8:=h.u
 have o8:=h.o1
 have ht:=hbd_top g.Units.length
 refine ⟨by omega,by omega,fun f hf=>?_,fun f hf=>?_⟩
 ·obtain ⟨i,hi⟩:=List.mem_iff_getElem?.1 hf
  have hl:=h.len hi
  have hB:=h.hu f hf
  exact ⟨by omega,fun t ht=>by have:=(hB.1 t ht).2;omega,by have:=hB.2;omega⟩
 ·have hl:=h.leno hf
  have hB:=h.ho f hf
  exact ⟨by omega,fun t ht=>by have:=(hB.1 t ht).2;omega,by have:=hB.2;omega⟩
theorem cpG_ok{g:TGraph}(h:OkGr g):cpG g=g:=if_pos (tv_t h)
theorem cpG_no{g:TGraph}(h:¬OkGr g):cpG g=zG:=if_neg (by rw [tv_f h];simp)
theorem zG_no:¬OkGr zG:=fun h=>absurd h.i0 (by decide)
theorem zG_co:coP zG=zG:=rfl
theorem zG_du:duP zG=zG:=rfl
theorem zG_de:deP zG=zG:=rfl
theorem zG_s:simS zG=zG:=rfl
theorem zG_sim:simP zG=zG:=by
 unfold simP
 rw [simL,zG_s,if_pos rfl]
theorem fmx0_c{n:Nat}{q:Rat}(hq:H q≤1000000):run n 38 [ratV q,.agg [.lit (.bool false),.sl 1 [],.sl 1 []]]=some (ratV (max q 0)):=by
 have e:ratV 0=.agg [.lit (.bool false),.sl 1 [],.sl 1 []]:=by simp
 have h0:H 0≤17179869184:=by decide
 rw [←e]
 have hs:=@sgq_nonneg (q-0)
 by_cases h:0≤q
 ·rw [show max q 0=q from by rw [Rat.max_def];split <;>grind]
  exact mx_f1 (by omega) h0 (hs.2 (by grind))
 ·rw [show max q 0=0 from by rw [Rat.max_def];split <;>grind]
  exact mx_f2 (by omega) h0 fun h2=>h (by have:=hs.1 h2;grind)
section
variable{n:Nat}{g:TGraph}(hB:BdG 17179869184 g)(hS:SG (cpG g))
include hB hS
theorem rCo_c:run (n+5) 14 [graphV g]=some (graphV (coP (cpG g))):=by
 have K:=validG_c (n:=n+2) hB
 by_cases hok:OkGr g
 ·rw [cpG_ok hok] at hS ⊢
  have h:=hS
  have u8:=h.u
  obtain ⟨⟨x,j⟩,L1,hI⟩:=loopG_R (β:=TGraph × Nat) (P:= Tryz.prog) (O:=tab (n+5)) (m:=0) (N:=36) (lives:=livesOf 14) (r:=4) (C:=rCo_C4) (M:=g.Units.length) (enc:=fun _ s=>rCo_h4 s.2 s.1.Inputs s.1.Units s.1.Outputs) (exN:=.exit 0) (out:=fun s=>rCo_o4a s.1.Inputs s.1.Units s.1.Outputs) (fun i s=>SG s.1∧s.1.Units.length+i=s.2+g.Units.length∧i≤g.Units.length∧cnL (g.Units.length-i) s.1 s.2=coP g) (g,0) ⟨h,by dsimp only;omega,by omega,rfl⟩ (by omega) (fun h=>by cases h)
   (fun i s hi hI=>by
    obtain ⟨x,j⟩:=s
    obtain ⟨h1,h2,h3,h4⟩:=hI
    dsimp only at h1 h2 h4 ⊢
    have ux:=h1.u
    obtain ⟨k,hk⟩:∃k,g.Units.length-i=k+1:=⟨g.Units.length-i-1,by omega⟩
    have hj:j<x.Units.length:=by omega
    have hf:x.Units[j]?=some x.Units[j]:=List.getElem?_eq_getElem hj
    generalize x.Units[j]=f at hf
    rw [hk,cnL,hf] at h4
    dsimp only at h4
    obtain ⟨F,q⟩:=f
    have hB:=h1.hu _ (List.mem_of_getElem? hf)
    have ht:=hbd_top x.Units.length
    by_cases c:F=[]
    ·rw [if_pos c] at h4
     have hl:=rpG_len (b:=coB (F,q)) hj
     have hq:H q≤hbd x.Units.length:=hB.2
     exact ⟨(rpG x j (coB (F,q)),j),rCo_r4_1 (by omega) hf (by rw [c];rfl) (fmx0_c (by omega)) (Replace_c h1 hj (coB_ok h1 hf)),rpG_sg h1 hj (coB_ok h1 hf),by dsimp only;omega,by omega,by rw [show g.Units.length-(i+1)=k from by omega];exact h4⟩
    ·rw [if_neg c] at h4
     have hF:¬(F.length:Int)=0:=fun e=>c (List.length_eq_zero_iff.1 (by omega))
     exact ⟨(x,j+1),rCo_r4_2 (by omega) hf hF ⟨by omega,by omega⟩,h1,by dsimp only;omega,by omega,by rw [show g.Units.length-(i+1)=k from by omega];exact h4⟩)
   (fun s hI=>rCo_x4_1 (by have:=hI.2.1;omega))
  obtain ⟨h1,h2,h3,h4⟩:=hI
  rw [Nat.sub_self,cnL] at h4
  dsimp only at h4 L1
  subst h4
  exact rCo_f2 K (tv_t hok) L1
 ·rw [cpG_no hok,zG_co]
  exact rCo_f1 K (tv_f hok)
theorem rDu_c:run (n+5) 18 [graphV g]=some (graphV (duP (cpG g))):=by
 have K:=validG_c (n:=n+2) hB
 by_cases hok:OkGr g
 ·rw [cpG_ok hok] at hS ⊢
  have h:=hS
  have u8:=h.u
  have inner:∀{x:TGraph} {j:Nat},SG x→j<x.Units.length→loopG Tryz.prog (tab (n+5)) 0 45 (livesOf 18) 6 rDu_C6 (rDu_h6 j 0 x.Inputs x.Units x.Outputs)=some (.exit 2,rDu_o6a j (fstI x.Units j) x.Inputs x.Units x.Outputs):=fun {x j} hx hj=>by
   have ux:=hx.u
   have hf:x.Units[j]?=some x.Units[j]:=List.getElem?_eq_getElem hj
   generalize x.Units[j]=f at hf
   have eqv:∀{i:Nat} {f2:Form},x.Units[i]?=some f2→run (n+4) 42 [formV f2,formV f]=some (.lit (.bool (tv (f2=f)))):=fun {i f2} hi=>by
    have hl:=hx.len hi
    have hB:=hx.hu f2 (List.mem_of_getElem? hi)
    have ht:=hbd_top x.Units.length
    exact form17_c (by omega) (fun t ht=>by have:=(hB.1 t ht).2;omega) (by have:=hB.2;omega)
   have leave:∀{i:Nat},x.Units[i]?=some f→(∀k,k<i→x.Units[k]?≠some f)→Leave 0 (exec Tryz.prog (tab (n+5)) 0 45 (livesOf 18) big rDu_C6) (livesOf 18 (outOf 6)) (rDu_h6 j i x.Inputs x.Units x.Outputs) (.exit 2) (rDu_o6a j (fstI x.Units j) x.Inputs x.Units x.Outputs):=fun {i} hi hn=>by
    rw [fstI_uniq hf hi hn]
    have K3:=eqv hi
    rw [tv_t rfl] at K3
    obtain ⟨F,q⟩:=f
    exact rDu_x6_1 hi hf K3 rfl
   obtain ⟨ex,t,L,rfl,rfl⟩:=loopG_Q (β:=Unit) (P:= Tryz.prog) (O:=tab (n+5)) (m:=0) (N:=45) (lives:=livesOf 18) (r:=6) (C:=rDu_C6) (M:=j) (enc:=fun i _=>rDu_h6 j i x.Inputs x.Units x.Outputs) (fun i _=>∀k,k<i→x.Units[k]?≠some f) (fun ex t=>ex=.exit 2∧t=rDu_o6a j (fstI x.Units j) x.Inputs x.Units x.Outputs) () (fun k hk=>by omega) (by omega)
    (fun i _ hi hI=>by
     have hx2:x.Units[i]?=some (x.Units[i]'(by omega)):=List.getElem?_eq_getElem (by omega)
     generalize x.Units[i]'(by omega)=f2 at hx2
     by_cases c:f2=f
     ·rw [c] at hx2
      exact .inr ⟨_,_,by simp,leave hx2 hI,rfl,rfl⟩
     ·have K3:=eqv hx2
      rw [tv_f c] at K3
      obtain ⟨F,q⟩:=f
      obtain ⟨G,r⟩:=f2
      refine .inl ⟨(),rDu_r6_1 hx2 hf K3 rfl ⟨by omega,by omega⟩,fun k hk=>?_⟩
      by_cases e:k=i
      ·rw [e,hx2]
       exact fun e2=>c (Option.some.inj e2)
      ·exact hI k (by omega))
    (fun _ hI=>⟨_,_,by simp,leave hf hI,rfl,rfl⟩)
   exact L
  obtain ⟨⟨x,j⟩,L1,hI⟩:=loopG_R (β:=TGraph × Nat) (P:= Tryz.prog) (O:=tab (n+5)) (m:=0) (N:=45) (lives:=livesOf 18) (r:=4) (C:=rDu_C4) (M:=g.Units.length) (enc:=fun _ s=>rDu_h4 s.2 s.1.Inputs s.1.Units s.1.Outputs) (exN:=.exit 0) (out:=fun s=>rDu_o4a s.1.Inputs s.1.Units s.1.Outputs) (fun i s=>SG s.1∧s.1.Units.length+i=s.2+g.Units.length∧i≤g.Units.length∧duL (g.Units.length-i) s.1 s.2=duP g) (g,0) ⟨h,by dsimp only;omega,by omega,rfl⟩ (by omega) (fun h=>by cases h)
   (fun i s hi hI=>by
    obtain ⟨x,j⟩:=s
    obtain ⟨h1,h2,h3,h4⟩:=hI
    dsimp only at h1 h2 h4 ⊢
    have ux:=h1.u
    have i0:=h1.i0
    have i1:=h1.i1
    obtain ⟨k,hk⟩:∃k,g.Units.length-i=k+1:=⟨g.Units.length-i-1,by omega⟩
    have hj:j<x.Units.length:=by omega
    have hf:x.Units[j]?=some x.Units[j]:=List.getElem?_eq_getElem hj
    have L2:=inner h1 hj
    generalize x.Units[j]=f at hf
    rw [hk,duL,hf] at h4
    dsimp only at h4
    by_cases c:fstI x.Units j<j
    ·rw [if_pos c] at h4
     have hl:=rpG_len (b:=duB x (fstI x.Units j)) hj
     have ok:=duB_ok h1 c
     exact ⟨(rpG x j (duB x (fstI x.Units j)),j),rDu_r4_1 (by omega) L2 (by omega) ⟨by omega,by omega⟩ (Replace_c h1 hj ok),rpG_sg h1 hj ok,by dsimp only;omega,by omega,by rw [show g.Units.length-(i+1)=k from by omega];exact h4⟩
    ·rw [if_neg c] at h4
     exact ⟨(x,j+1),rDu_r4_2 (by omega) L2 (by omega) ⟨by omega,by omega⟩,h1,by dsimp only;omega,by omega,by rw [show g.Units.length-(i+1)=k from by omega];exact h4⟩)
   (fun s hI=>rDu_x4_1 (by have:=hI.2.1;omega))
  obtain ⟨h1,h2,h3,h4⟩:=hI
  rw [Nat.sub_self,duL] at h4
  dsimp only at h4 L1
  subst h4
  exact rDu_f2 K (tv_t hok) L1
 ·rw [cpG_no hok,zG_du]
  exact rDu_f1 K (tv_f hok)
end
theorem set_old{α:Type}{N:List α}{p:Nat}{x y:α}:(N.set p x).set p y=N.set p y:=List.set_set _
theorem set_self{α:Type}{N:List α}{p:Nat}{x:α}(h:N[p]?=some x):N.set p x=N:=by
 refine List.ext_getElem? fun k=>?_
 rw [List.getElem?_set]
 by_cases c:p=k
 ·subst c
  rw [if_pos rfl,if_pos (List.getElem?_eq_some_iff.1 h).1,h]
 ·rw [if_neg c]
theorem get_set{α:Type}{N:List α}{p:Nat}{x:α}(h:p<N.length):(N.set p x)[p]?=some x:=List.getElem?_set_self h
noncomputable def neL(g:TGraph):List Bool:=(List.range g.Units.length).map fun i=>tv (Need g i)
theorem neL_get{g:TGraph}{i:Nat}(h:i<g.Units.length):(neL g)[i]?=some (tv (Need g i)):=by
 unfold neL
 rw [List.getElem?_map,List.getElem?_range h];rfl
theorem Needed_c{n:Nat}{g:TGraph}(h:SG g):run (n+1) 25 [graphV g]=some (.sl 1 ((neL g).map boolC)):=by
 have u8:=h.u
 have o8:=h.o1
 have i0:=h.i0
 have i8:=h.i1
 have hasu:∀{i:Nat} {f:Form} {v:Int},g.Units[i]?=some f→run n 48 [formV f,.lit (.int .i64 v)]=some (.lit (.bool (tv (hasV f v)))):=fun hf=>has_c (by have:=h.len hf;omega)
 have haso:∀{f:Form} {v:Int},f∈g.Outputs→run n 48 [formV f,.lit (.int .i64 v)]=some (.lit (.bool (tv (hasV f v)))):=fun hf=>has_c (by have:=h.leno hf;omega)
 obtain ⟨N,L,hI1,hI2⟩:=loopG_R (β:=List Bool) (P:= Tryz.prog) (O:=tab (n+1)) (m:=0) (N:=79) (lives:=livesOf 25) (r:=3) (C:=rNe_C3) (M:=g.Units.length) (enc:=fun k N=>rNe_h3 g N ((g.Units.length:Int)-1-(k:Int))) (exN:=.exit 0) (out:=fun N=>rNe_o3a N) (fun k N=>N.length=g.Units.length∧(∀i,i<g.Units.length→N[i]?=some (if g.Units.length≤i+k then tv (Need g i) else false))) (List.replicate g.Units.length false) ⟨List.length_replicate,fun i hi=>by rw [List.getElem?_replicate,if_pos hi,if_neg (by omega)]⟩ (by omega) (fun h=>by cases h)
  (fun k N hk hI=>by
   obtain ⟨h1,h2⟩:=hI
   obtain ⟨p,hp⟩:∃p,p+k+1=g.Units.length:=⟨g.Units.length-1-k,by omega⟩
   have ep:(g.Units.length:Int)-1-(k:Int)=(p:Int):=by omega
   have hN0:N[p]?=some false:=by rw [h2 p (by omega),if_neg (by omega)]
   have hpl:p<N.length:=by omega
   obtain ⟨N1,L7,e1⟩:=loopG_R (β:=List Bool) (P:= Tryz.prog) (O:=tab (n+1)) (m:=0) (N:=79) (lives:=livesOf 25) (r:=7) (C:=rNe_C7) (M:=g.Outputs.length) (enc:=fun i N'=>rNe_h7 g N' (p:Int) i) (exN:=.exit 2) (out:=fun N'=>rNe_o7a g N' (p:Int)) (fun i N'=>N'=N.set p (tv (∃f∈g.Outputs.take i,hasV f (g.Inputs+(p:Int))))) N (by rw [tv_f (fun ⟨f,hf,_⟩=>by cases hf),set_self hN0]) (by omega) (fun h=>by cases h)
    (fun i N' hi hI=>by
     subst hI
     have hf:g.Outputs[i]?=some g.Outputs[i]:=List.getElem?_eq_getElem hi
     generalize g.Outputs[i]=f at hf
     have hl:(N.set p (tv (∃f∈g.Outputs.take i,hasV f (g.Inputs+(p:Int))))).length=N.length:=List.length_set
     have hx:=get_set (x:=tv (∃f∈g.Outputs.take i,hasV f (g.Inputs+(p:Int)))) hpl
     have hK:=haso (v:=g.Inputs+(p:Int)) (List.mem_of_getElem? hf)
     by_cases c:∃f∈g.Outputs.take i,hasV f (g.Inputs+(p:Int))
     ·refine ⟨_,rNe_r7_1 (by omega) (by rw [Int.toNat_natCast];omega) (by omega) (by rw [Int.toNat_natCast];exact hx) (by omega) (tv_t c) ⟨by omega,by omega⟩,?_⟩
      rw [Int.toNat_natCast,set_old,tv_t ((out_take hf).2 (.inl c))]
     ·obtain ⟨F,q⟩:=f
      refine ⟨_,rNe_r7_2 (by omega) (by rw [Int.toNat_natCast];omega) (by omega) (by rw [Int.toNat_natCast];exact hx) (by omega) (tv_f c) hf hK ⟨by omega,by omega⟩,?_⟩
      rw [Int.toNat_natCast,set_old,tv_iff (show hasV (F,q) (g.Inputs+(p:Int))↔∃u∈g.Outputs.take (i+1),hasV u (g.Inputs+(p:Int)) from ⟨fun h=>(out_take hf).2 (.inr h),fun h=>((out_take hf).1 h).elim (fun h=>absurd h c) id⟩)])
    (fun N' hI=>rNe_x7_1 (by omega))
   rw [List.take_of_length_le (Nat.le_refl _)] at e1
   obtain ⟨N2,L11,e2⟩:=loopG_R (β:=List Bool) (P:= Tryz.prog) (O:=tab (n+1)) (m:=0) (N:=79) (lives:=livesOf 25) (r:=11) (C:=rNe_C11) (M:=k) (enc:=fun i N'=>rNe_h11 g N' (p:Int) ((p:Int)+1+(i:Int))) (exN:=.exit 4) (out:=fun N'=>rNe_o11a g N' (p:Int)) (fun i N'=>N'=N.set p (tv ((∃f∈g.Outputs,hasV f (g.Inputs+(p:Int)))∨∃u f,p<u∧u<p+1+i∧g.Units[u]?=some f∧Need g u∧hasV f (g.Inputs+(p:Int))))) N1 (by
     rw [e1,tv_iff (show (∃f∈g.Outputs,hasV f (g.Inputs+(p:Int)))↔((∃f∈g.Outputs,hasV f (g.Inputs+(p:Int)))∨∃u f,p<u∧u<p+1+0∧g.Units[u]?=some f∧Need g u∧hasV f (g.Inputs+(p:Int))) from ⟨.inl,fun h=>h.elim id fun ⟨u,f,h3,h4,_⟩=>by omega⟩)]) (by omega) (fun h=>by cases h)
    (fun i N' hi hI=>by
     subst hI
     have hu:p+1+i<g.Units.length:=by omega
     have hf:g.Units[p+1+i]?=some g.Units[p+1+i]:=List.getElem?_eq_getElem hu
     generalize g.Units[p+1+i]=f at hf
     have et:((p:Int)+1+(i:Int)).toNat=p+1+i:=by omega
     have es:(p:Int)+1+((i+1:Nat):Int)=(p:Int)+1+(i:Int)+1:=by omega
     have step:∀{Q:Prop},(Q↔(∃f∈g.Outputs,hasV f (g.Inputs+(p:Int)))∨∃u f,p<u∧u<p+1+i∧g.Units[u]?=some f∧Need g u∧hasV f (g.Inputs+(p:Int)))→((∃f∈g.Outputs,hasV f (g.Inputs+(p:Int)))∨∃u f,p<u∧u<p+1+(i+1)∧g.Units[u]?=some f∧Need g u∧hasV f (g.Inputs+(p:Int)))=(Q∨(Need g (p+1+i)∧hasV f (g.Inputs+(p:Int)))):=fun {Q} hQ=>propext ⟨by
      rintro (h3|⟨u,f2,h3,h4,h5,h6,h7⟩)
      ·exact .inl (hQ.2 (.inl h3))
      ·by_cases e:u=p+1+i
       ·subst e
        rw [hf] at h5
        cases h5
        exact .inr ⟨h6,h7⟩
       ·exact .inl (hQ.2 (.inr ⟨u,f2,h3,by omega,h5,h6,h7⟩)),by
      rintro (h3|⟨h3,h4⟩)
      ·rcases hQ.1 h3 with h5|⟨u,f2,h5,h6,h7⟩
       ·exact .inl h5
       ·exact .inr ⟨u,f2,h5,by omega,h7⟩
      ·exact .inr ⟨p+1+i,f,by omega,by omega,hf,h3,h4⟩⟩
     rw [step Iff.rfl]
     generalize ((∃f∈g.Outputs,hasV f (g.Inputs+(p:Int)))∨∃u f,p<u∧u<p+1+i∧g.Units[u]?=some f∧Need g u∧hasV f (g.Inputs+(p:Int)))=Q
     have hl:(N.set p (tv Q)).length=N.length:=List.length_set
     have hx:=get_set (x:=tv Q) hpl
     have hy:(N.set p (tv Q))[p+1+i]?=some (tv (Need g (p+1+i))):=by
      rw [List.getElem?_set_ne (by omega),h2 _ hu,if_pos (by omega)]
     have hK:=hasu (v:=g.Inputs+(p:Int)) hf
     rw [es]
     by_cases c:Q
     ·refine ⟨_,rNe_r11_1 (by omega) (by rw [Int.toNat_natCast];omega) (by omega) (by rw [Int.toNat_natCast];exact hx) (by omega) (tv_t c) ⟨by omega,by omega⟩,?_⟩
      rw [Int.toNat_natCast,set_old,tv_t (.inl c)]
     ·by_cases c2:Need g (p+1+i)
      ·obtain ⟨F,q⟩:=f
       refine ⟨_,rNe_r11_2 (by omega) (by rw [Int.toNat_natCast];omega) (by omega) (by rw [Int.toNat_natCast];exact hx) (by omega) (tv_f c) (by rw [et];omega) (by omega) (by rw [et];exact hy) (by omega) (tv_t c2) (by rw [et];exact hf) (by omega) hK ⟨by omega,by omega⟩,?_⟩
       rw [Int.toNat_natCast,set_old,tv_iff (show hasV (F,q) (g.Inputs+(p:Int))↔(Q∨(Need g (p+1+i)∧hasV (F,q) (g.Inputs+(p:Int)))) from ⟨fun h=>.inr ⟨c2,h⟩,fun h=>h.elim (fun h=>absurd h c) fun h=>h.2⟩)]
      ·refine ⟨_,rNe_r11_3 (by omega) (by rw [Int.toNat_natCast];omega) (by omega) (by rw [Int.toNat_natCast];exact hx) (by omega) (tv_f c) (by rw [et];omega) (by omega) (by rw [et];exact hy) (by omega) (tv_f c2) ⟨by omega,by omega⟩,?_⟩
       rw [Int.toNat_natCast,set_old,tv_f fun h=>h.elim c fun h=>c2 h.1])
    (fun N' hI=>rNe_x11_1 (by omega))
   have e3:N2=N.set p (tv (Need g p)):=by
    rw [e2,tv_iff (need_iff h (j:=p)),tv_iff (show ((∃f∈g.Outputs,hasV f (g.Inputs+(p:Int)))∨∃u f,p<u∧u<p+1+k∧g.Units[u]?=some f∧Need g u∧hasV f (g.Inputs+(p:Int)))↔((∃f∈g.Outputs,hasV f (g.Inputs+(p:Int)))∨∃u f,p<u∧g.Units[u]?=some f∧Need g u∧hasV f (g.Inputs+(p:Int))) from or_congr Iff.rfl ⟨fun ⟨u,f,h3,h4,h5⟩=>⟨u,f,h3,h5⟩,fun ⟨u,f,h3,h5⟩=>⟨u,f,h3,by have:=(List.getElem?_eq_some_iff.1 h5.1).1;omega,h5⟩⟩)]
   have L7:loopG Tryz.prog (tab (n+1)) 0 79 (livesOf 25) 7 rNe_C7 (rNe_h7 g N (p:Int) 0)=_:=L7
   have L11:loopG Tryz.prog (tab (n+1)) 0 79 (livesOf 25) 11 rNe_C11 (rNe_h11 g N1 (p:Int) ((p:Int)+1+((0:Nat):Int)))=_:=L11
   rw [show (p:Int)+1+((0:Nat):Int)=(p:Int)+1 from by omega] at L11
   rw [ep,show (g.Units.length:Int)-1-((k+1:Nat):Int)=(p:Int)-1 from by omega]
   refine ⟨N2,rNe_r3_1 (by omega) ⟨by omega,by omega⟩ L7 ⟨by omega,by omega⟩ L11 ⟨by omega,by omega⟩,by rw [e3,List.length_set];exact h1,fun i hi=>?_⟩
   rw [e3,List.getElem?_set]
   by_cases c:p=i
   ·subst c
    rw [if_pos rfl,if_pos hpl,if_pos (by omega)]
   ·rw [if_neg c,h2 i hi]
    by_cases c2:g.Units.length≤i+k
    ·rw [if_pos c2,if_pos (by omega)]
    ·rw [if_neg c2,if_neg (by omega)])
  (fun N hI=>rNe_x3_1 (by omega))
 have e:N=neL g:=by
  refine List.ext_getElem? fun i=>?_
  by_cases c:i<g.Units.length
  ·rw [hI2 i c,if_pos (by omega),neL_get c]
  ·have hl:(neL g).length=g.Units.length:=by unfold neL;rw [List.length_map,List.length_range]
   rw [List.getElem?_eq_none (by omega),List.getElem?_eq_none (by omega)]
 rw [←e]
 have L:loopG Tryz.prog (tab (n+1)) 0 79 (livesOf 25) 3 rNe_C3 (rNe_h3 g (List.replicate g.Units.length false) ((g.Units.length:Int)-1-((0:Nat):Int)))=_:=L
 rw [show (g.Units.length:Int)-1-((0:Nat):Int)=(g.Units.length:Int)-1 from by omega] at L
 exact rNe_f1 (by omega) ⟨by omega,by omega⟩ L
section
variable{n:Nat}{g:TGraph}(hB:BdG 17179869184 g)(hS:SG (cpG g))
include hB hS
theorem rDe_c:run (n+5) 20 [graphV g]=some (graphV (deP (cpG g))):=by
 have K:=validG_c (n:=n+2) hB
 by_cases hok:OkGr g
 ·rw [cpG_ok hok] at hS ⊢
  have h:=hS
  have u8:=h.u
  obtain ⟨x,L,h1,h2,h3⟩:=loopG_R (β:=TGraph) (P:= Tryz.prog) (O:=tab (n+5)) (m:=0) (N:=27) (lives:=livesOf 20) (r:=4) (C:=rDe_C4) (M:=g.Units.length) (enc:=fun k x=>rDe_h4 ((g.Units.length:Int)-1-(k:Int)) x.Inputs x.Units x.Outputs) (exN:=.exit 0) (out:=fun x=>rDe_o4a x.Inputs x.Units x.Outputs) (fun k x=>SG x∧g.Units.length≤x.Units.length+k∧deR (g.Units.length-k) x=deP g) g ⟨h,by omega,rfl⟩ (by omega) (fun h=>by cases h)
   (fun k x hk hI=>by
    obtain ⟨h1,h2,h3⟩:=hI
    obtain ⟨p,hp⟩:∃p,g.Units.length-k=p+1:=⟨g.Units.length-k-1,by omega⟩
    have ep:(g.Units.length:Int)-1-(k:Int)=(p:Int):=by omega
    have hpx:p<x.Units.length:=by omega
    have K2:=Needed_c (n:=n+3) h1
    have E3:=neL_get hpx
    rw [hp,deR] at h3
    rw [ep,show (g.Units.length:Int)-1-((k+1:Nat):Int)=(p:Int)-1 from by omega]
    by_cases c:Need x p
    ·rw [if_pos (tv_t c)] at h3
     exact ⟨x,rDe_r4_2 (by omega) K2 (by rw [Int.toNat_natCast];exact E3) (by omega) (tv_t c) ⟨by omega,by omega⟩,h1,by omega,by rw [show g.Units.length-(k+1)=p from by omega];exact h3⟩
    ·rw [if_neg (by rw [tv_f c];simp)] at h3
     have hl:=rpG_len (b:=zF) hpx
     exact ⟨rpG x p zF,rDe_r4_1 (by omega) K2 (by rw [Int.toNat_natCast];exact E3) (by omega) (tv_f c) (Replace_c h1 hpx (zF_ok h1)) ⟨by omega,by omega⟩,rpG_sg h1 hpx (zF_ok h1),by omega,by rw [show g.Units.length-(k+1)=p from by omega];exact h3⟩)
   (fun x hI=>rDe_x4_1 (by omega))
  rw [Nat.sub_self,deR] at h3
  subst h3
  have L:loopG Tryz.prog (tab (n+5)) 0 27 (livesOf 20) 4 rDe_C4 (rDe_h4 ((g.Units.length:Int)-1-((0:Nat):Int)) g.Inputs g.Units g.Outputs)=_:=L
  rw [show (g.Units.length:Int)-1-((0:Nat):Int)=(g.Units.length:Int)-1 from by omega] at L
  exact rDe_f2 K (tv_t hok) ⟨by omega,by omega⟩ L
 ·rw [cpG_no hok,zG_de]
  exact rDe_f1 K (tv_f hok)
end
theorem round_c{n:Nat}{x:TGraph}(hB:BdG 17179869184 x)(hS:SG (cpG x)):∃y z:TGraph,run (n+5) 14 [graphV x]=some (graphV y)∧run (n+5) 18 [graphV y]=some (graphV z)∧run (n+5) 20 [graphV z]=some (graphV (simS (cpG x))):=by
 have a:=rCo_c (n:=n) hB hS
 by_cases hok:OkGr x
 ·rw [cpG_ok hok] at hS a ⊢
  obtain ⟨a1,a2,a3⟩:=coP_sg hS
  have oc:OkGr (coP x):=a1.ok (by rw [a3];exact hok.i0) (by unfold coP;rw [cnL_olen];have:=hok.o0;omega)
  have b:=rDu_c (n:=n) a1.bd (by rw [cpG_ok oc];exact a1)
  rw [cpG_ok oc] at b
  obtain ⟨b1,b2,b3⟩:=duP_sg a1
  have od:OkGr (duP (coP x)):=b1.ok (by rw [b3,a3];exact hok.i0) (by unfold duP;rw [duL_olen];unfold coP;rw [cnL_olen];have:=hok.o0;omega)
  have c:=rDe_c (n:=n) b1.bd (by rw [cpG_ok od];exact b1)
  rw [cpG_ok od] at c
  exact ⟨_,_,a,b,c⟩
 ·rw [cpG_no hok,zG_co] at a
  have b:=rDu_c (n:=n) zG_sg.bd (by rw [cpG_no zG_no];exact zG_sg)
  have c:=rDe_c (n:=n) zG_sg.bd (by rw [cpG_no zG_no];exact zG_sg)
  rw [cpG_no zG_no,zG_du] at b
  rw [cpG_no zG_no,zG_de] at c
  rw [cpG_no hok,zG_s]
  exact ⟨_,_,a,b,c⟩
theorem simS_ok{x:TGraph}(h:SG x)(hok:OkGr x):OkGr (simS x):=by
 obtain ⟨a1,a2,a3⟩:=simS_sg h
 exact a1.ok (by rw [a3];exact hok.i0) (by rw [simS_olen];have:=hok.o0;omega)
theorem rSi_c{n:Nat}{g:TGraph}(hB:BdG 17179869184 g)(hS:SG (cpG g))(hl:g.Units.length≤8):run (n+6) 16 [graphV g]=some (graphV (simP (cpG g))):=by
 by_cases hok:OkGr g
 ·rw [cpG_ok hok] at hS ⊢
  have u8:=hS.u
  obtain ⟨ex,t,L,rfl,rfl⟩:=loopG_Q (β:=TGraph) (P:= Tryz.prog) (O:=tab (n+6)) (m:=0) (N:=17) (lives:=livesOf 16) (r:=1) (C:=rSi_C1) (M:=g.Units.length+1) (enc:=fun _ x=>rSi_h1 x.Inputs x.Units x.Outputs) (fun i x=>SG x∧OkGr x∧x.Units.length+i≤g.Units.length∧simL (g.Units.length+1-i) x=simP g) (fun ex t=>ex=.ret∧t=rSi_o1a (simP g)) g ⟨hS,hok,by omega,rfl⟩ (by omega)
   (fun i x hi hI=>by
    obtain ⟨h1,h4,h2,h3⟩:=hI
    obtain ⟨a1,a2,_⟩:=simS_sg h1
    obtain ⟨y,z,K1,K2,K3⟩:=round_c (n:=n) h1.bd (by rw [cpG_ok h4];exact h1)
    rw [cpG_ok h4] at K3
    rw [show g.Units.length+1-i=(g.Units.length-i)+1 from by omega,simL] at h3
    by_cases c:(simS x).Units.length=x.Units.length
    ·rw [if_pos c] at h3
     rw [←h3]
     exact .inr ⟨_,_,by simp,rSi_x1_1 K1 K2 K3 (by omega),rfl,rfl⟩
    ·rw [if_neg c] at h3
     exact .inl ⟨simS x,rSi_r1_1 K1 K2 K3 (by omega),a1,simS_ok h1 h4,by omega,by rw [show g.Units.length+1-(i+1)=g.Units.length-i from by omega];exact h3⟩)
   (fun x hI=>by have:=hI.2.2.1;omega)
  exact rSi_f1 L
 ·rw [cpG_no hok,zG_sim]
  have Z:=round_c (n:=n) zG_sg.bd (by rw [cpG_no zG_no];exact zG_sg)
  rw [cpG_no zG_no,zG_s] at Z
  obtain ⟨y2,z2,K4,K5,K6⟩:=Z
  obtain ⟨y,z,K1,K2,K3⟩:=round_c (n:=n) hB hS
  rw [cpG_no hok,zG_s] at K3
  obtain ⟨ex,t,L,rfl,rfl⟩:=loopG_Q (β:=TGraph) (P:= Tryz.prog) (O:=tab (n+6)) (m:=0) (N:=17) (lives:=livesOf 16) (r:=1) (C:=rSi_C1) (M:=2) (enc:=fun _ x=>rSi_h1 x.Inputs x.Units x.Outputs) (fun i x=>(i=0∧x=g)∨(i=1∧x=zG)) (fun ex t=>ex=.ret∧t=rSi_o1a zG) g (.inl ⟨rfl,rfl⟩) (by omega)
   (fun i x hi hI=>by
    rcases hI with ⟨rfl,rfl⟩|⟨rfl,rfl⟩
    ·by_cases c:zG.Units.length=x.Units.length
     ·exact .inr ⟨_,_,by simp,rSi_x1_1 K1 K2 K3 (by omega),rfl,rfl⟩
     ·exact .inl ⟨zG,rSi_r1_1 K1 K2 K3 (by omega),.inr ⟨rfl,rfl⟩⟩
    ·exact .inr ⟨_,_,by simp,rSi_x1_1 K4 K5 K6 rfl,rfl,rfl⟩)
   (fun x hI=>by rcases hI with ⟨h,_⟩|⟨h,_⟩ <;>omega)
  exact rSi_f1 L
end
section
open Go.RowKit
noncomputable def lvaR_C2:Code:=(loopsOf (bodyOf Tryz.f83)).getD 0 .skip
def lvaR_h2(a0:FormR)(a1:Int)(i_2:Nat):St:=
 ⟨[(1,.lit (.int .i64 a1)),(2,.ptr 0 0),(8,.sl 4 (a0.1.map termRC)),(9,.lit (.int .i64 (a0.1.length:Int))),(10,.lit (.int .i64 (i_2:Int)))],
  [(0,some (.box 45 [.sl 4 (a0.1.map termRC),.lit (.bool a0.2.s),natA a0.2.l1,natA a0.2.l2] false))],1⟩
def lvaR_o2a(a0:FormR):St:=
 ⟨[(2,.ptr 0 0),(4,.lit (.bool false))],
  [(0,some (.box 45 [.sl 4 (a0.1.map termRC),.lit (.bool a0.2.s),natA a0.2.l1,natA a0.2.l2] false))],1⟩
def lvaR_o2b(a0:FormR):St:=
 ⟨[(2,.ptr 0 0),(4,.any)],
  [(0,some (.box 45 [.sl 4 (a0.1.map termRC),.lit (.bool a0.2.s),natA a0.2.l1,natA a0.2.l2] false))],1⟩
section
variable {n : Nat} {a1 : Int} {i_2 : Nat} {r4 : Raw} {r5 : Raw} {v4 : Int} {a0 : FormR} {v5 : Int}
section
variable(C1:(i_2:Int)<(a0.1.length:Int))(E2:a0.1[i_2]?=some (v4,r4))
include C1 E2
theorem lvaR_r2_1(C3:¬v4<0)(C4:¬a1≤v4)(C5:0<(i_2:Int))(W6:InI ((i_2:Int)-1))(E7:a0.1[i_2-1]?=some (v5,r5))(Z7:1≤i_2)(C8:¬v4≤v5)(B9a:RawB r4)(C10:¬sgR r4.q=0)(C12:RatV r4.s r4.l1 r4.l2)(W13:InI ((i_2:Int)+1)):
  Cont 0 (exec Tryz.prog (tab n) 0 56 (livesOf 83) big lvaR_C2) (livesOf 83 2) (lvaR_h2 a0 a1 i_2) (lvaR_h2 a0 a1 (i_2+1)):=by
 have C1_:i_2<a0.1.length:=by omega
 obtain ⟨EL2,EG2⟩:=List.getElem?_eq_some_iff.1 E2
 have C5_:0<i_2:=by omega
 have C5_z:(i_2:Int)≠0:=by omega
 have C5_e:((i_2:Int)==0)=false:=by simpa using C5_z
 have C5_g:((i_2:Int) !=0)=true:=by simpa using C5_z
 have W6_:IntKind.i64.wrap ((i_2:Int)-1)=(i_2:Int)-1:=wr64 W6.1 W6.2
 obtain ⟨EL7,EG7⟩:=List.getElem?_eq_some_iff.1 E7
 have Z7_0:(1:Int)≤(i_2:Int):=by omega
 have Z7_1:0≤(i_2:Int)-1:=by omega
 have K9:=rr_sign B9a
 have C10_:(sgR r4.q==0)=false:=by simpa using C10
 have C10_n:(sgR r4.q !=0)=true:=by simpa using C10
 have K11:=rr_valid B9a
 have W13_:IntKind.i64.wrap ((i_2:Int)+1)=(i_2:Int)+1:=wr64 W13.1 W13.2
 unfold Cont
 simp+decide [lvaR_h2,loopsOf, Tryz.f83,lvaR_C2,C1,C1_,EL2,EG2,E2,C3,C4,C5,C5_,C5_e,C5_g,W6_,EL7,EG7,E7,Z7,Z7_0,Z7_1,C8,K9,C10_,C10_n,K11,C12,W13_]
theorem lvaR_r2_2(C3:¬v4<0)(C4:¬a1≤v4)(C5:¬0<(i_2:Int))(B6a:RawB r4)(C7:¬sgR r4.q=0)(C9:RatV r4.s r4.l1 r4.l2)(W10:InI ((i_2:Int)+1)):
  Cont 0 (exec Tryz.prog (tab n) 0 56 (livesOf 83) big lvaR_C2) (livesOf 83 2) (lvaR_h2 a0 a1 i_2) (lvaR_h2 a0 a1 (i_2+1)):=by
 have C1_:i_2<a0.1.length:=by omega
 obtain ⟨EL2,EG2⟩:=List.getElem?_eq_some_iff.1 E2
 have C5_:¬0<i_2:=by omega
 have C5_z:(i_2:Int)=0:=by omega
 have C5_e:((i_2:Int)==0)=true:=by rw [C5_z];simp
 have C5_g:((i_2:Int) !=0)=false:=by rw [C5_z];simp
 have K6:=rr_sign B6a
 have C7_:(sgR r4.q==0)=false:=by simpa using C7
 have C7_n:(sgR r4.q !=0)=true:=by simpa using C7
 have K8:=rr_valid B6a
 have W10_:IntKind.i64.wrap ((i_2:Int)+1)=(i_2:Int)+1:=wr64 W10.1 W10.2
 unfold Cont
 simp+decide [lvaR_h2,loopsOf, Tryz.f83,lvaR_C2,C1,C1_,EL2,EG2,E2,C3,C4,C5,C5_,C5_e,C5_g,K6,C7_,C7_n,K8,C9,W10_]
theorem lvaR_x2_1(C3:v4<0):
  Leave 0 (exec Tryz.prog (tab n) 0 56 (livesOf 83) big lvaR_C2) (livesOf 83 (outOf 2)) (lvaR_h2 a0 a1 i_2) (.ret) (lvaR_o2a a0):=by
 have C1_:i_2<a0.1.length:=by omega
 obtain ⟨EL2,EG2⟩:=List.getElem?_eq_some_iff.1 E2
 unfold Leave
 simp+decide [lvaR_h2,loopsOf, Tryz.f83,lvaR_o2a,lvaR_C2,C1,C1_,EL2,EG2,E2,C3]
theorem lvaR_x2_2(C3:¬v4<0)(C4:a1≤v4):
  Leave 0 (exec Tryz.prog (tab n) 0 56 (livesOf 83) big lvaR_C2) (livesOf 83 (outOf 2)) (lvaR_h2 a0 a1 i_2) (.ret) (lvaR_o2a a0):=by
 have C1_:i_2<a0.1.length:=by omega
 obtain ⟨EL2,EG2⟩:=List.getElem?_eq_some_iff.1 E2
 unfold Leave
 simp+decide [lvaR_h2,loopsOf, Tryz.f83,lvaR_o2a,lvaR_C2,C1,C1_,EL2,EG2,E2,C3,C4]
section
variable(C3:¬v4<0)(C4:¬a1≤v4)
include C3 C4
section
variable(C5:0<(i_2:Int))(W6:InI ((i_2:Int)-1))(E7:a0.1[i_2-1]?=some (v5,r5))(Z7:1≤i_2)
include C5 W6 E7 Z7
theorem lvaR_x2_3(C8:v4≤v5):
  Leave 0 (exec Tryz.prog (tab n) 0 56 (livesOf 83) big lvaR_C2) (livesOf 83 (outOf 2)) (lvaR_h2 a0 a1 i_2) (.ret) (lvaR_o2a a0):=by
 have C1_:i_2<a0.1.length:=by omega
 obtain ⟨EL2,EG2⟩:=List.getElem?_eq_some_iff.1 E2
 have C5_:0<i_2:=by omega
 have C5_z:(i_2:Int)≠0:=by omega
 have C5_e:((i_2:Int)==0)=false:=by simpa using C5_z
 have C5_g:((i_2:Int) !=0)=true:=by simpa using C5_z
 have W6_:IntKind.i64.wrap ((i_2:Int)-1)=(i_2:Int)-1:=wr64 W6.1 W6.2
 obtain ⟨EL7,EG7⟩:=List.getElem?_eq_some_iff.1 E7
 have Z7_0:(1:Int)≤(i_2:Int):=by omega
 have Z7_1:0≤(i_2:Int)-1:=by omega
 unfold Leave
 simp+decide [lvaR_h2,loopsOf, Tryz.f83,lvaR_o2a,lvaR_C2,C1,C1_,EL2,EG2,E2,C3,C4,C5,C5_,C5_e,C5_g,W6_,EL7,EG7,E7,Z7,Z7_0,Z7_1,C8]
theorem lvaR_x2_4(C8:¬v4≤v5)(B9a:RawB r4)(C10:sgR r4.q=0):
  Leave 0 (exec Tryz.prog (tab n) 0 56 (livesOf 83) big lvaR_C2) (livesOf 83 (outOf 2)) (lvaR_h2 a0 a1 i_2) (.ret) (lvaR_o2a a0):=by
 have C1_:i_2<a0.1.length:=by omega
 obtain ⟨EL2,EG2⟩:=List.getElem?_eq_some_iff.1 E2
 have C5_:0<i_2:=by omega
 have C5_z:(i_2:Int)≠0:=by omega
 have C5_e:((i_2:Int)==0)=false:=by simpa using C5_z
 have C5_g:((i_2:Int) !=0)=true:=by simpa using C5_z
 have W6_:IntKind.i64.wrap ((i_2:Int)-1)=(i_2:Int)-1:=wr64 W6.1 W6.2
 obtain ⟨EL7,EG7⟩:=List.getElem?_eq_some_iff.1 E7
 have Z7_0:(1:Int)≤(i_2:Int):=by omega
 have Z7_1:0≤(i_2:Int)-1:=by omega
 have K9:=rr_sign B9a
 have C10_:(sgR r4.q==0)=true:=by rw [C10];simp
 have C10_n:(sgR r4.q !=0)=false:=by rw [C10];simp
 unfold Leave
 simp+decide [lvaR_h2,loopsOf, Tryz.f83,lvaR_o2a,lvaR_C2,C1,C1_,EL2,EG2,E2,C3,C4,C5,C5_,C5_e,C5_g,W6_,EL7,EG7,E7,Z7,Z7_0,Z7_1,C8,K9,C10_,C10_n]
theorem lvaR_x2_5(C8:¬v4≤v5)(B9a:RawB r4)(C10:¬sgR r4.q=0)(C12:¬(RatV r4.s r4.l1 r4.l2)):
  Leave 0 (exec Tryz.prog (tab n) 0 56 (livesOf 83) big lvaR_C2) (livesOf 83 (outOf 2)) (lvaR_h2 a0 a1 i_2) (.ret) (lvaR_o2a a0):=by
 have C1_:i_2<a0.1.length:=by omega
 obtain ⟨EL2,EG2⟩:=List.getElem?_eq_some_iff.1 E2
 have C5_:0<i_2:=by omega
 have C5_z:(i_2:Int)≠0:=by omega
 have C5_e:((i_2:Int)==0)=false:=by simpa using C5_z
 have C5_g:((i_2:Int) !=0)=true:=by simpa using C5_z
 have W6_:IntKind.i64.wrap ((i_2:Int)-1)=(i_2:Int)-1:=wr64 W6.1 W6.2
 obtain ⟨EL7,EG7⟩:=List.getElem?_eq_some_iff.1 E7
 have Z7_0:(1:Int)≤(i_2:Int):=by omega
 have Z7_1:0≤(i_2:Int)-1:=by omega
 have K9:=rr_sign B9a
 have C10_:(sgR r4.q==0)=false:=by simpa using C10
 have C10_n:(sgR r4.q !=0)=true:=by simpa using C10
 have K11:=rr_valid B9a
 unfold Leave
 simp+decide [lvaR_h2,loopsOf, Tryz.f83,lvaR_o2a,lvaR_C2,C1,C1_,EL2,EG2,E2,C3,C4,C5,C5_,C5_e,C5_g,W6_,EL7,EG7,E7,Z7,Z7_0,Z7_1,C8,K9,C10_,C10_n,K11,C12]
end
theorem lvaR_x2_6(C5:¬0<(i_2:Int))(B6a:RawB r4)(C7:sgR r4.q=0):
  Leave 0 (exec Tryz.prog (tab n) 0 56 (livesOf 83) big lvaR_C2) (livesOf 83 (outOf 2)) (lvaR_h2 a0 a1 i_2) (.ret) (lvaR_o2a a0):=by
 have C1_:i_2<a0.1.length:=by omega
 obtain ⟨EL2,EG2⟩:=List.getElem?_eq_some_iff.1 E2
 have C5_:¬0<i_2:=by omega
 have C5_z:(i_2:Int)=0:=by omega
 have C5_e:((i_2:Int)==0)=true:=by rw [C5_z];simp
 have C5_g:((i_2:Int) !=0)=false:=by rw [C5_z];simp
 have K6:=rr_sign B6a
 have C7_:(sgR r4.q==0)=true:=by rw [C7];simp
 have C7_n:(sgR r4.q !=0)=false:=by rw [C7];simp
 unfold Leave
 simp+decide [lvaR_h2,loopsOf, Tryz.f83,lvaR_o2a,lvaR_C2,C1,C1_,EL2,EG2,E2,C3,C4,C5,C5_,C5_e,C5_g,K6,C7_,C7_n]
theorem lvaR_x2_7(C5:¬0<(i_2:Int))(B6a:RawB r4)(C7:¬sgR r4.q=0)(C9:¬(RatV r4.s r4.l1 r4.l2)):
  Leave 0 (exec Tryz.prog (tab n) 0 56 (livesOf 83) big lvaR_C2) (livesOf 83 (outOf 2)) (lvaR_h2 a0 a1 i_2) (.ret) (lvaR_o2a a0):=by
 have C1_:i_2<a0.1.length:=by omega
 obtain ⟨EL2,EG2⟩:=List.getElem?_eq_some_iff.1 E2
 have C5_:¬0<i_2:=by omega
 have C5_z:(i_2:Int)=0:=by omega
 have C5_e:((i_2:Int)==0)=true:=by rw [C5_z];simp
 have C5_g:((i_2:Int) !=0)=false:=by rw [C5_z];simp
 have K6:=rr_sign B6a
 have C7_:(sgR r4.q==0)=false:=by simpa using C7
 have C7_n:(sgR r4.q !=0)=true:=by simpa using C7
 have K8:=rr_valid B6a
 unfold Leave
 simp+decide [lvaR_h2,loopsOf, Tryz.f83,lvaR_o2a,lvaR_C2,C1,C1_,EL2,EG2,E2,C3,C4,C5,C5_,C5_e,C5_g,K6,C7_,C7_n,K8,C9]
end
end
theorem lvaR_x2_8(C1:¬(i_2:Int)<(a0.1.length:Int)):
  Leave 0 (exec Tryz.prog (tab n) 0 56 (livesOf 83) big lvaR_C2) (livesOf 83 (outOf 2)) (lvaR_h2 a0 a1 i_2) (.exit 0) (lvaR_o2b a0):=by
 have C1_:¬i_2<a0.1.length:=by omega
 unfold Leave
 simp+decide [lvaR_h2,loopsOf, Tryz.f83,lvaR_o2b,lvaR_C2,C1,C1_]
theorem lvaR_f1(L1:loopG Tryz.prog (tab n) 0 56 (livesOf 83) 2 lvaR_C2 (lvaR_h2 a0 a1 0)=some (.ret,lvaR_o2a a0)):
  run n 83 [.agg [.sl 4 (a0.1.map termRC),.lit (.bool a0.2.s),natA a0.2.l1,natA a0.2.l2],.lit (.int .i64 a1)]=some (.lit (.bool false)):=by
 unfold run fnP
 simp+decide [Tryz.f83]
 rw [loopX_G (C':=lvaR_C2) (e:=(lvaR_h2 a0 a1 0)) ?_ ?_,L1]
 rotate_left
 ·kernel_rfl
 ·simp+decide [lvaR_h2]
 simp+decide [lvaR_o2a]
theorem lvaR_f2(L1:loopG Tryz.prog (tab n) 0 56 (livesOf 83) 2 lvaR_C2 (lvaR_h2 a0 a1 0)=some (.exit 0,lvaR_o2b a0))(B2a:RawB a0.2):
  run n 83 [.agg [.sl 4 (a0.1.map termRC),.lit (.bool a0.2.s),natA a0.2.l1,natA a0.2.l2],.lit (.int .i64 a1)]=some (.lit (.bool (decide (RatV a0.2.s a0.2.l1 a0.2.l2)))):=by
 have K2:=rr_valid B2a
 unfold run fnP
 simp+decide [Tryz.f83,K2]
 rw [loopX_G (C':=lvaR_C2) (e:=(lvaR_h2 a0 a1 0)) ?_ ?_,L1]
 rotate_left
 ·kernel_rfl
 ·simp+decide [lvaR_h2,K2]
 simp+decide [lvaR_o2b,K2]
end
end
section
open Go.RowKit
attribute [local irreducible] run runL loopG exec
theorem lvalidRB_c{n:Nat}{f:FormR}{vars:Int}(h8:f.1.length≤100000)(hrbs:∀t∈f.1,RawB t.2)(hkb:RawB f.2):run n 83 [frV f,.lit (.int .i64 vars)]=some (.lit (.bool (tv (OkFR f vars)))):=by
 have L:=loopG_all (O:=tab n) (P:= Tryz.prog) (m:=0) (N:=56) (lives:=livesOf 83) (r:=2) (C:=lvaR_C2) (M:=f.1.length) (enc:=lvaR_h2 f vars) (p:=fun i=>tv (OkTmR f.1 vars i)) (exN:=.exit 0) (exE:=.ret) (out:=lvaR_o2b f) (outE:=lvaR_o2a f) (by omega) (fun h=>by cases h) (fun h=>by cases h)
  (fun i hi _=>by
   have hx:f.1[i]?=some f.1[i]:=List.getElem?_eq_getElem hi
   obtain ⟨t,ht⟩:∃t,f.1[i]=t:=⟨_,rfl⟩
   rw [ht] at hx
   obtain ⟨v,r⟩:=t
   have hm:(v,r)∈f.1:=List.mem_of_getElem? hx
   have hrb:RawB r:=hrbs _ hm
   have C1:(i:Int)<(f.1.length:Int):=by omega
   have hp:0<i→∃v' r',f.1[i-1]?=some (v',r'):=fun h0=>⟨(f.1[i-1]'(by omega)).1,(f.1[i-1]'(by omega)).2,List.getElem?_eq_getElem _⟩
   refine ⟨fun hp'=>?_,fun hp'=>?_⟩
   ·obtain ⟨a1,a2,a3,a4,a5⟩:=tv_true hp' v r hx
    have s0:¬sgR r.q=0:=fun h=>a3 (sgR_eq_zero.1 h)
    by_cases h0:0<i
    ·obtain ⟨v',r',hx'⟩:=hp h0
     have:=a5 v' r' h0 hx'
     exact lvaR_r2_1 C1 hx (by omega) (by omega) (by omega) ⟨by omega,by omega⟩ hx' (by omega) (by omega) hrb s0 a4 ⟨by omega,by omega⟩
    ·exact lvaR_r2_2 C1 hx (by omega) (by omega) (by omega) hrb s0 a4 ⟨by omega,by omega⟩
   ·have hq:=tv_false hp'
    by_cases b1:v<0
    ·exact lvaR_x2_1 C1 hx b1
    by_cases b2:vars≤v
    ·exact lvaR_x2_2 C1 hx b1 b2
    by_cases h0:0<i
    ·obtain ⟨v',r',hx'⟩:=hp h0
     by_cases b3:v≤v'
     ·exact lvaR_x2_3 C1 hx b1 b2 (by omega) ⟨by omega,by omega⟩ hx' (by omega) b3
     by_cases b4:sgR r.q=0
     ·exact lvaR_x2_4 C1 hx b1 b2 (by omega) ⟨by omega,by omega⟩ hx' (by omega) b3 hrb b4
     refine lvaR_x2_5 C1 hx b1 b2 (by omega) ⟨by omega,by omega⟩ hx' (by omega) b3 hrb b4 fun b5=>hq fun v2 c2 h2=>?_
     rw [hx] at h2;cases h2
     refine ⟨by omega,by omega,fun h=>b4 (sgR_eq_zero.2 h),b5,fun v3 c3 _ h3=>?_⟩
     rw [hx'] at h3;cases h3
     omega
    ·by_cases b4:sgR r.q=0
     ·exact lvaR_x2_6 C1 hx b1 b2 (by omega) hrb b4
     refine lvaR_x2_7 C1 hx b1 b2 (by omega) hrb b4 fun b5=>hq fun v2 c2 h2=>?_
     rw [hx] at h2;cases h2
     exact ⟨by omega,by omega,fun h=>b4 (sgR_eq_zero.2 h),b5,fun v3 c3 h9 h3=>absurd h9 h0⟩)
  (lvaR_x2_8 (by omega))
 by_cases hA:∀i,i<f.1.length→tv (OkTmR f.1 vars i)=true
 ·rw [if_pos hA] at L
  have h:=lvaR_f2 L hkb
  have e:decide (RatV f.2.s f.2.l1 f.2.l2)=tv (OkFR f vars):=by
   by_cases hk:Cn f.2
   ·rw [tv_t ⟨fun i hi=>tv_true (hA i hi),hk⟩];exact decide_eq_true hk
   ·rw [tv_f fun h=>hk h.2];exact decide_eq_false hk
  rw [e] at h
  exact h
 ·rw [if_neg hA] at L
  rw [tv_f fun h=>hA fun i hi=>tv_t (h.1 i hi)]
  exact lvaR_f1 L
end
end Go.Proofs.YtefdjbknmfeooaaGreatDoor
