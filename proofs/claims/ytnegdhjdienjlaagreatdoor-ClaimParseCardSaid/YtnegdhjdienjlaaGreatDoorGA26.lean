import Derived.Test.YtnegdhjdienjlaaGreatDoorGA16
import Derived.Test.YtnegdhjdienjlaaGreatDoorGA25
import Derived.Test.YtnegdhjdienjlaaGreatDoorGA19
import Derived.Test.YtnegdhjdienjlaaGreatDoorGA18
import Derived.Test.YtnegdhjdienjlaaGreatDoorGA22
import Derived.Test.YtnegdhjdienjlaaGreatDoorGA21
import Derived.Test.YtnegdhjdienjlaaGreatDoorGA20
import Derived.Test.YtnegdhjdienjlaaGreatDoorGA17
set_option linter.all false
set_option maxHeartbeats 6400000
set_option maxRecDepth 100000
namespace Go.Proofs.YtnegdhjdienjlaaGreatDoor
section
open Go.RowKit
end
section
open Go.RowKit
attribute [local irreducible] run runL loopG exec
end
section
open Go.RowKit
attribute [local irreducible] run runL loopG exec
theorem all_ix{α:Type}{L:List α}{P:α→Prop}:(∀i,i<L.length→∀x,L[i]?=some x→P x)↔∀x∈L,P x:=
 ⟨fun h x hx=>by
  obtain ⟨i,hi⟩:=List.mem_iff_getElem?.1 hx
  exact h i (List.getElem?_eq_some_iff.1 hi).1 x hi,fun h i _ x hx=>h x (List.mem_of_getElem? hx)⟩
theorem tv_if{p q:Prop}(h:p↔q):tv p=tv q:=by
 by_cases hp:p
 ·rw [tv_t hp,tv_t (h.1 hp)]
 ·rw [tv_f hp,tv_f fun hq=>hp (h.2 hq)]
theorem tv_one{α:Type}{L:List α}{P:α→Prop}{i:Nat}{x:α}(hx:L[i]?=some x):tv (∀y,L[i]?=some y→P y)=tv (P x):=tv_if ⟨fun h=>h x hx,fun h y hy=>by rw [hx] at hy;cases hy;exact h⟩
theorem ite_all{α β:Type}{L:List α}{P:α→Prop}{a b:β}{inst:Decidable (∀i,i<L.length→tv (∀x,L[i]?=some x→P x)=true)}(h:∀x∈L,P x):@ite β (∀i,i<L.length→tv (∀x,L[i]?=some x→P x)=true) inst a b=a:=if_pos fun i _=>tv_t fun x hx=>h x (List.mem_of_getElem? hx)
theorem ite_not{α β:Type}{L:List α}{P:α→Prop}{a b:β}{inst:Decidable (∀i,i<L.length→tv (∀x,L[i]?=some x→P x)=true)}(h:¬∀x∈L,P x):@ite β (∀i,i<L.length→tv (∀x,L[i]?=some x→P x)=true) inst a b=b:=if_neg fun h2=>h (all_ix.1 fun k hk=>tv_true (h2 k hk))
structure FewF (f:FormR):Prop where
 l:f.1.length≤6
 k:Two f.2
 t:∀t∈f.1,Two t.2
structure FewC (c:TClaimR):Prop where
 l:c.Rows.length≤6
 m:Two c.Margin
 f:∀f∈c.Rows,FewF f
structure LimC (c:TClaimR):Prop where
 m:LimR2 c.Margin
 f:∀f∈c.Rows,LimF f
def OkK(c:TClaimR)(z:Int):Prop:=(c.Kind=1∧0≤c.Target∧c.Target<z∧c.Rows=[])∨(c.Kind=2∧c.Target=0∧1≤c.Rows.length∧∀f∈c.Rows,OkFR f z)
structure OkClR (c:TClaimR) (z:Int):Prop where
 z0:1≤z
 z1:z≤256
 m:Cn c.Margin
 m0:¬sgR c.Margin.q<0
 k:OkK c z
structure Good (c:TClaimR):Prop where
 B:RawB c.Margin
 l:c.Rows.length≤6
 f:∀f∈c.Rows,LimF f
 w:∀f∈c.Rows,FewF f
section
variable {n : Nat} {c : TClaimR} {z : Int}
theorem len0{α:Type}{l:List α}:(((l.length:Int)==0))=tv (l=[]):=by
 cases l with
 | nil=>rw [tv_t rfl];rfl
 | cons a l=>
   rw [tv_f (by simp)]
   have:¬(((a::l).length:Int)=0):=by simp;omega
   simpa using this
end
structure SmFC (f:Form) (z:Int):Prop where
 l:f.1.length≤6
 t:∀t∈f.1,H t.2≤2
 k:H f.2≤2
 ok:OkFm f z
structure SmC (c:TClaim) (z:Int):Prop where
 z0:1≤z
 z1:z≤256
 m:H c.Margin≤8
 m0:0≤c.Margin
 l:c.Rows.length≤6
 f:∀f∈c.Rows,SmFC f z
 k:(c.Kind=1∧0≤c.Target∧c.Target<z∧c.Rows=[])∨(c.Kind=2∧c.Target=0∧1≤c.Rows.length)
end
section
open Go.RowKit
def InR(k:Nat)(F:List (Int × Rat)):Prop:=∀t∈F,0≤t.1∧t.1<(k:Int)
theorem InR.app{k:Nat}{F G:List (Int × Rat)}(h:InR k F)(g:InR k G):InR k (F++G):=fun t ht=>(List.mem_append.1 ht).elim (h t) (g t)
theorem InR.put{k:Nat}{v:Int}{q:Rat}(h:0≤v∧v<(k:Int)):InR k (put1 v q):=fun t ht=>by
 obtain ⟨rfl,_⟩:=put1_mem ht
 exact h
theorem InR.plus{k:Nat}{v:Int}{c:Rat}(hv:0≤v∧v<(k:Int)):∀{d:Bool} {F:List (Int × Rat)},InR k F→InR k (plusV d F v c)
 | d,[],_=>by
   rw [plusV]
   split
   ·exact fun t ht=>by cases ht
   ·exact InR.put hv
 | d,t::F,h=>by
   have ht:0≤t.1∧t.1<(k:Int):=h t (by simp)
   have hF:InR k F:=fun u hu=>h u (by simp [hu])
   rw [plusV]
   split
   ·exact (InR.put ht).app (InR.plus hv hF)
   ·split
    ·exact (InR.put hv).app ((InR.put ht).app (InR.plus hv hF))
    ·exact (InR.put ht).app (InR.plus hv hF)
theorem InR.add{k:Nat}:∀{G F:List (Int × Rat)},InR k F→InR k G→InR k (addV F G)
 | [],F,h,_=>h
 | t::G,F,h,g=>by
   have e:addV F (t::G)=addV (plusV false F t.1 t.2) G:=rfl
   rw [e]
   exact InR.add (InR.plus (g t (by simp)) h) fun u hu=>g u (by simp [hu])
theorem InR.scl{k:Nat}{c:Rat}{F:List (Int × Rat)}(h:InR k F):InR k (sclV F c):=fun t ht=>by
 simp only [sclV,List.mem_flatMap] at ht
 obtain ⟨u,hu,h1⟩:=ht
 obtain ⟨rfl,_⟩:=put1_mem h1
 exact h u hu
theorem TmB.add{b:Nat}:∀{G F:List (Int × Rat)} {m:Nat},TmB m F→TmB b G→TmB (m+(b+1)*G.length) (addV F G)
 | [],F,m,h,_=>h
 | t::G,F,m,h,g=>by
   have e:addV F (t::G)=addV (plusV false F t.1 t.2) G:=rfl
   rw [e]
   refine (TmB.add (TmB.plus (g t (by simp)).2 h) fun u hu=>g u (by simp [hu])).mono ?_
   rw [List.length_cons,Nat.mul_add]
   omega
theorem addV_len:∀(G F:List (Int × Rat)),(addV F G).length≤F.length+G.length
 | [],F=>by have e:addV F []=F:=rfl;rw [e];simp
 | t::G,F=>by
   have e:addV F (t::G)=addV (plusV false F t.1 t.2) G:=rfl
   have h1:=addV_len G (plusV false F t.1 t.2)
   have h2:=plusV_len false F t.1 t.2
   rw [e,List.length_cons]
   omega
theorem TmB.scl{m b:Nat}{c:Rat}{F:List (Int × Rat)}(h:TmB m F)(hc:H c≤b):TmB (m+b) (sclV F c):=fun t ht=>by
 simp only [sclV,List.mem_flatMap] at ht
 obtain ⟨u,hu,h1⟩:=ht
 obtain ⟨rfl,h2⟩:=put1_mem h1
 have h3:=H_mul u.2 c
 have h4:=(h u hu).2
 exact ⟨h2,by dsimp only;omega⟩
theorem TmB.bd{m:Nat}{f:Form}(h:TmB m f.1)(hl:f.1.length≤100000000)(hk:H f.2≤m):BdF m f:=⟨hl,fun t ht=>(h t ht).2,hk⟩
end
section
open Go.RowKit
noncomputable def feq_C4:Code:=(loopsOf (bodyOf Tryz.f126)).getD 0 .skip
def feq_h4(a0:Form)(a1:Form)(i_4:Nat):St:=
 ⟨[(2,.ptr 0 0),(3,.ptr 1 0),(5,.lit (.int .i64 (i_4:Int)))],
  [(0,some (.box 79 [.sl 4 (a0.1.map termC),.lit (.bool (rawQ a0.2).s),natA (rawQ a0.2).l1,natA (rawQ a0.2).l2] false)),
   (1,some (.box 79 [.sl 4 (a1.1.map termC),.lit (.bool (rawQ a1.2).s),natA (rawQ a1.2).l1,natA (rawQ a1.2).l2] false))],2⟩
def feq_o4a:St:=
 ⟨[(4,.lit (.bool false))],
  [],0⟩
def feq_o4b:St:=
 ⟨[(4,.any)],
  [],0⟩
section
variable {v5 : Int} {a1 : Form} {n : Nat} {q6 : Rat} {v6 : Int} {q5 : Rat} {a0 : Form} {i_4 : Nat}
section
variable(C1:(i_4:Int)<(a0.1.length:Int))(E2:a0.1[i_4]?=some (v5,q5))(E3:a1.1[i_4]?=some (v6,q6))
include C1 E2 E3
theorem feq_r4_1(C4:v5=v6)(B5a:H q5≤17179869184)(B5b:H q6≤17179869184)(C6:q5=q6)(W7:InI ((i_4:Int)+1)):
  Cont 0 (exec Tryz.prog (tab n) 0 57 (livesOf 126) big feq_C4) (livesOf 126 4) (feq_h4 a0 a1 i_4) (feq_h4 a0 a1 (i_4+1)):=by
 have C1_:i_4<a0.1.length:=by omega
 obtain ⟨EL2,EG2⟩:=List.getElem?_eq_some_iff.1 E2
 obtain ⟨EL3,EG3⟩:=List.getElem?_eq_some_iff.1 E3
 have C4_:(v5==v6)=true:=by rw [C4];simp
 have C4_n:(v5 !=v6)=false:=by rw [C4];simp
 have K5:=r_same (p:=q5) (q:=q6) B5a B5b
 have C6_:decide (q5=q6)=true:=decide_eq_true C6
 have W7_:IntKind.i64.wrap ((i_4:Int)+1)=(i_4:Int)+1:=wr64 W7.1 W7.2
 unfold Cont
 simp+decide [feq_h4,loopsOf, Tryz.f126,feq_C4,C1,C1_,EL2,EG2,E2,EL3,EG3,E3,C4_,C4_n,K5,C6_,W7_]
theorem feq_x4_1(C4:¬v5=v6):
  Leave 0 (exec Tryz.prog (tab n) 0 57 (livesOf 126) big feq_C4) (livesOf 126 (outOf 4)) (feq_h4 a0 a1 i_4) (.ret) (feq_o4a):=by
 have C1_:i_4<a0.1.length:=by omega
 obtain ⟨EL2,EG2⟩:=List.getElem?_eq_some_iff.1 E2
 obtain ⟨EL3,EG3⟩:=List.getElem?_eq_some_iff.1 E3
 have C4_:(v5==v6)=false:=by simpa using C4
 have C4_n:(v5 !=v6)=true:=by simpa using C4
 unfold Leave
 simp+decide [feq_h4,loopsOf, Tryz.f126,feq_o4a,feq_C4,C1,C1_,EL2,EG2,E2,EL3,EG3,E3,C4_,C4_n]
theorem feq_x4_2(C4:v5=v6)(B5a:H q5≤17179869184)(B5b:H q6≤17179869184)(C6:¬(q5=q6)):
  Leave 0 (exec Tryz.prog (tab n) 0 57 (livesOf 126) big feq_C4) (livesOf 126 (outOf 4)) (feq_h4 a0 a1 i_4) (.ret) (feq_o4a):=by
 have C1_:i_4<a0.1.length:=by omega
 obtain ⟨EL2,EG2⟩:=List.getElem?_eq_some_iff.1 E2
 obtain ⟨EL3,EG3⟩:=List.getElem?_eq_some_iff.1 E3
 have C4_:(v5==v6)=true:=by rw [C4];simp
 have C4_n:(v5 !=v6)=false:=by rw [C4];simp
 have K5:=r_same (p:=q5) (q:=q6) B5a B5b
 unfold Leave
 simp+decide [feq_h4,loopsOf, Tryz.f126,feq_o4a,feq_C4,C1,C1_,EL2,EG2,E2,EL3,EG3,E3,C4_,C4_n,K5,C6]
end
theorem feq_x4_3(C1:¬(i_4:Int)<(a0.1.length:Int)):
  Leave 0 (exec Tryz.prog (tab n) 0 57 (livesOf 126) big feq_C4) (livesOf 126 (outOf 4)) (feq_h4 a0 a1 i_4) (.exit 0) (feq_o4b):=by
 have C1_:¬i_4<a0.1.length:=by omega
 unfold Leave
 simp+decide [feq_h4,loopsOf, Tryz.f126,feq_o4b,feq_C4,C1,C1_]
theorem feq_f1(C1:¬(a0.1.length:Int)=(a1.1.length:Int)):
  run n 126 [formV a0,formV a1]=some (.lit (.bool false)):=by
 have C1_:((a0.1.length:Int)==(a1.1.length:Int))=false:=by simpa using C1
 have C1_n:((a0.1.length:Int) !=(a1.1.length:Int))=true:=by simpa using C1
 unfold run fnP
 simp+decide [Tryz.f126,C1_,C1_n]
section
variable(C1:(a0.1.length:Int)=(a1.1.length:Int))(B2a:H a0.2≤17179869184)(B2b:H a1.2≤17179869184)
include C1 B2a B2b
theorem feq_f2(C3:¬(a0.2=a1.2)):
  run n 126 [formV a0,formV a1]=some (.lit (.bool false)):=by
 have C1_:((a0.1.length:Int)==(a1.1.length:Int))=true:=by rw [C1];simp
 have C1_n:((a0.1.length:Int) !=(a1.1.length:Int))=false:=by rw [C1];simp
 have K2:=r_same (p:=a0.2) (q:=a1.2) B2a B2b
 unfold run fnP
 simp+decide [Tryz.f126,C1_,C1_n,K2,C3]
theorem feq_f3(C3:a0.2=a1.2)(L4:loopG Tryz.prog (tab n) 0 57 (livesOf 126) 4 feq_C4 (feq_h4 a0 a1 0)=some (.ret,feq_o4a)):
  run n 126 [formV a0,formV a1]=some (.lit (.bool false)):=by
 have C1_:((a0.1.length:Int)==(a1.1.length:Int))=true:=by rw [C1];simp
 have C1_n:((a0.1.length:Int) !=(a1.1.length:Int))=false:=by rw [C1];simp
 have K2:=r_same (p:=a0.2) (q:=a1.2) B2a B2b
 have C3_:decide (a0.2=a1.2)=true:=decide_eq_true C3
 unfold run fnP
 simp+decide [Tryz.f126,C1_,C1_n,K2,C3_]
 rw [loopX_G (C':=feq_C4) (e:=(feq_h4 a0 a1 0)) ?_ ?_,L4]
 rotate_left
 ·kernel_rfl
 ·simp+decide [feq_h4,C1_,C1_n,K2,C3_]
 simp+decide [feq_o4a,C1_,C1_n,K2,C3_]
theorem feq_f4(C3:a0.2=a1.2)(L4:loopG Tryz.prog (tab n) 0 57 (livesOf 126) 4 feq_C4 (feq_h4 a0 a1 0)=some (.exit 0,feq_o4b)):
  run n 126 [formV a0,formV a1]=some (.lit (.bool true)):=by
 have C1_:((a0.1.length:Int)==(a1.1.length:Int))=true:=by rw [C1];simp
 have C1_n:((a0.1.length:Int) !=(a1.1.length:Int))=false:=by rw [C1];simp
 have K2:=r_same (p:=a0.2) (q:=a1.2) B2a B2b
 have C3_:decide (a0.2=a1.2)=true:=decide_eq_true C3
 unfold run fnP
 simp+decide [Tryz.f126,C1_,C1_n,K2,C3_]
 rw [loopX_G (C':=feq_C4) (e:=(feq_h4 a0 a1 0)) ?_ ?_,L4]
 rotate_left
 ·kernel_rfl
 ·simp+decide [feq_h4,C1_,C1_n,K2,C3_]
 simp+decide [feq_o4b,C1_,C1_n,K2,C3_]
end
end
noncomputable def fea_C4:Code:=(loopsOf (bodyOf Tryz.f63)).getD 0 .skip
def fea_h4(a0:List Form)(a1:List Form)(i_4:Nat):St:=
 ⟨[(0,.sl 4 (a0.map formC)),(1,.sl 4 (a1.map formC)),(5,.lit (.int .i64 (i_4:Int)))],
  [],0⟩
def fea_o4b:St:=
 ⟨[(4,.any)],
  [],0⟩
section
variable{r3:Bool}{F6:List (Int × Rat)}{a1:List Form}{n:Nat}{q6:Rat}{F5:List (Int × Rat)}{q5:Rat}{a0:List Form}{i_4:Nat}
theorem fea_r4_1(C1:(i_4:Int)<(a0.length:Int))(E2:a0[i_4]?=some (F5,q5))(E3:a1[i_4]?=some (F6,q6))(K4:run n 126 [formV (F5,q5),formV (F6,q6)]=some (.lit (.bool r3)))(C5:r3=true)(W6:InI ((i_4:Int)+1)):
  Cont 0 (exec Tryz.prog (tab (n+1)) 0 27 (livesOf 63) big fea_C4) (livesOf 63 4) (fea_h4 a0 a1 i_4) (fea_h4 a0 a1 (i_4+1)):=by
 have C1_:i_4<a0.length:=by omega
 obtain ⟨EL2,EG2⟩:=List.getElem?_eq_some_iff.1 E2
 obtain ⟨EL3,EG3⟩:=List.getElem?_eq_some_iff.1 E3
 simp only [formV] at K4
 have W6_:IntKind.i64.wrap ((i_4:Int)+1)=(i_4:Int)+1:=wr64 W6.1 W6.2
 unfold Cont
 simp+decide [fea_h4,loopsOf, Tryz.f63,fea_C4,C1,C1_,EL2,EG2,E2,EL3,EG3,E3,K4,C5,W6_]
theorem fea_x4_2(C1:¬(i_4:Int)<(a0.length:Int)):
  Leave 0 (exec Tryz.prog (tab (n+1)) 0 27 (livesOf 63) big fea_C4) (livesOf 63 (outOf 4)) (fea_h4 a0 a1 i_4) (.exit 0) (fea_o4b):=by
 have C1_:¬i_4<a0.length:=by omega
 unfold Leave
 simp+decide [fea_h4,loopsOf, Tryz.f63,fea_o4b,fea_C4,C1,C1_]
theorem fea_f3(C1:(a0.length:Int)=(a1.length:Int))(L2:loopG Tryz.prog (tab (n+1)) 0 27 (livesOf 63) 4 fea_C4 (fea_h4 a0 a1 0)=some (.exit 0,fea_o4b)):
  run (n+1) 63 [.sl 4 (a0.map formC),.sl 4 (a1.map formC)]=some (.lit (.bool true)):=by
 have C1_:((a0.length:Int)==(a1.length:Int))=true:=by rw [C1];simp
 have C1_n:((a0.length:Int) !=(a1.length:Int))=false:=by rw [C1];simp
 unfold run fnP
 simp+decide [Tryz.f63,C1_,C1_n]
 rw [loopX_G (C':=fea_C4) (e:=(fea_h4 a0 a1 0)) ?_ ?_,L2]
 rotate_left
 ·kernel_rfl
 ·simp+decide [fea_h4,C1_,C1_n]
 simp+decide [fea_o4b,C1_,C1_n]
end
end
section
open Go.RowKit
attribute [local irreducible] run runL loopG exec
theorem list_all{α:Type}{l m:List α}(hl:l.length=m.length):(∀i,i<l.length→l[i]?=m[i]?)→l=m:=fun h=>by
 apply List.ext_getElem?
 intro i
 rcases Nat.lt_or_ge i l.length with hi|hi
 ·exact h i hi
 ·rw [List.getElem?_eq_none hi,List.getElem?_eq_none (by omega)]
theorem feq_c{n:Nat}{f g:Form}(hf:BdF 17179869184 f)(hg:BdF 17179869184 g):run n 126 [formV f,formV g]=some (.lit (.bool (tv (f=g)))):=by
 have l1:=hf.l
 have l2:=hg.l
 by_cases hl:f.1.length=g.1.length
 ·by_cases hk:f.2=g.2
  ·have L:=loopG_all (O:=tab n) (P:= Tryz.prog) (m:=0) (N:=57) (lives:=livesOf 126) (r:=4) (C:=feq_C4) (M:=f.1.length) (enc:=feq_h4 f g) (p:=fun i=>tv (f.1[i]?=g.1[i]?)) (exN:=.exit 0) (exE:=.ret) (out:=feq_o4b) (outE:=feq_o4a) (by omega) (fun h=>by cases h) (fun h=>by cases h)
    (fun i hi _=>by
     have hx:f.1[i]?=some f.1[i]:=List.getElem?_eq_getElem hi
     have hy:g.1[i]?=some (g.1[i]'(by omega)):=List.getElem?_eq_getElem _
     obtain ⟨t,ht⟩:∃t,f.1[i]=t:=⟨_,rfl⟩
     obtain ⟨u,hu⟩:∃u,(g.1[i]'(by omega))=u:=⟨_,rfl⟩
     rw [ht] at hx
     rw [hu] at hy
     obtain ⟨v,q⟩:=t
     obtain ⟨v',q'⟩:=u
     have hq:=hf.t _ (List.mem_of_getElem? hx)
     have hq':=hg.t _ (List.mem_of_getElem? hy)
     dsimp only at hq hq'
     refine ⟨fun hp=>?_,fun hp=>?_⟩
     ·have hp:=tv_true hp
      rw [hx,hy] at hp
      cases hp
      exact feq_r4_1 (by omega) hx hy rfl hq hq' rfl ⟨by omega,by omega⟩
     ·have hp:=tv_false hp
      rw [hx,hy] at hp
      by_cases e1:v=v'
      ·exact feq_x4_2 (by omega) hx hy e1 hq hq' fun e2=>hp (by rw [e1,e2])
      ·exact feq_x4_1 (by omega) hx hy e1)
    (feq_x4_3 (by omega))
   by_cases hA:∀i,i<f.1.length→tv (f.1[i]?=g.1[i]?)=true
   ·rw [if_pos hA] at L
    rw [tv_t (Prod.ext (list_all hl fun i hi=>tv_true (hA i hi)) hk)]
    exact feq_f4 (by omega) hf.k hg.k hk L
   ·rw [if_neg hA] at L
    rw [tv_f fun h=>hA fun i hi=>tv_t (by rw [h])]
    exact feq_f3 (by omega) hf.k hg.k hk L
  ·rw [tv_f fun h=>hk (by rw [h])]
   exact feq_f2 (by omega) hf.k hg.k hk
 ·rw [tv_f fun h=>hl (by rw [h])]
  exact feq_f1 (by omega)
end
section
open Go.RowKit
attribute [local irreducible] run runL loopG exec
theorem ofm1:ofQ (-1)=-1:=by decide+kernel
structure SB (m j:Nat) (f:Form):Prop where
 s:Srt f.1
 t:TmB m f.1
 k:H f.2≤m
 l:f.1.length≤j
theorem SB.bd{m k:Nat}{f:Form}(h:SB m k f)(hm:m≤17179869184)(hk:k≤100000000):BdF 17179869184 f:=⟨by have:=h.l;omega,fun t ht=>by have:=(h.t t ht).2;omega,by have:=h.k;omega⟩
theorem SB.mono{m k m' k':Nat}{f:Form}(h:SB m k f)(hm:m≤m')(hk:k≤k'):SB m' k' f:=⟨h.s,TmB.mono h.t hm,by have:=h.k;omega,by have:=h.l;omega⟩
def subF(f g:Form):Form:=(addV f.1 (sclV g.1 (-1)),f.2-g.2)
theorem sub_sb{m k b j:Nat}{f g:Form}(hf:SB m k f)(hg:SB b j g):SB (m+(b+2)*(j+1)) (k+j) (subF f g):=by
 have h1:H (-1)≤1:=by decide+kernel
 have tS:=TmB.scl hg.t h1
 have lS:=sclV_len (-1) g.1
 have lA:=addV_len (sclV g.1 (-1)) f.1
 have tA:TmB (m+(b+2)*(sclV g.1 (-1)).length) (addV f.1 (sclV g.1 (-1))):=TmB.add hf.t tS
 have hl:=hg.l
 have hm:(b+2)*(sclV g.1 (-1)).length≤(b+2)*j:=Nat.mul_le_mul_left _ (by omega)
 have hm1:(b+2)*(j+1)=(b+2)*j+(b+2):=Nat.mul_succ _ _
 have e:f.2-g.2=f.2+g.2*(-1):=by grind
 have ha:=H_add f.2 (g.2*(-1))
 have hb:=H_mul g.2 (-1)
 have k1:=hf.k
 have k2:=hg.k
 refine ⟨(add_srt hf.s (scl_srt hg.s).1).1,TmB.mono tA (by omega),?_,?_⟩
 ·show H (f.2-g.2)≤_
  rw [e];omega
 ·show (addV f.1 (sclV g.1 (-1))).length≤_
  have:=hf.l
  omega
section
variable {n : Nat} {c : TClaim} {z : Int}
end
end
section
open Go.RowKit
attribute [local irreducible] run runL loopG exec
theorem fm_sb{L:List UInt8}(hL:L.length≤80):SB 8300 81 (fmF L).1:=by
 have hz:SB 8300 81 (([],0):Form):=⟨Srt.nil,fun t ht=>(by cases ht),by show H 0≤_;have:H 0≤1:=by decide
                                                                       omega,by simp⟩
 by_cases h0:(120:UInt8)∈L
 ·have e:fmF L=(([],0),false):=by unfold fmF;rw [if_pos h0]
  rw [e];exact hz
 ·cases h:psT (L.map (swp 121 120)) with
  | error r=>
    have e:fmF L=(([],0),false):=by unfold fmF;rw [if_neg h0,h]
    rw [e];exact hz
  | ok g=>
    have e:fmF L=(g,true):=by unfold fmF;rw [if_neg h0,h]
    obtain ⟨j,h1,h2⟩:=psT_rdl (L:=L.map (swp 121 120)) (by rw [List.length_map];omega) h
    rw [List.length_map] at h1
    rw [e]
    exact ⟨h2.s,TmB.mono h2.t (by omega),by have:=h2.c;show H g.2≤_;omega,by have:=h2.l;show g.1.length≤_;omega⟩
theorem sub_big{n m k b j:Nat}{f g:Form}(hf:SB m k f)(hg:SB b j g)(hm:m≤8300)(hb:b≤8300)(hk:k≤1000)(hj:j≤81):
  run (n+2) 92 [formV f,formV g]=some (formV (subF f g))∧run (n+3) 127 [formV f,formV g]=some (formV (subF f g)):=by
 have h1:H (-1)≤1:=by decide+kernel
 have k1:=hf.k
 have k2:=hg.k
 have l1:=hf.l
 have l2:=hg.l
 have D:=psub_c (n:=n) (f:=f) (g:=g) (b:=10000) (fun t ht=>by have:=(hf.t t ht).2;omega) (fun t ht=>by have:=(hg.t t ht).2;omega) (by omega) (by omega) (by omega) (by omega) (by omega)
 rw [merge_add hf.s hg.s] at D
 have sc:=scale_c (n:=n+1) (f:=g) (c:=ofQ (-1)) (TmB.mono hg.t (by omega)) (by omega) (by omega) (by rw [ofm1];omega)
 rw [ofm1] at sc
 have lS:=sclV_len (-1) g.1
 have tS:=TmB.scl hg.t h1
 have hgm:=H_mul g.2 (-1)
 have hmul:(b+1+1)*((sclV g.1 (-1)).length+1)≤8302*82:=Nat.mul_le_mul (by omega) (by omega)
 have fS:=add_c (n:=n) (f:=f) (g:=(sclV g.1 (-1),g.2*(-1))) (m:=m) (b:=b+1) tS (by dsimp only;omega) hf.t (by omega) (by dsimp only;omega) (by omega) (by dsimp only;omega)
 have fD:=fsu_f1 (n:=n) (a0:=f) (a1:=g) (by rw [ofm1];exact sc) fS
 have eD:f.2+g.2*(-1)=f.2-g.2:=by grind
 dsimp only at fD
 rw [eD] at fD
 exact ⟨D,fD⟩
def rwF(L:List UInt8):Except Nat Form:=
 if spF L<0 then .error 0
 else if (fmF (L.take (spF L).toNat)).2=false then .error 0
 else if (fmF (L.drop ((spF L).toNat+2))).2=false then .error ((spF L).toNat+2)
 else .ok (if L[(spF L).toNat]?=some 60 then subF (fmF (L.drop ((spF L).toNat+2))).1 (fmF (L.take (spF L).toNat)).1 else subF (fmF (L.take (spF L).toNat)).1 (fmF (L.drop ((spF L).toNat+2))).1)
theorem rw_at{L:List UInt8}{i:Nat}(h:spF L=(i:Int)):rwF L=if (fmF (L.take i)).2=false then .error 0 else if (fmF (L.drop (i+2))).2=false then .error (i+2) else .ok (if L[i]?=some 60 then subF (fmF (L.drop (i+2))).1 (fmF (L.take i)).1 else subF (fmF (L.take i)).1 (fmF (L.drop (i+2))).1):=by
 unfold rwF
 rw [h,if_neg (by omega)]
 rfl
def rwR(at_:Nat):Except Nat Form→AV
 | .ok f=>.tup [formV f,.lit (.int .i64 0),.lit (.bool true)]
 | .error e=>.tup [formV ([],0),.lit (.int .i64 ((at_+e:Nat):Int)),.lit (.bool false)]
theorem frow_c{n:Nat}{L:List UInt8}(hL:L.length≤80){a:Nat}(ha:a≤1000):run (n+7) 66 [.lit (.string (bs L)),.lit (.int .i64 (a:Int))]=some (rwR a (rwF L)):=by
 have hs:(bs L).size=L.length:=bs_size _
 obtain ⟨ex,t,h1,h2⟩:=loopG_Q (β:=Unit) (P:= Tryz.prog) (O:=tab (n+7)) (m:=0) (N:=72) (lives:=livesOf 66) (r:=2) (C:=frw_C2) (M:=L.length) (enc:=fun i _=>frw_h2 (bs L) (a:Int) i)
  (fun i _=>∀j,j<i→¬Cmp L j) (fun ex t=>(ex=.ret∧t=frw_o2a (a:Int)∧rwF L=.error 0)∨(ex=.ret∧∃i:Nat,t=frw_o2b (a:Int) i∧rwF L=.error (i+2))∨(ex=.ret∧∃f,t=frw_o2c (a:Int) f∧rwF L=.ok f)∨(ex=.ret∧∃f,t=frw_o2d (a:Int) f∧rwF L=.ok f)∨(ex=.exit 0∧t=frw_o2e (a:Int)∧rwF L=.error 0)) () (fun j hj=>by omega) (by omega)
  (fun i b hi hI=>by
   have W1:InI ((i:Int)+1):=⟨by omega,by omega⟩
   have none_:(∀j,¬Cmp L j)→rwF L=.error 0:=fun h=>by unfold rwF;rw [sp_none h,if_pos (by decide)]
   by_cases c2:i+1<L.length
   rotate_left
   ·refine .inr ⟨_,_,by simp,frw_x2_7 W1 (by omega),.inr (.inr (.inr (.inr ⟨rfl,rfl,none_ fun j h=>?_⟩)))⟩
    by_cases hj:j<i
    ·exact hI j hj h
    ·have:=h.1
     rw [List.getElem?_eq_none (by omega)] at this
     cases this
   have C2:(i:Int)+1<((bs L).size:Int):=by omega
   obtain ⟨b5,e5⟩:∃x,L[i+1]?=some x:=⟨_,List.getElem?_eq_getElem c2⟩
   obtain ⟨b6,e6⟩:∃x,L[i]?=some x:=⟨_,List.getElem?_eq_getElem (by omega)⟩
   have E4:(bs L)[i+1]?=some b5:=by rw [bs_at];exact e5
   have E6:(bs L)[i]?=some b6:=by rw [bs_at];exact e6
   have num:∀(c:UInt8) (k:UInt8),(c.toNat:Int)=(k.toNat:Int)↔c=k:=fun c k=>⟨fun h=>UInt8.toNat_inj.1 (by omega),fun h=>by rw [h]⟩
   have next:¬Cmp L i→∀j,j<i+1→¬Cmp L j:=fun h j hj=>by
    rcases Nat.lt_succ_iff_lt_or_eq.1 hj with h6|rfl
    ·exact hI j h6
    ·exact h
   by_cases c5:b5=61
   rotate_left
   ·exact .inl ⟨(),frw_r2_1 W1 C2 E4 (fun h=>c5 ((num b5 61).1 h)),next fun h=>by have h9:=h.1;rw [e5] at h9;exact c5 (Option.some.inj h9)⟩
   have C5:(b5.toNat:Int)=61:=(num b5 61).2 c5
   by_cases c6:b6=60∨b6=62
   rotate_left
   ·refine .inl ⟨(),frw_r2_2 W1 C2 E4 C5 E6 (fun h=>c6 (.inl ((num b6 60).1 h))) (fun h=>c6 (.inr ((num b6 62).1 h))),next fun h=>c6 ?_⟩
    rcases h.2 with h|h
    ·rw [e6] at h;cases h;exact .inl rfl
    ·rw [e6] at h;cases h;exact .inr rfl
   have hc:Cmp L i:=⟨by rw [e5,c5],by
    rcases c6 with h|h
    ·exact .inl (by rw [e6,h])
    ·exact .inr (by rw [e6,h])⟩
   have hr:=rw_at (sp_uniq hc hI)
   have U:0≤0∧0≤(i:Int)∧(i:Int)≤((bs L).size:Int):=⟨by omega,by omega,by omega⟩
   have D:bs (L.take i)=(bs L).extract 0 i:=(bs_to L i).symm
   have K:=fform_c (n:=n) (L:=L.take i) (by rw [List.length_take];omega)
   have W12:InI ((i:Int)+2):=⟨by omega,by omega⟩
   have U2:0≤(i:Int)+2∧(i:Int)+2≤((bs L).size:Int)∧((bs L).size:Int)≤((bs L).size:Int):=⟨by omega,by omega,by omega⟩
   have D2:bs (L.drop (i+2))=(bs L).extract (i+2) (bs L).size:=(bs_from L (i+2)).symm
   have K2:=fform_c (n:=n) (L:=L.drop (i+2)) (by rw [List.length_drop];omega)
   have sA:=fm_sb (L:=L.take i) (by rw [List.length_take];omega)
   have sB:=fm_sb (L:=L.drop (i+2)) (by rw [List.length_drop];omega)
   have W16:InI ((a:Int)+(i:Int)):=⟨by omega,by omega⟩
   have W17:InI (((a:Int)+(i:Int))+2):=⟨by omega,by omega⟩
   by_cases c60:b6=60
   ·have C7:(b6.toNat:Int)=60:=(num b6 60).2 c60
    cases f1:(fmF (L.take i)).2 with
    | false=>exact .inr ⟨_,_,by simp,frw_x2_4 W1 C2 E4 C5 E6 C7 U D K f1,.inl ⟨rfl,rfl,by rw [hr,if_pos f1]⟩⟩
    | true=>
      cases f2:(fmF (L.drop (i+2))).2 with
      | false=>exact .inr ⟨_,_,by simp,frw_x2_5 W1 C2 E4 C5 E6 C7 U D K f1 W12 U2 D2 K2 f2 W16 W17,.inr (.inl ⟨rfl,i,rfl,by rw [hr,if_neg (by rw [f1];simp),if_pos f2]⟩)⟩
      | true=>exact .inr ⟨_,_,by simp,frw_x2_6 W1 C2 E4 C5 E6 C7 U D K f1 W12 U2 D2 K2 f2 (sub_big (n:=n+3) sB sA (by omega) (by omega) (by omega) (by omega)).2,.inr (.inr (.inr (.inl ⟨rfl,_,rfl,by rw [hr,if_neg (by rw [f1];simp),if_neg (by rw [f2];simp),if_pos (by rw [e6,c60])]⟩)))⟩
   ·have C7:¬(b6.toNat:Int)=60:=fun h=>c60 ((num b6 60).1 h)
    have C8:(b6.toNat:Int)=62:=(num b6 62).2 (c6.resolve_left c60)
    cases f1:(fmF (L.take i)).2 with
    | false=>exact .inr ⟨_,_,by simp,frw_x2_1 W1 C2 E4 C5 E6 C7 C8 U D K f1,.inl ⟨rfl,rfl,by rw [hr,if_pos f1]⟩⟩
    | true=>
      cases f2:(fmF (L.drop (i+2))).2 with
      | false=>exact .inr ⟨_,_,by simp,frw_x2_2 W1 C2 E4 C5 E6 C7 C8 U D K f1 W12 U2 D2 K2 f2 W16 W17,.inr (.inl ⟨rfl,i,rfl,by rw [hr,if_neg (by rw [f1];simp),if_pos f2]⟩)⟩
      | true=>exact .inr ⟨_,_,by simp,frw_x2_3 W1 C2 E4 C5 E6 C7 C8 U D K f1 W12 U2 D2 K2 f2 (sub_big (n:=n+3) sA sB (by omega) (by omega) (by omega) (by omega)).2,.inr (.inr (.inl ⟨rfl,_,rfl,by rw [hr,if_neg (by rw [f1];simp),if_neg (by rw [f2];simp),if_neg (by rw [e6];exact fun h=>c60 (Option.some.inj h))]⟩))⟩)
  (fun b hI=>⟨_,_,by simp,frw_x2_7 ⟨by omega,by omega⟩ (by omega),.inr (.inr (.inr (.inr ⟨rfl,rfl,by
   unfold rwF
   rw [sp_none (fun j h=>by
    by_cases hj:j<L.length
    ·exact hI j hj h
    ·have:=h.1
     rw [List.getElem?_eq_none (by omega)] at this
     cases this),if_pos (by decide)]⟩)))⟩)
 rcases h2 with ⟨rfl,rfl,h3⟩|⟨rfl,i,rfl,h3⟩|⟨rfl,f,rfl,h3⟩|⟨rfl,f,rfl,h3⟩|⟨rfl,rfl,h3⟩
 ·rw [h3,frw_f1 h1,←form0];rfl
 ·rw [h3,frw_f2 h1,←form0]
  unfold rwR
  have e:(a:Int)+(i:Int)+2=((a+(i+2):Nat):Int):=by omega
  rw [e]
 ·rw [h3,frw_f3 h1];rfl
 ·rw [h3,frw_f4 h1];rfl
 ·rw [h3,frw_f5 h1,←form0];rfl
end
section
open Go.RowKit Go.Lib
def pcs:List UInt8→List (List UInt8)
 | []=>[[]]
 | c::l=>if c=59 then []::pcs l else match pcs l with
   | []=>[[c]]
   | p::ps=>(c::p)::ps
theorem splitK_hit'{s:List UInt8}{k i:Nat}(h:index s [59]=(i:Int)):splitK [59] 0 (k+1) s=s.take i::splitK [59] 0 k (s.drop (i+1)):=by
 rw [splitK,if_neg (by rw [h];simp),h]
 rfl
theorem splitK_pcs:∀(s:List UInt8),splitK [59] 0 (s.count 59) s=pcs s
 | []=>by simp [splitK,pcs]
 | x::l=>by
   have ih:=splitK_pcs l
   by_cases h:x=59
   ·subst h
    rw [List.count_cons_self,splitK_hit' (i:=0) (index_eq 59 l)]
    unfold pcs
    rw [if_pos rfl,←ih]
    rfl
   ·rw [List.count_cons_of_ne h]
    unfold pcs
    rw [if_neg h,←ih]
    cases hk:l.count 59 with
    | zero=>simp [splitK]
    | succ k=>
      obtain ⟨i,hi⟩:=index_of_count (s:=l) (old:=[59]) (by rw [count_one];omega)
      rw [splitK_hit' (k:=k) hi,splitK_hit' (s:=x::l) (k:=k) (i:=i+1) (by
       rw [index_ne h,hi,if_neg (by simp)];rfl)]
      simp only [List.take_succ_cons,List.drop_succ_cons]
theorem countB_59(L:List UInt8):countB (bs L) ⟨#[59]⟩=L.count 59:=by
 show count (bs L).data.toList [59]=_
 rw [bs_data,count_one]
theorem splitB_pcs(L:List UInt8):splitB ⟨#[59]⟩ 0 (countB (bs L) ⟨#[59]⟩) (bs L)=(pcs L).map bs:=by
 have h:=splitB_data ⟨#[59]⟩ 0 (countB (bs L) ⟨#[59]⟩) (bs L)
 rw [countB_59,bs_data] at h
 rw [countB_59]
 have h2:(splitB ⟨#[59]⟩ 0 (L.count 59) (bs L)).map (fun x=>x.data.toList)=pcs L:=h.trans (splitK_pcs L)
 rw [←h2,List.map_map]
 have e:(bs ∘ fun x:ByteArray=>x.data.toList)=id:=by funext x;exact bs_self x
 rw [e,List.map_id]
theorem split59_c{L:List UInt8}(hL:L.length≤100000):oSplit [.lit (.string (bs L)),.lit (.string (⟨#[59]⟩:ByteArray))]=some (.sl 1 (((pcs L).map bs).map strC)):=by
 unfold oSplit
 dsimp only
 rw [if_pos ⟨by rw [bs_size];omega,by decide⟩,splitB_pcs]
 rfl
end
section
open Go.RowKit
attribute [local irreducible] run runL loopG exec
theorem pcs_len:∀(L:List UInt8),(pcs L).length≤L.length+1∧∀p∈pcs L,p.length≤L.length
 | []=>by simp [pcs]
 | c::l=>by
   have ih:=pcs_len l
   unfold pcs
   by_cases h:c=59
   ·rw [if_pos h]
    refine ⟨by simp only [List.length_cons];omega,fun p hp=>?_⟩
    rcases List.mem_cons.1 hp with rfl|hp
    ·simp
    ·have:=ih.2 p hp;rw [List.length_cons];omega
   ·rw [if_neg h]
    cases hk:pcs l with
    | nil=>exact ⟨by simp,fun p hp=>by rw [List.mem_singleton.1 hp];simp⟩
    | cons q ps=>
      rw [hk] at ih
      dsimp only
      refine ⟨by have:=ih.1;simp only [List.length_cons] at this ⊢;omega,fun p hp=>?_⟩
      rcases List.mem_cons.1 hp with rfl|hp
      ·have:=ih.2 q List.mem_cons_self;simp only [List.length_cons];omega
      ·have:=ih.2 p (List.mem_cons_of_mem _ hp);simp only [List.length_cons];omega
def rwsF:Nat→List Form→List (List UInt8)→Except Nat (List Form)
 | _,out,[]=>.ok out
 | a,out,p::ps=>match rwF p with
   | .error e=>.error (a+e)
   | .ok f=>rwsF (a+p.length+1) (out++[f]) ps
def rwsR:Except Nat (List Form)→AV
 | .ok fs=>.tup [.sl 4 (fs.map formC),.lit (.int .i64 0),.lit (.bool true)]
 | .error e=>.tup [.sl 4 [],.lit (.int .i64 (e:Nat)),.lit (.bool false)]
def GoodP(p:List UInt8):Prop:=p.length≤900∧∀k:Nat,spF p=(k:Int)→SB 8300 81 (fmF (p.take k)).1∧SB 8300 81 (fmF (p.drop (k+2))).1
theorem goodP_80{p:List UInt8}(h:p.length≤80):GoodP p:=⟨by omega,fun k _=>⟨fm_sb (by rw [List.length_take];omega),fm_sb (by rw [List.length_drop];omega)⟩⟩
theorem crows_g{n:Nat}{L:List UInt8}(hL:L.length≤100000)(hG:∀p∈pcs L,GoodP p):run (n+13) 60 [.lit (.string (bs L))]=some (rwsR (rwsF 0 [] (pcs L))):=by
 have K1:=split59_c (L:=L) (by omega)
 have q1:=(pcs_len L).1
 generalize pcs L=ps at K1 q1 hG ⊢
 have hlen:(ps.map bs).length=ps.length:=List.length_map ..
 obtain ⟨ex,t,h1,h2⟩:=loopG_Q (β:=List Form × Nat) (P:= Tryz.prog) (O:=tab (n+13)) (m:=0) (N:=68) (lives:=livesOf 60) (r:=4) (C:=crw_C4) (M:=ps.length) (enc:=fun i b=>crw_h4 b.1 (b.2:Nat) (ps.map bs) i)
  (fun i b=>rwsF b.2 b.1 (ps.drop i)=rwsF 0 [] ps∧b.1.length≤i∧b.2≤901*i) (fun ex t=>(ex=.ret∧∃(z:Nat) (out:List Form),t=crw_o4a (z:Nat) out∧rwsF 0 [] ps=.error z)∨(ex=.ret∧∃(z k:Nat) (out:List Form),t=crw_o4b (z:Nat) (k:Nat) out∧rwsF 0 [] ps=.error (z+(k+2)))∨(ex=.exit 0∧∃out,t=crw_o4c out∧rwsF 0 [] ps=.ok out)) ([],0) ⟨rfl,by simp,by simp⟩ (by omega)
  (fun i b hi hI=>by
   obtain ⟨out,a⟩:=b
   obtain ⟨hI,hI2,hI3⟩:=hI
   dsimp only at hI hI2 hI3 ⊢
   have hd:=List.drop_eq_getElem_cons hi
   have hx:ps[i]?=some ps[i]:=List.getElem?_eq_getElem hi
   have hm:ps[i]∈ps:=List.getElem_mem hi
   generalize ps[i]=p at hd hx hm
   obtain ⟨hp,hsb⟩:=hG p hm
   rw [hd,rwsF] at hI
   have C1:(i:Int)<((ps.map bs).length:Int):=by rw [hlen];omega
   have E2:(ps.map bs)[i]?=some (bs p):=by rw [List.getElem?_map,hx];rfl
   have hs:(bs p).size=p.length:=bs_size _
   have K3:=split_c (n:=n+8) (L:=p) (by omega)
   rcases sp_spec p with ⟨h,_⟩|⟨k,h,hc,_⟩
   ·have er:rwF p=.error 0:=by unfold rwF;rw [h,if_pos (by decide)]
    rw [er] at hI
    exact .inr ⟨_,_,by simp,crw_x4_1 C1 E2 K3 (by omega),.inl ⟨rfl,a,out,rfl,hI.symm⟩⟩
   have hk:k+1<p.length:=(List.getElem?_eq_some_iff.1 hc.1).1
   have hr:=rw_at h
   rw [h] at K3
   have C4:¬(k:Int)<0:=by omega
   have U5:0≤0∧0≤(k:Int)∧(k:Int)≤((bs p).size:Int):=⟨by omega,by omega,by omega⟩
   have D5:bs (p.take k)=(bs p).extract 0 (k:Int).toNat:=(bs_to p k).symm
   have K6:=form_c (n:=n) (L:=p.take k) (by rw [List.length_take];omega)
   obtain ⟨sA,sB⟩:=hsb k h
   cases f1:(fmF (p.take k)).2 with
   | false=>
     rw [hr,if_pos f1] at hI
     exact .inr ⟨_,_,by simp,crw_x4_2 C1 E2 K3 C4 U5 D5 K6 f1,.inl ⟨rfl,a,out,rfl,hI.symm⟩⟩
   | true=>
   have W8:InI ((k:Int)+2):=⟨by omega,by omega⟩
   have U9:0≤(k:Int)+2∧(k:Int)+2≤((bs p).size:Int)∧((bs p).size:Int)≤((bs p).size:Int):=⟨by omega,by omega,by omega⟩
   have D9:bs (p.drop (k+2))=(bs p).extract ((k:Int)+2).toNat (bs p).size:=(bs_from p (k+2)).symm
   have K10:=form_c (n:=n) (L:=p.drop (k+2)) (by rw [List.length_drop];omega)
   cases f2:(fmF (p.drop (k+2))).2 with
   | false=>
     rw [hr,if_neg (by rw [f1];simp),if_pos f2] at hI
     exact .inr ⟨_,_,by simp,crw_x4_3 C1 E2 K3 C4 U5 D5 K6 f1 W8 U9 D9 K10 f2 ⟨by omega,by omega⟩ ⟨by omega,by omega⟩,.inr (.inl ⟨rfl,a,k,out,rfl,hI.symm⟩)⟩
   | true=>
   obtain ⟨b3,e3⟩:∃x,p[k]?=some x:=⟨_,List.getElem?_eq_getElem (by omega)⟩
   have E12:(bs p)[(k:Int).toNat]?=some b3:=by rw [bs_at];exact e3
   have W16:InI (((bs p).size:Int)+1):=⟨by omega,by omega⟩
   have W17:InI ((a:Int)+(((bs p).size:Int)+1)):=⟨by omega,by omega⟩
   have W18:InI ((i:Int)+1):=⟨by omega,by omega⟩
   have ea:(a:Int)+(((bs p).size:Int)+1)=((a+p.length+1:Nat):Int):=by omega
   have b60:(b3.toNat:Int)=60↔b3=60:=⟨fun h=>UInt8.toNat_inj.1 (by show b3.toNat=60;omega),fun h=>by rw [h];rfl⟩
   rw [hr,if_neg (by rw [f1];simp),if_neg (by rw [f2];simp)] at hI
   by_cases c:b3=60
   ·rw [if_pos (by rw [e3,c])] at hI
    have R:=crw_r4_1 (n:=n) (out_4:=out) (i_4:=(a:Nat)) C1 E2 K3 C4 U5 D5 K6 f1 W8 U9 D9 K10 f2 E12 (by omega) (b60.2 c) (sub_big (n:=n+10) sB sA (by omega) (by omega) (by omega) (by omega)).1 (by omega) W16 W17 W18
    rw [ea] at R
    exact .inl ⟨(_,_),R,hI,by rw [List.length_append,List.length_singleton];omega,by omega⟩
   ·rw [if_neg (by rw [e3];exact fun h=>c (Option.some.inj h))] at hI
    have R:=crw_r4_2 (n:=n) (out_4:=out) (i_4:=(a:Nat)) C1 E2 K3 C4 U5 D5 K6 f1 W8 U9 D9 K10 f2 E12 (by omega) (fun h=>c (b60.1 h)) (sub_big (n:=n+10) sA sB (by omega) (by omega) (by omega) (by omega)).1 (by omega) W16 W17 W18
    rw [ea] at R
    exact .inl ⟨(_,_),R,hI,by rw [List.length_append,List.length_singleton];omega,by omega⟩)
  (fun b hI=>by
   obtain ⟨out,a⟩:=b
   obtain ⟨hI,_,_⟩:=hI
   dsimp only at hI
   rw [List.drop_length] at hI
   exact ⟨_,_,by simp,crw_x4_4 (by rw [hlen];omega),.inr (.inr ⟨rfl,out,rfl,hI.symm⟩)⟩)
 rcases h2 with ⟨rfl,z,out,rfl,h3⟩|⟨rfl,z,k,out,rfl,h3⟩|⟨rfl,out,rfl,h3⟩
 ·rw [h3];exact crw_f1 K1 h1
 ·rw [h3,crw_f2 K1 h1]
  unfold rwsR
  have e:(z:Int)+(k:Int)+2=((z+(k+2):Nat):Int):=by omega
  rw [e]
 ·rw [h3];exact crw_f3 K1 h1
end
end Go.Proofs.YtnegdhjdienjlaaGreatDoor
