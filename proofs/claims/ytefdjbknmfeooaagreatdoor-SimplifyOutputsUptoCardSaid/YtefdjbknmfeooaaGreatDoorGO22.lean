import Derived.Test.YtefdjbknmfeooaaGreatDoorGO16
import Derived.Test.YtefdjbknmfeooaaGreatDoorGO17
set_option linter.all false
set_option maxHeartbeats 6400000
set_option maxRecDepth 100000
namespace Go.Proofs.YtefdjbknmfeooaaGreatDoor
open Go.RowKit
section
variable {n : Nat} {a1 : Rat} {a0 : Rat}
theorem pmx_f1(B1a:H a0≤17179869184)(B1b:H a1≤17179869184)(C2:0≤sgR (a0-a1)):
  run n 55 [ratV a0,ratV a1]=some (ratV a0):=by
 have K1:=r_cmp (p:=a0) (q:=a1) B1a B1b
 have K3:=r_canon (p:=a0) B1a
 unfold run fnP
 simp+decide [Tryz.f55,K1,C2,K3]
theorem pmx_f2(B1a:H a0≤17179869184)(B1b:H a1≤17179869184)(C2:¬0≤sgR (a0-a1)):
  run n 55 [ratV a0,ratV a1]=some (ratV a1):=by
 have K1:=r_cmp (p:=a0) (q:=a1) B1a B1b
 have K3:=r_canon (p:=a1) B1b
 unfold run fnP
 simp+decide [Tryz.f55,K1,C2,K3]
end
section
attribute [local irreducible] run runL loopG exec
structure SmL (i:Nat) (l:List (Int × Rat)):Prop where
 len:l.length≤i
 sorted:l.Pairwise (fun a b=>a.1<b.1)
 each:∀t∈l,0≤t.1∧t.1<(i:Int)∧t.2≠0∧H t.2≤2
theorem SmL.nil(i:Nat):SmL i []:=⟨by simp,List.Pairwise.nil,fun t ht=>by cases ht⟩
theorem SmL.step{i:Nat}{l:List (Int × Rat)}{q:Rat}(h:SmL i l)(hq:H q≤2):SmL (i+1) (l++put1 (i:Int) q):=by
 by_cases h0:q=0
 ·have e:put1 (i:Int) q=[]:=by unfold put1;rw [if_pos h0]
  rw [e,List.append_nil]
  exact ⟨by have:=h.len;omega,h.sorted,fun t ht=>by obtain ⟨h1,h2,h3⟩:=h.each t ht;exact ⟨h1,by omega,h3⟩⟩
 ·have e:put1 (i:Int) q=[((i:Int),q)]:=by unfold put1;rw [if_neg h0]
  rw [e]
  refine ⟨by rw [List.length_append];have:=h.len;simp;omega,?_,fun t ht=>?_⟩
  ·rw [List.pairwise_append]
   refine ⟨h.sorted,List.pairwise_singleton _ _,fun a ha b hb=>?_⟩
   rw [List.mem_singleton.1 hb]
   exact (h.each a ha).2.1
  ·rcases List.mem_append.1 ht with h9|h9
   ·obtain ⟨h1,h2,h3⟩:=h.each t h9
    exact ⟨h1,by omega,h3⟩
   ·rw [List.mem_singleton.1 h9]
    exact ⟨by show (0:Int)≤(i:Int);omega,by show (i:Int)<((i+1:Nat):Int);omega,h0,hq⟩
theorem SmL.up{i:Nat}{l:List (Int × Rat)}(h:SmL i l):SmL (i+1) l:=⟨Nat.le_succ_of_le h.len,h.sorted,fun t ht=>by have h1:=h.each t ht;exact ⟨h1.1,by omega,h1.2.2.1,h1.2.2.2⟩⟩
structure SmF (n:Nat) (f:Form):Prop where
 l:SmL n f.1
 k:H f.2≤2
section
variable {n : Nat} {bs : List Int} {k : Nat}
structure GrOk (g:TGraph):Prop where
 i0:1≤g.Inputs
 i1:g.Inputs≤3
 u:g.Units.length≤4
 o0:1≤g.Outputs.length
 o1:g.Outputs.length≤3
 un:∀i f,g.Units[i]?=some f→SmF (g.Inputs.toNat+i) f
 ou:∀f∈g.Outputs,SmF (g.Inputs.toNat+g.Units.length) f
end
end
noncomputable def vg_C4:Code:=(loopsOf (bodyOf Tryz.f21)).getD 0 .skip
def vg_h4(a0:TGraph)(i_4:Nat):St:=
 ⟨[(1,.ptr 0 0),(3,.lit (.int .i64 (i_4:Int)))],
  [(0,some (.box 24 [.lit (.int .i64 (a0.Inputs)),.sl 4 (a0.Units.map formC),.sl 4 (a0.Outputs.map formC)] false))],1⟩
def vg_o4a(a0:TGraph):St:=
 ⟨[(1,.ptr 0 0),(2,.lit (.bool false))],
  [(0,some (.box 24 [.lit (.int .i64 (a0.Inputs)),.sl 4 (a0.Units.map formC),.sl 4 (a0.Outputs.map formC)] false))],1⟩
def vg_o4b(a0:TGraph):St:=
 ⟨[(1,.ptr 0 0),(2,.any)],
  [(0,some (.box 24 [.lit (.int .i64 (a0.Inputs)),.sl 4 (a0.Units.map formC),.sl 4 (a0.Outputs.map formC)] false))],1⟩
section
variable{n:Nat}{i_4:Nat}{q3:Rat}{F3:List (Int × Rat)}{a0:TGraph}{r3:Bool}{r4:Bool}
section
variable(C1:(i_4:Int)<(a0.Units.length:Int))(E2:a0.Units[i_4]?=some (F3,q3))(W3:InI (a0.Inputs+(i_4:Int)))(K4:run (n+1) 43 [formV (F3,q3),.lit (.int .i64 (a0.Inputs+(i_4:Int)))]=some (.lit (.bool r3)))
include C1 E2 W3 K4
theorem vg_r4_1(C5:r3=true)(W6:InI ((i_4:Int)+1)):
  Cont 0 (exec Tryz.prog (tab (n+2)) 0 57 (livesOf 21) big vg_C4) (livesOf 21 4) (vg_h4 a0 i_4) (vg_h4 a0 (i_4+1)):=by
 have C1_:i_4<a0.Units.length:=by omega
 obtain ⟨EL2,EG2⟩:=List.getElem?_eq_some_iff.1 E2
 have W3_:IntKind.i64.wrap (a0.Inputs+(i_4:Int))=a0.Inputs+(i_4:Int):=wr64 W3.1 W3.2
 simp only [formV] at K4
 have W6_:IntKind.i64.wrap ((i_4:Int)+1)=(i_4:Int)+1:=wr64 W6.1 W6.2
 unfold Cont
 simp+decide [vg_h4,loopsOf, Tryz.f21,vg_C4,C1,C1_,EL2,EG2,E2,W3_,K4,C5,W6_]
theorem vg_x4_1(C5:r3=false):
  Leave 0 (exec Tryz.prog (tab (n+2)) 0 57 (livesOf 21) big vg_C4) (livesOf 21 (outOf 4)) (vg_h4 a0 i_4) (.ret) (vg_o4a a0):=by
 have C1_:i_4<a0.Units.length:=by omega
 obtain ⟨EL2,EG2⟩:=List.getElem?_eq_some_iff.1 E2
 have W3_:IntKind.i64.wrap (a0.Inputs+(i_4:Int))=a0.Inputs+(i_4:Int):=wr64 W3.1 W3.2
 simp only [formV] at K4
 unfold Leave
 simp+decide [vg_h4,loopsOf, Tryz.f21,vg_o4a,vg_C4,C1,C1_,EL2,EG2,E2,W3_,K4,C5]
end
theorem vg_x4_2(C1:¬(i_4:Int)<(a0.Units.length:Int)):
  Leave 0 (exec Tryz.prog (tab (n+2)) 0 57 (livesOf 21) big vg_C4) (livesOf 21 (outOf 4)) (vg_h4 a0 i_4) (.exit 0) (vg_o4b a0):=by
 have C1_:¬i_4<a0.Units.length:=by omega
 unfold Leave
 simp+decide [vg_h4,loopsOf, Tryz.f21,vg_o4b,vg_C4,C1,C1_]
theorem vg_f1(C1:a0.Inputs<1):
  run (n+2) 21 [graphV a0]=some (.lit (.bool false)):=by
 unfold run fnP
 simp+decide [Tryz.f21,C1]
section
variable(C1:¬a0.Inputs<1)
include C1
theorem vg_f2(C2:256<a0.Inputs):
  run (n+2) 21 [graphV a0]=some (.lit (.bool false)):=by
 unfold run fnP
 simp+decide [Tryz.f21,C1,C2]
theorem vg_f3(C2:¬256<a0.Inputs)(C3:1024<(a0.Units.length:Int)):
  run (n+2) 21 [graphV a0]=some (.lit (.bool false)):=by
 have C3_:1024<a0.Units.length:=by omega
 unfold run fnP
 simp+decide [Tryz.f21,C1,C2,C3,C3_]
section
variable(C2:¬256<a0.Inputs)(C3:¬1024<(a0.Units.length:Int))
include C2 C3
theorem vg_f4(C4:(a0.Outputs.length:Int)<1):
  run (n+2) 21 [graphV a0]=some (.lit (.bool false)):=by
 have C3_:¬1024<a0.Units.length:=by omega
 have C4_:a0.Outputs.length<1:=by omega
 unfold run fnP
 simp+decide [Tryz.f21,C1,C2,C3,C3_,C4,C4_]
theorem vg_f5(C4:¬(a0.Outputs.length:Int)<1)(C5:256<(a0.Outputs.length:Int)):
  run (n+2) 21 [graphV a0]=some (.lit (.bool false)):=by
 have C3_:¬1024<a0.Units.length:=by omega
 have C4_:¬a0.Outputs.length<1:=by omega
 have C5_:256<a0.Outputs.length:=by omega
 unfold run fnP
 simp+decide [Tryz.f21,C1,C2,C3,C3_,C4,C4_,C5,C5_]
theorem vg_f6(C4:¬(a0.Outputs.length:Int)<1)(C5:¬256<(a0.Outputs.length:Int))(L6:loopG Tryz.prog (tab (n+2)) 0 57 (livesOf 21) 4 vg_C4 (vg_h4 a0 0)=some (.ret,vg_o4a a0)):
  run (n+2) 21 [graphV a0]=some (.lit (.bool false)):=by
 have C3_:¬1024<a0.Units.length:=by omega
 have C4_:¬a0.Outputs.length<1:=by omega
 have C5_:¬256<a0.Outputs.length:=by omega
 unfold run fnP
 simp+decide [Tryz.f21,C1,C2,C3,C3_,C4,C4_,C5,C5_]
 rw [loopX_G (C':=vg_C4) (e:=(vg_h4 a0 0)) ?_ ?_,L6]
 rotate_left
 ·kernel_rfl
 ·simp+decide [vg_h4,C1,C2,C3,C3_,C4,C4_,C5,C5_]
 simp+decide [vg_o4a,C1,C2,C3,C3_,C4,C4_,C5,C5_]
theorem vg_f7(C4:¬(a0.Outputs.length:Int)<1)(C5:¬256<(a0.Outputs.length:Int))(L6:loopG Tryz.prog (tab (n+2)) 0 57 (livesOf 21) 4 vg_C4 (vg_h4 a0 0)=some (.exit 0,vg_o4b a0))(W7:InI (a0.Inputs+(a0.Units.length:Int)))(K8:run (n+1) 44 [.sl 4 (a0.Outputs.map formC),.lit (.int .i64 (a0.Inputs+(a0.Units.length:Int)))]=some (.lit (.bool r4))):
  run (n+2) 21 [graphV a0]=some (.lit (.bool r4)):=by
 have C3_:¬1024<a0.Units.length:=by omega
 have C4_:¬a0.Outputs.length<1:=by omega
 have C5_:¬256<a0.Outputs.length:=by omega
 have W7_:IntKind.i64.wrap (a0.Inputs+(a0.Units.length:Int))=a0.Inputs+(a0.Units.length:Int):=wr64 W7.1 W7.2
 unfold run fnP
 simp+decide [Tryz.f21,C1,C2,C3,C3_,C4,C4_,C5,C5_,W7_,K8]
 rw [loopX_G (C':=vg_C4) (e:=(vg_h4 a0 0)) ?_ ?_,L6]
 rotate_left
 ·kernel_rfl
 ·simp+decide [vg_h4,C1,C2,C3,C3_,C4,C4_,C5,C5_,W7_,K8]
 simp+decide [vg_o4b,C1,C2,C3,C3_,C4,C4_,C5,C5_,W7_,K8]
end
end
end
section
attribute [local irreducible] run runL loopG exec
theorem validFs_c{n:Nat}{L:List Form}{vars:Int}(hl:L.length≤100000000)(hB:∀f∈L,BdF 17179869184 f):run (n+1) 44 [.sl 4 (L.map formC),.lit (.int .i64 vars)]=some (.lit (.bool (tv (∀f∈L,OkFm f vars)))):=by
 have hG:=loopG_all (O:=tab (n+1)) (P:= Tryz.prog) (m:=0) (N:=19) (lives:=livesOf 44) (r:=2) (C:=vl_C2) (M:=L.length) (enc:=vl_h2 L vars) (p:=fun i=>tv (∀f,L[i]?=some f→OkFm f vars)) (exN:=.exit 0) (exE:=.ret) (out:=vl_o2b) (outE:=vl_o2a) (by omega) (by simp) (by simp)
  (fun i hi hI=>by
   have hx:L[i]?=some L[i]:=List.getElem?_eq_getElem hi
   generalize L[i]=f at hx
   have C1:(i:Int)<(L.length:Int):=by omega
   have W:InI ((i:Int)+1):=⟨by omega,by omega⟩
   have K:=validF_c (n:=n) (vars:=vars) (hB f (List.mem_of_getElem? hx))
   have e:tv (∀g,L[i]?=some g→OkFm g vars)=tv (OkFm f vars):=tv_iff ⟨fun h=>h f hx,fun h g hg=>by rw [hx] at hg;cases hg;exact h⟩
   rw [e]
   exact ⟨fun hp=>vl_r2_1 C1 hx K hp W,fun hp=>vl_x2_1 C1 hx K hp⟩)
  (vl_x2_2 (by omega))
 by_cases h:∀f∈L,OkFm f vars
 ·rw [if_pos (fun i hi=>tv_t (all_idx.2 h i hi))] at hG
  rw [tv_t h]
  exact vl_f2 hG
 ·rw [if_neg (fun h2=>h (all_idx.1 fun i hi=>tv_true (h2 i hi)))] at hG
  rw [tv_f h]
  exact vl_f1 hG
structure OkGr (g:TGraph):Prop where
 i0:1≤g.Inputs
 i1:g.Inputs≤256
 u:(g.Units.length:Int)≤1024
 o0:1≤(g.Outputs.length:Int)
 o1:(g.Outputs.length:Int)≤256
 un:∀i,i<g.Units.length→∀f,g.Units[i]?=some f→OkFm f (g.Inputs+(i:Int))
 ou:∀f∈g.Outputs,OkFm f (g.Inputs+(g.Units.length:Int))
structure BdG (b:Nat) (g:TGraph):Prop where
 lu:g.Units.length≤100000000
 lo:g.Outputs.length≤100000000
 u:∀f∈g.Units,BdF b f
 o:∀f∈g.Outputs,BdF b f
theorem validG_c{n:Nat}{g:TGraph}(hB:BdG 17179869184 g):run (n+2) 21 [graphV g]=some (.lit (.bool (tv (OkGr g)))):=by
 have hlu:=hB.lu
 have hlo:=hB.lo
 by_cases c1:g.Inputs<1
 ·rw [tv_f (fun h=>by have:=h.i0;omega)];exact vg_f1 c1
 by_cases c2:256<g.Inputs
 ·rw [tv_f (fun h=>by have:=h.i1;omega)];exact vg_f2 c1 c2
 by_cases c3:1024<(g.Units.length:Int)
 ·rw [tv_f (fun h=>by have:=h.u;omega)];exact vg_f3 c1 c2 c3
 by_cases c4:(g.Outputs.length:Int)<1
 ·rw [tv_f (fun h=>by have:=h.o0;omega)];exact vg_f4 c1 c2 c3 c4
 by_cases c5:256<(g.Outputs.length:Int)
 ·rw [tv_f (fun h=>by have:=h.o1;omega)];exact vg_f5 c1 c2 c3 c4 c5
 have hG:=loopG_all (O:=tab (n+2)) (P:= Tryz.prog) (m:=0) (N:=57) (lives:=livesOf 21) (r:=4) (C:=vg_C4) (M:=g.Units.length) (enc:=vg_h4 g) (p:=fun i=>tv (∀f,g.Units[i]?=some f→OkFm f (g.Inputs+(i:Int)))) (exN:=.exit 0) (exE:=.ret) (out:=vg_o4b g) (outE:=vg_o4a g) (by omega) (by simp) (by simp)
  (fun i hi hI=>by
   have hx:g.Units[i]?=some g.Units[i]:=List.getElem?_eq_getElem hi
   generalize g.Units[i]=f at hx
   have C1:(i:Int)<(g.Units.length:Int):=by omega
   have W:InI ((i:Int)+1):=⟨by omega,by omega⟩
   have W2:InI (g.Inputs+(i:Int)):=⟨by omega,by omega⟩
   have K:=validF_c (n:=n+1) (vars:=g.Inputs+(i:Int)) (hB.u f (List.mem_of_getElem? hx))
   have e:tv (∀f,g.Units[i]?=some f→OkFm f (g.Inputs+(i:Int)))=tv (OkFm f (g.Inputs+(i:Int))):=tv_iff ⟨fun h=>h f hx,fun h g hg=>by rw [hx] at hg;cases hg;exact h⟩
   rw [e]
   exact ⟨fun hp=>vg_r4_1 C1 hx W2 K hp W,fun hp=>vg_x4_1 C1 hx W2 K hp⟩)
  (vg_x4_2 (by omega))
 by_cases h:∀i,i<g.Units.length→∀f,g.Units[i]?=some f→OkFm f (g.Inputs+(i:Int))
 ·rw [if_pos (fun i hi=>tv_t (h i hi))] at hG
  have K:=validFs_c (n:=n) (vars:=g.Inputs+(g.Units.length:Int)) hlo hB.o
  have e:tv (OkGr g)=tv (∀f∈g.Outputs,OkFm f (g.Inputs+(g.Units.length:Int))):=tv_iff ⟨fun k=>k.ou,fun k=>⟨by omega,by omega,by omega,by omega,by omega,h,k⟩⟩
  rw [e]
  exact vg_f7 c1 c2 c3 c4 c5 hG ⟨by omega,by omega⟩ K
 ·rw [if_neg (fun h2=>h fun i hi=>tv_true (h2 i hi))] at hG
  rw [tv_f (fun k=>h k.un)]
  exact vg_f6 c1 c2 c3 c4 c5 hG
theorem SmF.ok{N:Nat}{f:Form}{vars:Int}(h:SmF N f)(hv:(N:Int)≤vars):OkFm f vars:=fun i hi v c hx=>by
 obtain ⟨a1,a2,a3,a4⟩:=h.l.each _ (List.mem_of_getElem? hx)
 dsimp only at a1 a2 a3
 refine ⟨a1,by omega,a3,fun v' c' h0 hy=>?_⟩
 obtain ⟨l1,e1⟩:=List.getElem?_eq_some_iff.1 hx
 obtain ⟨l2,e2⟩:=List.getElem?_eq_some_iff.1 hy
 have:=List.pairwise_iff_getElem.1 h.l.sorted (i-1) i l2 l1 (by omega)
 rw [e1,e2] at this
 exact this
theorem GrOk.ok{g:TGraph}(h:GrOk g):OkGr g:=by
 have:=h.i0
 have:=h.i1
 have:=h.u
 have:=h.o0
 have:=h.o1
 exact ⟨by omega,by omega,by omega,by omega,by omega,fun i hi f hf=>(h.un i f hf).ok (by omega),fun f hf=>(h.ou f hf).ok (by omega)⟩
theorem BdG.mono{b c:Nat}{g:TGraph}(h:BdG b g)(hb:b≤c):BdG c g:=⟨h.lu,h.lo,fun f hf=>(h.u f hf).mono hb,fun f hf=>(h.o f hf).mono hb⟩
end
noncomputable def lva_C2:Code:=(loopsOf (bodyOf Tryz.f83)).getD 0 .skip
def lva_h2(a0:Form)(a1:Int)(i_2:Nat):St:=
 ⟨[(1,.lit (.int .i64 a1)),(2,.ptr 0 0),(8,.sl 4 (a0.1.map termC)),(9,.lit (.int .i64 (a0.1.length:Int))),(10,.lit (.int .i64 (i_2:Int)))],
  [(0,some (.box 45 [.sl 4 (a0.1.map termC),.lit (.bool (rawQ a0.2).s),natA (rawQ a0.2).l1,natA (rawQ a0.2).l2] false))],1⟩
def lva_o2a(a0:Form):St:=
 ⟨[(2,.ptr 0 0),(4,.lit (.bool false))],
  [(0,some (.box 45 [.sl 4 (a0.1.map termC),.lit (.bool (rawQ a0.2).s),natA (rawQ a0.2).l1,natA (rawQ a0.2).l2] false))],1⟩
def lva_o2b(a0:Form):St:=
 ⟨[(2,.ptr 0 0),(4,.any)],
  [(0,some (.box 45 [.sl 4 (a0.1.map termC),.lit (.bool (rawQ a0.2).s),natA (rawQ a0.2).l1,natA (rawQ a0.2).l2] false))],1⟩
section
variable {q5 : Rat} {n : Nat} {a1 : Int} {i_2 : Nat} {q4 : Rat} {v4 : Int} {a0 : Form} {v5 : Int}
section
variable(C1:(i_2:Int)<(a0.1.length:Int))(E2:a0.1[i_2]?=some (v4,q4))
include C1 E2
theorem lva_r2_1(C3:¬v4<0)(C4:¬a1≤v4)(C5:0<(i_2:Int))(W6:InI ((i_2:Int)-1))(E7:a0.1[i_2-1]?=some (v5,q5))(Z7:1≤i_2)(C8:¬v4≤v5)(B9a:H q4≤17179869184)(C10:¬sgR q4=0)(W12:InI ((i_2:Int)+1)):
  Cont 0 (exec Tryz.prog (tab n) 0 56 (livesOf 83) big lva_C2) (livesOf 83 2) (lva_h2 a0 a1 i_2) (lva_h2 a0 a1 (i_2+1)):=by
 have C1_:i_2<a0.1.length:=by omega
 obtain ⟨EL2,EG2⟩:=List.getElem?_eq_some_iff.1 E2
 have C5_:0<i_2:=by omega
 have C5_z:(i_2:Int)≠0:=by omega
 have C5_e:((i_2:Int)==0)=false:=by simpa using C5_z
 have C5_g:((i_2:Int) !=0)=true:=by simpa using C5_z
 have W6_:IntKind.i64.wrap ((i_2:Int)-1)=(i_2:Int)-1:=wr64 W6.1 W6.2
 obtain ⟨EL7,EG7⟩:=List.getElem?_eq_some_iff.1 E7
 have Z7_0:(1:Int)≤(i_2:Int):=by omega
 have Z7_1:0≤(i_2:Int)-1:=by omega
 have K9:=r_sign (p:=q4) B9a
 have C10_:(sgR q4==0)=false:=by simpa using C10
 have C10_n:(sgR q4 !=0)=true:=by simpa using C10
 have K11:=r_valid (p:=q4) B9a
 have W12_:IntKind.i64.wrap ((i_2:Int)+1)=(i_2:Int)+1:=wr64 W12.1 W12.2
 unfold Cont
 simp+decide [lva_h2,loopsOf, Tryz.f83,lva_C2,C1,C1_,EL2,EG2,E2,C3,C4,C5,C5_,C5_e,C5_g,W6_,EL7,EG7,E7,Z7,Z7_0,Z7_1,C8,K9,C10_,C10_n,K11,W12_]
theorem lva_r2_2(C3:¬v4<0)(C4:¬a1≤v4)(C5:¬0<(i_2:Int))(B6a:H q4≤17179869184)(C7:¬sgR q4=0)(W9:InI ((i_2:Int)+1)):
  Cont 0 (exec Tryz.prog (tab n) 0 56 (livesOf 83) big lva_C2) (livesOf 83 2) (lva_h2 a0 a1 i_2) (lva_h2 a0 a1 (i_2+1)):=by
 have C1_:i_2<a0.1.length:=by omega
 obtain ⟨EL2,EG2⟩:=List.getElem?_eq_some_iff.1 E2
 have C5_:¬0<i_2:=by omega
 have C5_z:(i_2:Int)=0:=by omega
 have C5_e:((i_2:Int)==0)=true:=by rw [C5_z];simp
 have C5_g:((i_2:Int) !=0)=false:=by rw [C5_z];simp
 have K6:=r_sign (p:=q4) B6a
 have C7_:(sgR q4==0)=false:=by simpa using C7
 have C7_n:(sgR q4 !=0)=true:=by simpa using C7
 have K8:=r_valid (p:=q4) B6a
 have W9_:IntKind.i64.wrap ((i_2:Int)+1)=(i_2:Int)+1:=wr64 W9.1 W9.2
 unfold Cont
 simp+decide [lva_h2,loopsOf, Tryz.f83,lva_C2,C1,C1_,EL2,EG2,E2,C3,C4,C5,C5_,C5_e,C5_g,K6,C7_,C7_n,K8,W9_]
theorem lva_x2_1(C3:v4<0):
  Leave 0 (exec Tryz.prog (tab n) 0 56 (livesOf 83) big lva_C2) (livesOf 83 (outOf 2)) (lva_h2 a0 a1 i_2) (.ret) (lva_o2a a0):=by
 have C1_:i_2<a0.1.length:=by omega
 obtain ⟨EL2,EG2⟩:=List.getElem?_eq_some_iff.1 E2
 unfold Leave
 simp+decide [lva_h2,loopsOf, Tryz.f83,lva_o2a,lva_C2,C1,C1_,EL2,EG2,E2,C3]
theorem lva_x2_2(C3:¬v4<0)(C4:a1≤v4):
  Leave 0 (exec Tryz.prog (tab n) 0 56 (livesOf 83) big lva_C2) (livesOf 83 (outOf 2)) (lva_h2 a0 a1 i_2) (.ret) (lva_o2a a0):=by
 have C1_:i_2<a0.1.length:=by omega
 obtain ⟨EL2,EG2⟩:=List.getElem?_eq_some_iff.1 E2
 unfold Leave
 simp+decide [lva_h2,loopsOf, Tryz.f83,lva_o2a,lva_C2,C1,C1_,EL2,EG2,E2,C3,C4]
theorem lva_x2_3(C3:¬v4<0)(C4:¬a1≤v4)(C5:0<(i_2:Int))(W6:InI ((i_2:Int)-1))(E7:a0.1[i_2-1]?=some (v5,q5))(Z7:1≤i_2)(C8:v4≤v5):
  Leave 0 (exec Tryz.prog (tab n) 0 56 (livesOf 83) big lva_C2) (livesOf 83 (outOf 2)) (lva_h2 a0 a1 i_2) (.ret) (lva_o2a a0):=by
 have C1_:i_2<a0.1.length:=by omega
 obtain ⟨EL2,EG2⟩:=List.getElem?_eq_some_iff.1 E2
 have C5_:0<i_2:=by omega
 have C5_z:(i_2:Int)≠0:=by omega
 have C5_e:((i_2:Int)==0)=false:=by simpa using C5_z
 have C5_g:((i_2:Int) !=0)=true:=by simpa using C5_z
 have W6_:IntKind.i64.wrap ((i_2:Int)-1)=(i_2:Int)-1:=wr64 W6.1 W6.2
 obtain ⟨EL7,EG7⟩:=List.getElem?_eq_some_iff.1 E7
 have Z7_0:(1:Int)≤(i_2:Int):=by omega
 have Z7_1:0≤(i_2:Int)-1:=by omega
 unfold Leave
 simp+decide [lva_h2,loopsOf, Tryz.f83,lva_o2a,lva_C2,C1,C1_,EL2,EG2,E2,C3,C4,C5,C5_,C5_e,C5_g,W6_,EL7,EG7,E7,Z7,Z7_0,Z7_1,C8]
theorem lva_x2_4(C3:¬v4<0)(C4:¬a1≤v4)(C5:0<(i_2:Int))(W6:InI ((i_2:Int)-1))(E7:a0.1[i_2-1]?=some (v5,q5))(Z7:1≤i_2)(C8:¬v4≤v5)(B9a:H q4≤17179869184)(C10:sgR q4=0):
  Leave 0 (exec Tryz.prog (tab n) 0 56 (livesOf 83) big lva_C2) (livesOf 83 (outOf 2)) (lva_h2 a0 a1 i_2) (.ret) (lva_o2a a0):=by
 have C1_:i_2<a0.1.length:=by omega
 obtain ⟨EL2,EG2⟩:=List.getElem?_eq_some_iff.1 E2
 have C5_:0<i_2:=by omega
 have C5_z:(i_2:Int)≠0:=by omega
 have C5_e:((i_2:Int)==0)=false:=by simpa using C5_z
 have C5_g:((i_2:Int) !=0)=true:=by simpa using C5_z
 have W6_:IntKind.i64.wrap ((i_2:Int)-1)=(i_2:Int)-1:=wr64 W6.1 W6.2
 obtain ⟨EL7,EG7⟩:=List.getElem?_eq_some_iff.1 E7
 have Z7_0:(1:Int)≤(i_2:Int):=by omega
 have Z7_1:0≤(i_2:Int)-1:=by omega
 have K9:=r_sign (p:=q4) B9a
 have C10_:(sgR q4==0)=true:=by rw [C10];simp
 have C10_n:(sgR q4 !=0)=false:=by rw [C10];simp
 unfold Leave
 simp+decide [lva_h2,loopsOf, Tryz.f83,lva_o2a,lva_C2,C1,C1_,EL2,EG2,E2,C3,C4,C5,C5_,C5_e,C5_g,W6_,EL7,EG7,E7,Z7,Z7_0,Z7_1,C8,K9,C10_,C10_n]
theorem lva_x2_5(C3:¬v4<0)(C4:¬a1≤v4)(C5:¬0<(i_2:Int))(B6a:H q4≤17179869184)(C7:sgR q4=0):
  Leave 0 (exec Tryz.prog (tab n) 0 56 (livesOf 83) big lva_C2) (livesOf 83 (outOf 2)) (lva_h2 a0 a1 i_2) (.ret) (lva_o2a a0):=by
 have C1_:i_2<a0.1.length:=by omega
 obtain ⟨EL2,EG2⟩:=List.getElem?_eq_some_iff.1 E2
 have C5_:¬0<i_2:=by omega
 have C5_z:(i_2:Int)=0:=by omega
 have C5_e:((i_2:Int)==0)=true:=by rw [C5_z];simp
 have C5_g:((i_2:Int) !=0)=false:=by rw [C5_z];simp
 have K6:=r_sign (p:=q4) B6a
 have C7_:(sgR q4==0)=true:=by rw [C7];simp
 have C7_n:(sgR q4 !=0)=false:=by rw [C7];simp
 unfold Leave
 simp+decide [lva_h2,loopsOf, Tryz.f83,lva_o2a,lva_C2,C1,C1_,EL2,EG2,E2,C3,C4,C5,C5_,C5_e,C5_g,K6,C7_,C7_n]
end
theorem lva_x2_6(C1:¬(i_2:Int)<(a0.1.length:Int)):
  Leave 0 (exec Tryz.prog (tab n) 0 56 (livesOf 83) big lva_C2) (livesOf 83 (outOf 2)) (lva_h2 a0 a1 i_2) (.exit 0) (lva_o2b a0):=by
 have C1_:¬i_2<a0.1.length:=by omega
 unfold Leave
 simp+decide [lva_h2,loopsOf, Tryz.f83,lva_o2b,lva_C2,C1,C1_]
theorem lva_f1(L1:loopG Tryz.prog (tab n) 0 56 (livesOf 83) 2 lva_C2 (lva_h2 a0 a1 0)=some (.ret,lva_o2a a0)):
  run n 83 [formV a0,.lit (.int .i64 a1)]=some (.lit (.bool false)):=by
 unfold run fnP
 simp+decide [Tryz.f83]
 rw [loopX_G (C':=lva_C2) (e:=(lva_h2 a0 a1 0)) ?_ ?_,L1]
 rotate_left
 ·kernel_rfl
 ·simp+decide [lva_h2]
 simp+decide [lva_o2a]
theorem lva_f2(L1:loopG Tryz.prog (tab n) 0 56 (livesOf 83) 2 lva_C2 (lva_h2 a0 a1 0)=some (.exit 0,lva_o2b a0))(B2a:H a0.2≤17179869184):
  run n 83 [formV a0,.lit (.int .i64 a1)]=some (.lit (.bool true)):=by
 have K2:=r_valid (p:=a0.2) B2a
 unfold run fnP
 simp+decide [Tryz.f83,K2]
 rw [loopX_G (C':=lva_C2) (e:=(lva_h2 a0 a1 0)) ?_ ?_,L1]
 rotate_left
 ·kernel_rfl
 ·simp+decide [lva_h2,K2]
 simp+decide [lva_o2b,K2]
end
theorem gvc_f1{n:Nat}{a0:Form}{c0:Int}{r:Bool}(K1:run n 83 [formV a0,.lit (.int .i64 c0)]=some (.lit (.bool r))):
  run (n+1) 114 [formV a0,.mem [.lit (.int .i64 c0)]]=some (.lit (.bool (!r))):=by
 simp only [formV] at K1
 unfold run fnP
 simp+decide [Tryz.f114,K1]
noncomputable def ifg_C2:Code:=(loopsOf (bodyOf Tryz.f135)).getD 0 .skip
def ifg_h2(a0:List Form)(c0:Int)(i_2:Nat):St:=
 ⟨[(0,.sl 4 (a0.map formC)),(1,.clo 114 [.mem [.lit (.int .i64 c0)]]),(7,.lit (.int .i64 (a0.length:Int))),(8,.lit (.int .i64 (i_2:Int)))],
  [],0⟩
def ifg_o2a(i_2:Nat):St:=
 ⟨[(4,.lit (.int .i64 (i_2:Int)))],
  [],0⟩
def ifg_o2b:St:=
 ⟨[(4,.any)],
  [],0⟩
section
variable{n:Nat}{c0:Int}{i_2:Nat}{F3:List (Int × Rat)}{q3:Rat}{a0:List Form}{r3:Bool}
section
variable(C1:(i_2:Int)<(a0.length:Int))(E2:a0[i_2]?=some (F3,q3))(K3:run (n+1) 114 [formV (F3,q3),.mem [.lit (.int .i64 c0)]]=some (.lit (.bool r3)))
include C1 E2 K3
theorem ifg_r2_1(C4:r3=false)(W5:InI ((i_2:Int)+1)):
  Cont 0 (exec Tryz.prog (tab (n+2)) 0 19 (livesOf 135) big ifg_C2) (livesOf 135 2) (ifg_h2 a0 c0 i_2) (ifg_h2 a0 c0 (i_2+1)):=by
 have C1_:i_2<a0.length:=by omega
 obtain ⟨EL2,EG2⟩:=List.getElem?_eq_some_iff.1 E2
 simp only [formV] at K3
 have W5_:IntKind.i64.wrap ((i_2:Int)+1)=(i_2:Int)+1:=wr64 W5.1 W5.2
 unfold Cont
 simp+decide [ifg_h2,loopsOf, Tryz.f135,ifg_C2,C1,C1_,EL2,EG2,E2,K3,C4,W5_]
theorem ifg_x2_1(C4:r3=true):
  Leave 0 (exec Tryz.prog (tab (n+2)) 0 19 (livesOf 135) big ifg_C2) (livesOf 135 (outOf 2)) (ifg_h2 a0 c0 i_2) (.ret) (ifg_o2a i_2):=by
 have C1_:i_2<a0.length:=by omega
 obtain ⟨EL2,EG2⟩:=List.getElem?_eq_some_iff.1 E2
 simp only [formV] at K3
 unfold Leave
 simp+decide [ifg_h2,loopsOf, Tryz.f135,ifg_o2a,ifg_C2,C1,C1_,EL2,EG2,E2,K3,C4]
end
theorem ifg_x2_2(C1:¬(i_2:Int)<(a0.length:Int)):
  Leave 0 (exec Tryz.prog (tab (n+2)) 0 19 (livesOf 135) big ifg_C2) (livesOf 135 (outOf 2)) (ifg_h2 a0 c0 i_2) (.exit 0) (ifg_o2b):=by
 have C1_:¬i_2<a0.length:=by omega
 unfold Leave
 simp+decide [ifg_h2,loopsOf, Tryz.f135,ifg_o2b,ifg_C2,C1,C1_]
theorem ifg_f1(L1:loopG Tryz.prog (tab (n+2)) 0 19 (livesOf 135) 2 ifg_C2 (ifg_h2 a0 c0 0)=some (.ret,ifg_o2a i_2)):
  run (n+2) 135 [.sl 4 (a0.map formC),.clo 114 [.mem [.lit (.int .i64 c0)]]]=some (.lit (.int .i64 (i_2:Int))):=by
 unfold run fnP
 simp+decide [Tryz.f135]
 rw [loopX_G (C':=ifg_C2) (e:=(ifg_h2 a0 c0 0)) ?_ ?_,L1]
 rotate_left
 ·kernel_rfl
 ·simp+decide [ifg_h2]
 simp+decide [ifg_o2a]
theorem ifg_f2(L1:loopG Tryz.prog (tab (n+2)) 0 19 (livesOf 135) 2 ifg_C2 (ifg_h2 a0 c0 0)=some (.exit 0,ifg_o2b)):
  run (n+2) 135 [.sl 4 (a0.map formC),.clo 114 [.mem [.lit (.int .i64 c0)]]]=some (.lit (.int .i64 (-1))):=by
 unfold run fnP
 simp+decide [Tryz.f135]
 rw [loopX_G (C':=ifg_C2) (e:=(ifg_h2 a0 c0 0)) ?_ ?_,L1]
 rotate_left
 ·kernel_rfl
 ·simp+decide [ifg_h2]
 simp+decide [ifg_o2b]
end
theorem cfg_f1{n:Nat}{a0:List Form}{c0:Int}{r:Int}(K1:run (n+2) 135 [.sl 4 (a0.map formC),.clo 114 [.mem [.lit (.int .i64 c0)]]]=some (.lit (.int .i64 r))):
  run (n+3) 113 [.sl 4 (a0.map formC),.clo 114 [.mem [.lit (.int .i64 c0)]]]=some (.lit (.bool (decide (0≤r)))):=by
 unfold run fnP
 simp+decide [Tryz.f113,K1]
theorem gva_f1{n:Nat}{a0:List Form}{a1:Int}{r:Bool}(K1:run (n+3) 113 [.sl 4 (a0.map formC),.clo 114 [.mem [.lit (.int .i64 a1)]]]=some (.lit (.bool r))):
  run (n+4) 84 [.sl 4 (a0.map formC),.lit (.int .i64 a1)]=some (.lit (.bool (!r))):=by
 unfold run fnP
 simp+decide [Tryz.f84,K1]
noncomputable def gV_C4:Code:=(loopsOf (bodyOf Tryz.f56)).getD 0 .skip
def gV_h4(a0:TGraph)(i_4:Nat):St:=
 ⟨[(1,.ptr 0 0),(32,.sl 4 (a0.Units.map formC)),(33,.lit (.int .i64 (a0.Units.length:Int))),(34,.lit (.int .i64 (i_4:Int)))],
  [(0,some (.box 24 [.lit (.int .i64 (a0.Inputs)),.sl 4 (a0.Units.map formC),.sl 4 (a0.Outputs.map formC)] false))],1⟩
def gV_o4a(a0:TGraph):St:=
 ⟨[(1,.ptr 0 0),(2,.lit (.bool false))],
  [(0,some (.box 24 [.lit (.int .i64 (a0.Inputs)),.sl 4 (a0.Units.map formC),.sl 4 (a0.Outputs.map formC)] false))],1⟩
def gV_o4b(a0:TGraph):St:=
 ⟨[(1,.ptr 0 0),(2,.any)],
  [(0,some (.box 24 [.lit (.int .i64 (a0.Inputs)),.sl 4 (a0.Units.map formC),.sl 4 (a0.Outputs.map formC)] false))],1⟩
section
variable{n:Nat}{i_4:Nat}{q3:Rat}{F3:List (Int × Rat)}{a0:TGraph}{r3:Bool}{r4:Bool}
section
variable(C1:(i_4:Int)<(a0.Units.length:Int))(E2:a0.Units[i_4]?=some (F3,q3))(W3:InI (a0.Inputs+(i_4:Int)))(K4:run (n+4) 83 [formV (F3,q3),.lit (.int .i64 (a0.Inputs+(i_4:Int)))]=some (.lit (.bool r3)))
include C1 E2 W3 K4
theorem gV_r4_1(C5:r3=true)(W6:InI ((i_4:Int)+1)):
  Cont 0 (exec Tryz.prog (tab (n+5)) 0 56 (livesOf 56) big gV_C4) (livesOf 56 4) (gV_h4 a0 i_4) (gV_h4 a0 (i_4+1)):=by
 have C1_:i_4<a0.Units.length:=by omega
 obtain ⟨EL2,EG2⟩:=List.getElem?_eq_some_iff.1 E2
 have W3_:IntKind.i64.wrap (a0.Inputs+(i_4:Int))=a0.Inputs+(i_4:Int):=wr64 W3.1 W3.2
 simp only [formV] at K4
 have W6_:IntKind.i64.wrap ((i_4:Int)+1)=(i_4:Int)+1:=wr64 W6.1 W6.2
 unfold Cont
 simp+decide [gV_h4,loopsOf, Tryz.f56,gV_C4,C1,C1_,EL2,EG2,E2,W3_,K4,C5,W6_]
theorem gV_x4_1(C5:r3=false):
  Leave 0 (exec Tryz.prog (tab (n+5)) 0 56 (livesOf 56) big gV_C4) (livesOf 56 (outOf 4)) (gV_h4 a0 i_4) (.ret) (gV_o4a a0):=by
 have C1_:i_4<a0.Units.length:=by omega
 obtain ⟨EL2,EG2⟩:=List.getElem?_eq_some_iff.1 E2
 have W3_:IntKind.i64.wrap (a0.Inputs+(i_4:Int))=a0.Inputs+(i_4:Int):=wr64 W3.1 W3.2
 simp only [formV] at K4
 unfold Leave
 simp+decide [gV_h4,loopsOf, Tryz.f56,gV_o4a,gV_C4,C1,C1_,EL2,EG2,E2,W3_,K4,C5]
end
theorem gV_x4_2(C1:¬(i_4:Int)<(a0.Units.length:Int)):
  Leave 0 (exec Tryz.prog (tab (n+5)) 0 56 (livesOf 56) big gV_C4) (livesOf 56 (outOf 4)) (gV_h4 a0 i_4) (.exit 0) (gV_o4b a0):=by
 have C1_:¬i_4<a0.Units.length:=by omega
 unfold Leave
 simp+decide [gV_h4,loopsOf, Tryz.f56,gV_o4b,gV_C4,C1,C1_]
theorem gV_f1(C1:a0.Inputs<1):
  run (n+5) 56 [graphV a0]=some (.lit (.bool false)):=by
 unfold run fnP
 simp+decide [Tryz.f56,C1]
section
variable(C1:¬a0.Inputs<1)
include C1
theorem gV_f2(C2:256<a0.Inputs):
  run (n+5) 56 [graphV a0]=some (.lit (.bool false)):=by
 unfold run fnP
 simp+decide [Tryz.f56,C1,C2]
theorem gV_f3(C2:¬256<a0.Inputs)(C3:1024<(a0.Units.length:Int)):
  run (n+5) 56 [graphV a0]=some (.lit (.bool false)):=by
 have C3_:1024<a0.Units.length:=by omega
 unfold run fnP
 simp+decide [Tryz.f56,C1,C2,C3,C3_]
section
variable(C2:¬256<a0.Inputs)(C3:¬1024<(a0.Units.length:Int))
include C2 C3
theorem gV_f4(C4:(a0.Outputs.length:Int)<1):
  run (n+5) 56 [graphV a0]=some (.lit (.bool false)):=by
 have C3_:¬1024<a0.Units.length:=by omega
 have C4_:a0.Outputs.length<1:=by omega
 unfold run fnP
 simp+decide [Tryz.f56,C1,C2,C3,C3_,C4,C4_]
theorem gV_f5(C4:¬(a0.Outputs.length:Int)<1)(C5:256<(a0.Outputs.length:Int)):
  run (n+5) 56 [graphV a0]=some (.lit (.bool false)):=by
 have C3_:¬1024<a0.Units.length:=by omega
 have C4_:¬a0.Outputs.length<1:=by omega
 have C5_:256<a0.Outputs.length:=by omega
 unfold run fnP
 simp+decide [Tryz.f56,C1,C2,C3,C3_,C4,C4_,C5,C5_]
theorem gV_f6(C4:¬(a0.Outputs.length:Int)<1)(C5:¬256<(a0.Outputs.length:Int))(L6:loopG Tryz.prog (tab (n+5)) 0 56 (livesOf 56) 4 gV_C4 (gV_h4 a0 0)=some (.ret,gV_o4a a0)):
  run (n+5) 56 [graphV a0]=some (.lit (.bool false)):=by
 have C3_:¬1024<a0.Units.length:=by omega
 have C4_:¬a0.Outputs.length<1:=by omega
 have C5_:¬256<a0.Outputs.length:=by omega
 unfold run fnP
 simp+decide [Tryz.f56,C1,C2,C3,C3_,C4,C4_,C5,C5_]
 rw [loopX_G (C':=gV_C4) (e:=(gV_h4 a0 0)) ?_ ?_,L6]
 rotate_left
 ·kernel_rfl
 ·simp+decide [gV_h4,C1,C2,C3,C3_,C4,C4_,C5,C5_]
 simp+decide [gV_o4a,C1,C2,C3,C3_,C4,C4_,C5,C5_]
theorem gV_f7(C4:¬(a0.Outputs.length:Int)<1)(C5:¬256<(a0.Outputs.length:Int))(L6:loopG Tryz.prog (tab (n+5)) 0 56 (livesOf 56) 4 gV_C4 (gV_h4 a0 0)=some (.exit 0,gV_o4b a0))(W7:InI (a0.Inputs+(a0.Units.length:Int)))(K8:run (n+4) 84 [.sl 4 (a0.Outputs.map formC),.lit (.int .i64 (a0.Inputs+(a0.Units.length:Int)))]=some (.lit (.bool r4))):
  run (n+5) 56 [graphV a0]=some (.lit (.bool r4)):=by
 have C3_:¬1024<a0.Units.length:=by omega
 have C4_:¬a0.Outputs.length<1:=by omega
 have C5_:¬256<a0.Outputs.length:=by omega
 have W7_:IntKind.i64.wrap (a0.Inputs+(a0.Units.length:Int))=a0.Inputs+(a0.Units.length:Int):=wr64 W7.1 W7.2
 unfold run fnP
 simp+decide [Tryz.f56,C1,C2,C3,C3_,C4,C4_,C5,C5_,W7_,K8]
 rw [loopX_G (C':=gV_C4) (e:=(gV_h4 a0 0)) ?_ ?_,L6]
 rotate_left
 ·kernel_rfl
 ·simp+decide [gV_h4,C1,C2,C3,C3_,C4,C4_,C5,C5_,W7_,K8]
 simp+decide [gV_o4b,C1,C2,C3,C3_,C4,C4_,C5,C5_,W7_,K8]
end
end
end
section
attribute [local irreducible] run runL loopG exec
theorem lvalid_c{n:Nat}{f:Form}{vars:Int}(hB:BdF 17179869184 f):run n 83 [formV f,.lit (.int .i64 vars)]=some (.lit (.bool (tv (OkFm f vars)))):=by
 have hl:=hB.l
 have L:=loopG_all (O:=tab n) (P:= Tryz.prog) (m:=0) (N:=56) (lives:=livesOf 83) (r:=2) (C:=lva_C2) (M:=f.1.length) (enc:=lva_h2 f vars) (p:=fun i=>tv (OkTm f.1 vars i)) (exN:=.exit 0) (exE:=.ret) (out:=lva_o2b f) (outE:=lva_o2a f) (by omega) (by simp) (by simp)
  (fun i hi hI=>by
   have hx:f.1[i]?=some f.1[i]:=List.getElem?_eq_getElem hi
   generalize f.1[i]=t at hx
   obtain ⟨v,c⟩:=t
   have hc:H c≤17179869184:=hB.t _ (List.mem_of_getElem? hx)
   have C1:(i:Int)<(f.1.length:Int):=by omega
   have W:InI ((i:Int)+1):=⟨by omega,by omega⟩
   have W2:InI ((i:Int)-1):=⟨by omega,by omega⟩
   have hs:sgR c=0↔c=0:=sgR_eq_zero
   by_cases h0:0<i
   ·have hy:f.1[i-1]?=some (f.1[i-1]'(by omega)):=List.getElem?_eq_getElem _
    generalize f.1[i-1]'(by omega)=t at hy
    obtain ⟨v',c'⟩:=t
    refine ⟨fun hp=>?_,fun hp=>?_⟩
    ·obtain ⟨a1,a2,a3,a4⟩:=tv_true hp v c hx
     have a5:=a4 v' c' h0 hy
     exact lva_r2_1 C1 hx (by omega) (by omega) (by omega) W2 hy (by omega) (by omega) hc (fun h=>a3 (hs.1 h)) W
    ·by_cases b1:v<0
     ·exact lva_x2_1 C1 hx b1
     ·by_cases b2:vars≤v
      ·exact lva_x2_2 C1 hx b1 b2
      ·by_cases b3:v≤v'
       ·exact lva_x2_3 C1 hx b1 b2 (by omega) W2 hy (by omega) b3
       ·by_cases b4:c=0
        ·exact lva_x2_4 C1 hx b1 b2 (by omega) W2 hy (by omega) b3 hc (hs.2 b4)
        ·refine absurd (fun u d hu=>?_) (tv_false hp)
         rw [hx] at hu;cases hu
         exact ⟨by omega,by omega,b4,fun v2 c2 _ h2=>by rw [hy] at h2;cases h2;omega⟩
   ·refine ⟨fun hp=>?_,fun hp=>?_⟩
    ·obtain ⟨a1,a2,a3,a4⟩:=tv_true hp v c hx
     exact lva_r2_2 C1 hx (by omega) (by omega) (by omega) hc (fun h=>a3 (hs.1 h)) W
    ·by_cases b1:v<0
     ·exact lva_x2_1 C1 hx b1
     ·by_cases b2:vars≤v
      ·exact lva_x2_2 C1 hx b1 b2
      ·by_cases b4:c=0
       ·exact lva_x2_5 C1 hx b1 b2 (by omega) hc (hs.2 b4)
       ·refine absurd (fun u d hu=>?_) (tv_false hp)
        rw [hx] at hu;cases hu
        exact ⟨by omega,by omega,b4,fun v2 c2 h2=>absurd h2 h0⟩)
  (lva_x2_6 (by omega))
 by_cases h:OkFm f vars
 ·rw [if_pos (fun i hi=>tv_t (h i hi))] at L
  rw [tv_t h]
  exact lva_f2 L hB.k
 ·rw [if_neg (fun h2=>h fun i hi=>tv_true (h2 i hi))] at L
  rw [tv_f h]
  exact lva_f1 L
theorem gvc_c{n:Nat}{f:Form}{vars:Int}(hB:BdF 17179869184 f):run (n+1) 114 [formV f,.mem [.lit (.int .i64 vars)]]=some (.lit (.bool (!tv (OkFm f vars)))):=gvc_f1 (lvalid_c (n:=n) hB)
theorem ifg_c{n:Nat}{L:List Form}{vars:Int}(hl:L.length≤100000000)(hB:∀f∈L,BdF 17179869184 f):∃r:Int,run (n+2) 135 [.sl 4 (L.map formC),.clo 114 [.mem [.lit (.int .i64 vars)]]]=some (.lit (.int .i64 r))∧(0≤r↔¬∀f∈L,OkFm f vars):=by
 obtain ⟨ex,t,h1,h2⟩:=loopG_Q (β:=Unit) (P:= Tryz.prog) (O:=tab (n+2)) (m:=0) (N:=19) (lives:=livesOf 135) (r:=2) (C:=ifg_C2) (M:=L.length) (enc:=fun i _=>ifg_h2 L vars i)
  (fun i _=>∀j f,j<i→L[j]?=some f→OkFm f vars) (fun ex t=>(ex=.exit 0∧t=ifg_o2b∧∀f∈L,OkFm f vars)∨(ex=.ret∧∃i:Nat,t=ifg_o2a i∧¬∀f∈L,OkFm f vars)) () (fun j f hj=>by omega) (by omega)
  (fun i b hi hI=>by
   have hx:L[i]?=some L[i]:=List.getElem?_eq_getElem hi
   generalize L[i]=f at hx
   have K:=gvc_c (n:=n) (vars:=vars) (hB f (List.mem_of_getElem? hx))
   by_cases h:OkFm f vars
   ·rw [tv_t h] at K
    refine .inl ⟨(),ifg_r2_1 (by omega) hx K rfl ⟨by omega,by omega⟩,fun j g hj hg=>?_⟩
    rcases Nat.lt_succ_iff_lt_or_eq.1 hj with h2|rfl
    ·exact hI j g h2 hg
    ·rw [hx] at hg;cases hg;exact h
   ·rw [tv_f h] at K
    exact .inr ⟨_,_,by simp,ifg_x2_1 (by omega) hx K rfl,.inr ⟨rfl,i,rfl,fun h2=>h (h2 f (List.mem_of_getElem? hx))⟩⟩)
  (fun b hI=>⟨_,_,by simp,ifg_x2_2 (by omega),.inl ⟨rfl,rfl,fun f hf=>by
   obtain ⟨j,hj⟩:=List.mem_iff_getElem?.1 hf
   exact hI j f (List.getElem?_eq_some_iff.1 hj).1 hj⟩⟩)
 rcases h2 with ⟨rfl,rfl,h3⟩|⟨rfl,i,rfl,h3⟩
 ·exact ⟨-1,ifg_f2 h1,fun h=>by omega,fun h=>absurd h3 h⟩
 ·exact ⟨(i:Int),ifg_f1 h1,fun _=>h3,fun _=>by omega⟩
theorem gvs_c{n:Nat}{L:List Form}{vars:Int}(hl:L.length≤100000000)(hB:∀f∈L,BdF 17179869184 f):run (n+4) 84 [.sl 4 (L.map formC),.lit (.int .i64 vars)]=some (.lit (.bool (tv (∀f∈L,OkFm f vars)))):=by
 obtain ⟨r,h1,h2⟩:=ifg_c (n:=n) (vars:=vars) hl hB
 have h3:=gva_f1 (n:=n) (cfg_f1 (n:=n) h1)
 rw [h3]
 by_cases h:∀f∈L,OkFm f vars
 ·rw [tv_t h,decide_eq_false (fun h4=>(h2.1 h4) h)];rfl
 ·rw [tv_f h,decide_eq_true (h2.2 h)];rfl
theorem gvalid_c{n:Nat}{g:TGraph}(hB:BdG 17179869184 g):run (n+5) 56 [graphV g]=some (.lit (.bool (tv (OkGr g)))):=by
 have hlu:=hB.lu
 have hlo:=hB.lo
 by_cases c1:g.Inputs<1
 ·rw [tv_f (fun h=>by have:=h.i0;omega)];exact gV_f1 c1
 by_cases c2:256<g.Inputs
 ·rw [tv_f (fun h=>by have:=h.i1;omega)];exact gV_f2 c1 c2
 by_cases c3:1024<(g.Units.length:Int)
 ·rw [tv_f (fun h=>by have:=h.u;omega)];exact gV_f3 c1 c2 c3
 by_cases c4:(g.Outputs.length:Int)<1
 ·rw [tv_f (fun h=>by have:=h.o0;omega)];exact gV_f4 c1 c2 c3 c4
 by_cases c5:256<(g.Outputs.length:Int)
 ·rw [tv_f (fun h=>by have:=h.o1;omega)];exact gV_f5 c1 c2 c3 c4 c5
 have hG:=loopG_all (O:=tab (n+5)) (P:= Tryz.prog) (m:=0) (N:=56) (lives:=livesOf 56) (r:=4) (C:=gV_C4) (M:=g.Units.length) (enc:=gV_h4 g) (p:=fun i=>tv (∀f,g.Units[i]?=some f→OkFm f (g.Inputs+(i:Int)))) (exN:=.exit 0) (exE:=.ret) (out:=gV_o4b g) (outE:=gV_o4a g) (by omega) (by simp) (by simp)
  (fun i hi hI=>by
   have hx:g.Units[i]?=some g.Units[i]:=List.getElem?_eq_getElem hi
   generalize g.Units[i]=f at hx
   have C1:(i:Int)<(g.Units.length:Int):=by omega
   have W:InI ((i:Int)+1):=⟨by omega,by omega⟩
   have W2:InI (g.Inputs+(i:Int)):=⟨by omega,by omega⟩
   have K:=lvalid_c (n:=n+4) (vars:=g.Inputs+(i:Int)) (hB.u f (List.mem_of_getElem? hx))
   have e:tv (∀f,g.Units[i]?=some f→OkFm f (g.Inputs+(i:Int)))=tv (OkFm f (g.Inputs+(i:Int))):=tv_iff ⟨fun h=>h f hx,fun h g hg=>by rw [hx] at hg;cases hg;exact h⟩
   rw [e]
   exact ⟨fun hp=>gV_r4_1 C1 hx W2 K hp W,fun hp=>gV_x4_1 C1 hx W2 K hp⟩)
  (gV_x4_2 (by omega))
 by_cases h:∀i,i<g.Units.length→∀f,g.Units[i]?=some f→OkFm f (g.Inputs+(i:Int))
 ·rw [if_pos (fun i hi=>tv_t (h i hi))] at hG
  have K:=gvs_c (n:=n) (vars:=g.Inputs+(g.Units.length:Int)) hlo hB.o
  have e:tv (OkGr g)=tv (∀f∈g.Outputs,OkFm f (g.Inputs+(g.Units.length:Int))):=tv_iff ⟨fun k=>k.ou,fun k=>⟨by omega,by omega,by omega,by omega,by omega,h,k⟩⟩
  rw [e]
  exact gV_f7 c1 c2 c3 c4 c5 hG ⟨by omega,by omega⟩ K
 ·rw [if_neg (fun h2=>h fun i hi=>tv_true (h2 i hi))] at hG
  rw [tv_f (fun k=>h k.un)]
  exact gV_f6 c1 c2 c3 c4 c5 hG
end
end Go.Proofs.YtefdjbknmfeooaaGreatDoor
