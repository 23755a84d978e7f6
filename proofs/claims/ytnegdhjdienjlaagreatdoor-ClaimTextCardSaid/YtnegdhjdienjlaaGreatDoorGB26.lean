import Derived.Test.YtnegdhjdienjlaaGreatDoorGB16
import Derived.Test.YtnegdhjdienjlaaGreatDoorGB25
import Derived.Test.YtnegdhjdienjlaaGreatDoorGB18
import Derived.Test.YtnegdhjdienjlaaGreatDoorGB17
import Derived.Test.YtnegdhjdienjlaaGreatDoorGB21
import Derived.Test.YtnegdhjdienjlaaGreatDoorGB20
set_option linter.all false
set_option maxHeartbeats 6400000
set_option maxRecDepth 100000
namespace Go.Proofs.YtnegdhjdienjlaaGreatDoor
section
open Go.RowKit
noncomputable def lvaR_C2:Code:=(loopsOf (bodyOf Tryz.f99)).getD 0 .skip
def lvaR_h2(a0:FormR)(a1:Int)(i_2:Nat):St:=
 ⟨[(1,.lit (.int .i64 a1)),(2,.ptr 0 0),(8,.sl 4 (a0.1.map termRC)),(9,.lit (.int .i64 (a0.1.length:Int))),(10,.lit (.int .i64 (i_2:Int)))],
  [(0,some (.box 79 [.sl 4 (a0.1.map termRC),.lit (.bool a0.2.s),natA a0.2.l1,natA a0.2.l2] false))],1⟩
def lvaR_o2a(a0:FormR):St:=
 ⟨[(2,.ptr 0 0),(4,.lit (.bool false))],
  [(0,some (.box 79 [.sl 4 (a0.1.map termRC),.lit (.bool a0.2.s),natA a0.2.l1,natA a0.2.l2] false))],1⟩
def lvaR_o2b(a0:FormR):St:=
 ⟨[(2,.ptr 0 0),(4,.any)],
  [(0,some (.box 79 [.sl 4 (a0.1.map termRC),.lit (.bool a0.2.s),natA a0.2.l1,natA a0.2.l2] false))],1⟩
section
variable {r4 : Raw} {n : Nat} {i_2 : Nat} {v5 : Int} {a1 : Int} {a0 : FormR} {v4 : Int} {r5 : Raw}
section
variable(C1:(i_2:Int)<(a0.1.length:Int))(E2:a0.1[i_2]?=some (v4,r4))
include C1 E2
theorem lvaR_r2_1(C3:¬v4<0)(C4:¬a1≤v4)(C5:0<(i_2:Int))(W6:InI ((i_2:Int)-1))(E7:a0.1[i_2-1]?=some (v5,r5))(Z7:1≤i_2)(C8:¬v4≤v5)(B9a:RawB r4)(C10:¬sgR r4.q=0)(C12:RatV r4.s r4.l1 r4.l2)(W13:InI ((i_2:Int)+1)):
  Cont 0 (exec Tryz.prog (tab n) 0 56 (livesOf 99) big lvaR_C2) (livesOf 99 2) (lvaR_h2 a0 a1 i_2) (lvaR_h2 a0 a1 (i_2+1)):=by
 have C1_:i_2<a0.1.length:=by omega
 obtain ⟨EL2,EG2⟩:=List.getElem?_eq_some_iff.1 E2
 have C5_:0<i_2:=by omega
 have C5_z:(i_2:Int)≠0:=by omega
 have C5_e:((i_2:Int)==0)=false:=by simpa using C5_z
 have C5_g:((i_2:Int) !=0)=true:=by simpa using C5_z
 have W6_:IntKind.i64.wrap ((i_2:Int)-1)=(i_2:Int)-1:=wr64 W6.1 W6.2
 obtain ⟨EL7,EG7⟩:=List.getElem?_eq_some_iff.1 E7
 have Z7_0:(1:Int)≤(i_2:Int):=by omega
 have Z7_1:0≤(i_2:Int)-1:=by omega
 have K9:=rr_sign B9a
 have C10_:(sgR r4.q==0)=false:=by simpa using C10
 have C10_n:(sgR r4.q !=0)=true:=by simpa using C10
 have K11:=rr_valid B9a
 have W13_:IntKind.i64.wrap ((i_2:Int)+1)=(i_2:Int)+1:=wr64 W13.1 W13.2
 unfold Cont
 simp+decide [lvaR_h2,loopsOf, Tryz.f99,lvaR_C2,C1,C1_,EL2,EG2,E2,C3,C4,C5,C5_,C5_e,C5_g,W6_,EL7,EG7,E7,Z7,Z7_0,Z7_1,C8,K9,C10_,C10_n,K11,C12,W13_]
theorem lvaR_r2_2(C3:¬v4<0)(C4:¬a1≤v4)(C5:¬0<(i_2:Int))(B6a:RawB r4)(C7:¬sgR r4.q=0)(C9:RatV r4.s r4.l1 r4.l2)(W10:InI ((i_2:Int)+1)):
  Cont 0 (exec Tryz.prog (tab n) 0 56 (livesOf 99) big lvaR_C2) (livesOf 99 2) (lvaR_h2 a0 a1 i_2) (lvaR_h2 a0 a1 (i_2+1)):=by
 have C1_:i_2<a0.1.length:=by omega
 obtain ⟨EL2,EG2⟩:=List.getElem?_eq_some_iff.1 E2
 have C5_:¬0<i_2:=by omega
 have C5_z:(i_2:Int)=0:=by omega
 have C5_e:((i_2:Int)==0)=true:=by rw [C5_z];simp
 have C5_g:((i_2:Int) !=0)=false:=by rw [C5_z];simp
 have K6:=rr_sign B6a
 have C7_:(sgR r4.q==0)=false:=by simpa using C7
 have C7_n:(sgR r4.q !=0)=true:=by simpa using C7
 have K8:=rr_valid B6a
 have W10_:IntKind.i64.wrap ((i_2:Int)+1)=(i_2:Int)+1:=wr64 W10.1 W10.2
 unfold Cont
 simp+decide [lvaR_h2,loopsOf, Tryz.f99,lvaR_C2,C1,C1_,EL2,EG2,E2,C3,C4,C5,C5_,C5_e,C5_g,K6,C7_,C7_n,K8,C9,W10_]
theorem lvaR_x2_1(C3:v4<0):
  Leave 0 (exec Tryz.prog (tab n) 0 56 (livesOf 99) big lvaR_C2) (livesOf 99 (outOf 2)) (lvaR_h2 a0 a1 i_2) (.ret) (lvaR_o2a a0):=by
 have C1_:i_2<a0.1.length:=by omega
 obtain ⟨EL2,EG2⟩:=List.getElem?_eq_some_iff.1 E2
 unfold Leave
 simp+decide [lvaR_h2,loopsOf, Tryz.f99,lvaR_o2a,lvaR_C2,C1,C1_,EL2,EG2,E2,C3]
theorem lvaR_x2_2(C3:¬v4<0)(C4:a1≤v4):
  Leave 0 (exec Tryz.prog (tab n) 0 56 (livesOf 99) big lvaR_C2) (livesOf 99 (outOf 2)) (lvaR_h2 a0 a1 i_2) (.ret) (lvaR_o2a a0):=by
 have C1_:i_2<a0.1.length:=by omega
 obtain ⟨EL2,EG2⟩:=List.getElem?_eq_some_iff.1 E2
 unfold Leave
 simp+decide [lvaR_h2,loopsOf, Tryz.f99,lvaR_o2a,lvaR_C2,C1,C1_,EL2,EG2,E2,C3,C4]
section
variable(C3:¬v4<0)(C4:¬a1≤v4)
include C3 C4
section
variable(C5:0<(i_2:Int))(W6:InI ((i_2:Int)-1))(E7:a0.1[i_2-1]?=some (v5,r5))(Z7:1≤i_2)
include C5 W6 E7 Z7
theorem lvaR_x2_3(C8:v4≤v5):
  Leave 0 (exec Tryz.prog (tab n) 0 56 (livesOf 99) big lvaR_C2) (livesOf 99 (outOf 2)) (lvaR_h2 a0 a1 i_2) (.ret) (lvaR_o2a a0):=by
 have C1_:i_2<a0.1.length:=by omega
 obtain ⟨EL2,EG2⟩:=List.getElem?_eq_some_iff.1 E2
 have C5_:0<i_2:=by omega
 have C5_z:(i_2:Int)≠0:=by omega
 have C5_e:((i_2:Int)==0)=false:=by simpa using C5_z
 have C5_g:((i_2:Int) !=0)=true:=by simpa using C5_z
 have W6_:IntKind.i64.wrap ((i_2:Int)-1)=(i_2:Int)-1:=wr64 W6.1 W6.2
 obtain ⟨EL7,EG7⟩:=List.getElem?_eq_some_iff.1 E7
 have Z7_0:(1:Int)≤(i_2:Int):=by omega
 have Z7_1:0≤(i_2:Int)-1:=by omega
 unfold Leave
 simp+decide [lvaR_h2,loopsOf, Tryz.f99,lvaR_o2a,lvaR_C2,C1,C1_,EL2,EG2,E2,C3,C4,C5,C5_,C5_e,C5_g,W6_,EL7,EG7,E7,Z7,Z7_0,Z7_1,C8]
theorem lvaR_x2_4(C8:¬v4≤v5)(B9a:RawB r4)(C10:sgR r4.q=0):
  Leave 0 (exec Tryz.prog (tab n) 0 56 (livesOf 99) big lvaR_C2) (livesOf 99 (outOf 2)) (lvaR_h2 a0 a1 i_2) (.ret) (lvaR_o2a a0):=by
 have C1_:i_2<a0.1.length:=by omega
 obtain ⟨EL2,EG2⟩:=List.getElem?_eq_some_iff.1 E2
 have C5_:0<i_2:=by omega
 have C5_z:(i_2:Int)≠0:=by omega
 have C5_e:((i_2:Int)==0)=false:=by simpa using C5_z
 have C5_g:((i_2:Int) !=0)=true:=by simpa using C5_z
 have W6_:IntKind.i64.wrap ((i_2:Int)-1)=(i_2:Int)-1:=wr64 W6.1 W6.2
 obtain ⟨EL7,EG7⟩:=List.getElem?_eq_some_iff.1 E7
 have Z7_0:(1:Int)≤(i_2:Int):=by omega
 have Z7_1:0≤(i_2:Int)-1:=by omega
 have K9:=rr_sign B9a
 have C10_:(sgR r4.q==0)=true:=by rw [C10];simp
 have C10_n:(sgR r4.q !=0)=false:=by rw [C10];simp
 unfold Leave
 simp+decide [lvaR_h2,loopsOf, Tryz.f99,lvaR_o2a,lvaR_C2,C1,C1_,EL2,EG2,E2,C3,C4,C5,C5_,C5_e,C5_g,W6_,EL7,EG7,E7,Z7,Z7_0,Z7_1,C8,K9,C10_,C10_n]
theorem lvaR_x2_5(C8:¬v4≤v5)(B9a:RawB r4)(C10:¬sgR r4.q=0)(C12:¬(RatV r4.s r4.l1 r4.l2)):
  Leave 0 (exec Tryz.prog (tab n) 0 56 (livesOf 99) big lvaR_C2) (livesOf 99 (outOf 2)) (lvaR_h2 a0 a1 i_2) (.ret) (lvaR_o2a a0):=by
 have C1_:i_2<a0.1.length:=by omega
 obtain ⟨EL2,EG2⟩:=List.getElem?_eq_some_iff.1 E2
 have C5_:0<i_2:=by omega
 have C5_z:(i_2:Int)≠0:=by omega
 have C5_e:((i_2:Int)==0)=false:=by simpa using C5_z
 have C5_g:((i_2:Int) !=0)=true:=by simpa using C5_z
 have W6_:IntKind.i64.wrap ((i_2:Int)-1)=(i_2:Int)-1:=wr64 W6.1 W6.2
 obtain ⟨EL7,EG7⟩:=List.getElem?_eq_some_iff.1 E7
 have Z7_0:(1:Int)≤(i_2:Int):=by omega
 have Z7_1:0≤(i_2:Int)-1:=by omega
 have K9:=rr_sign B9a
 have C10_:(sgR r4.q==0)=false:=by simpa using C10
 have C10_n:(sgR r4.q !=0)=true:=by simpa using C10
 have K11:=rr_valid B9a
 unfold Leave
 simp+decide [lvaR_h2,loopsOf, Tryz.f99,lvaR_o2a,lvaR_C2,C1,C1_,EL2,EG2,E2,C3,C4,C5,C5_,C5_e,C5_g,W6_,EL7,EG7,E7,Z7,Z7_0,Z7_1,C8,K9,C10_,C10_n,K11,C12]
end
theorem lvaR_x2_6(C5:¬0<(i_2:Int))(B6a:RawB r4)(C7:sgR r4.q=0):
  Leave 0 (exec Tryz.prog (tab n) 0 56 (livesOf 99) big lvaR_C2) (livesOf 99 (outOf 2)) (lvaR_h2 a0 a1 i_2) (.ret) (lvaR_o2a a0):=by
 have C1_:i_2<a0.1.length:=by omega
 obtain ⟨EL2,EG2⟩:=List.getElem?_eq_some_iff.1 E2
 have C5_:¬0<i_2:=by omega
 have C5_z:(i_2:Int)=0:=by omega
 have C5_e:((i_2:Int)==0)=true:=by rw [C5_z];simp
 have C5_g:((i_2:Int) !=0)=false:=by rw [C5_z];simp
 have K6:=rr_sign B6a
 have C7_:(sgR r4.q==0)=true:=by rw [C7];simp
 have C7_n:(sgR r4.q !=0)=false:=by rw [C7];simp
 unfold Leave
 simp+decide [lvaR_h2,loopsOf, Tryz.f99,lvaR_o2a,lvaR_C2,C1,C1_,EL2,EG2,E2,C3,C4,C5,C5_,C5_e,C5_g,K6,C7_,C7_n]
theorem lvaR_x2_7(C5:¬0<(i_2:Int))(B6a:RawB r4)(C7:¬sgR r4.q=0)(C9:¬(RatV r4.s r4.l1 r4.l2)):
  Leave 0 (exec Tryz.prog (tab n) 0 56 (livesOf 99) big lvaR_C2) (livesOf 99 (outOf 2)) (lvaR_h2 a0 a1 i_2) (.ret) (lvaR_o2a a0):=by
 have C1_:i_2<a0.1.length:=by omega
 obtain ⟨EL2,EG2⟩:=List.getElem?_eq_some_iff.1 E2
 have C5_:¬0<i_2:=by omega
 have C5_z:(i_2:Int)=0:=by omega
 have C5_e:((i_2:Int)==0)=true:=by rw [C5_z];simp
 have C5_g:((i_2:Int) !=0)=false:=by rw [C5_z];simp
 have K6:=rr_sign B6a
 have C7_:(sgR r4.q==0)=false:=by simpa using C7
 have C7_n:(sgR r4.q !=0)=true:=by simpa using C7
 have K8:=rr_valid B6a
 unfold Leave
 simp+decide [lvaR_h2,loopsOf, Tryz.f99,lvaR_o2a,lvaR_C2,C1,C1_,EL2,EG2,E2,C3,C4,C5,C5_,C5_e,C5_g,K6,C7_,C7_n,K8,C9]
end
end
theorem lvaR_x2_8(C1:¬(i_2:Int)<(a0.1.length:Int)):
  Leave 0 (exec Tryz.prog (tab n) 0 56 (livesOf 99) big lvaR_C2) (livesOf 99 (outOf 2)) (lvaR_h2 a0 a1 i_2) (.exit 0) (lvaR_o2b a0):=by
 have C1_:¬i_2<a0.1.length:=by omega
 unfold Leave
 simp+decide [lvaR_h2,loopsOf, Tryz.f99,lvaR_o2b,lvaR_C2,C1,C1_]
theorem lvaR_f1(L1:loopG Tryz.prog (tab n) 0 56 (livesOf 99) 2 lvaR_C2 (lvaR_h2 a0 a1 0)=some (.ret,lvaR_o2a a0)):
  run n 99 [.agg [.sl 4 (a0.1.map termRC),.lit (.bool a0.2.s),natA a0.2.l1,natA a0.2.l2],.lit (.int .i64 a1)]=some (.lit (.bool false)):=by
 unfold run fnP
 simp+decide [Tryz.f99]
 rw [loopX_G (C':=lvaR_C2) (e:=(lvaR_h2 a0 a1 0)) ?_ ?_,L1]
 rotate_left
 ·kernel_rfl
 ·simp+decide [lvaR_h2]
 simp+decide [lvaR_o2a]
theorem lvaR_f2(L1:loopG Tryz.prog (tab n) 0 56 (livesOf 99) 2 lvaR_C2 (lvaR_h2 a0 a1 0)=some (.exit 0,lvaR_o2b a0))(B2a:RawB a0.2):
  run n 99 [.agg [.sl 4 (a0.1.map termRC),.lit (.bool a0.2.s),natA a0.2.l1,natA a0.2.l2],.lit (.int .i64 a1)]=some (.lit (.bool (decide (RatV a0.2.s a0.2.l1 a0.2.l2)))):=by
 have K2:=rr_valid B2a
 unfold run fnP
 simp+decide [Tryz.f99,K2]
 rw [loopX_G (C':=lvaR_C2) (e:=(lvaR_h2 a0 a1 0)) ?_ ?_,L1]
 rotate_left
 ·kernel_rfl
 ·simp+decide [lvaR_h2,K2]
 simp+decide [lvaR_o2b,K2]
end
end
section
open Go.RowKit
attribute [local irreducible] run runL loopG exec
theorem lvalidRB_c{n:Nat}{f:FormR}{vars:Int}(h8:f.1.length≤100000)(hrbs:∀t∈f.1,RawB t.2)(hkb:RawB f.2):run n 99 [frV f,.lit (.int .i64 vars)]=some (.lit (.bool (tv (OkFR f vars)))):=by
 have L:=loopG_all (O:=tab n) (P:= Tryz.prog) (m:=0) (N:=56) (lives:=livesOf 99) (r:=2) (C:=lvaR_C2) (M:=f.1.length) (enc:=lvaR_h2 f vars) (p:=fun i=>tv (OkTmR f.1 vars i)) (exN:=.exit 0) (exE:=.ret) (out:=lvaR_o2b f) (outE:=lvaR_o2a f) (by omega) (fun h=>by cases h) (fun h=>by cases h)
  (fun i hi _=>by
   have hx:f.1[i]?=some f.1[i]:=List.getElem?_eq_getElem hi
   obtain ⟨t,ht⟩:∃t,f.1[i]=t:=⟨_,rfl⟩
   rw [ht] at hx
   obtain ⟨v,r⟩:=t
   have hm:(v,r)∈f.1:=List.mem_of_getElem? hx
   have hrb:RawB r:=hrbs _ hm
   have C1:(i:Int)<(f.1.length:Int):=by omega
   have hp:0<i→∃v' r',f.1[i-1]?=some (v',r'):=fun h0=>⟨(f.1[i-1]'(by omega)).1,(f.1[i-1]'(by omega)).2,List.getElem?_eq_getElem _⟩
   refine ⟨fun hp'=>?_,fun hp'=>?_⟩
   ·obtain ⟨a1,a2,a3,a4,a5⟩:=tv_true hp' v r hx
    have s0:¬sgR r.q=0:=fun h=>a3 (sgR_eq_zero.1 h)
    by_cases h0:0<i
    ·obtain ⟨v',r',hx'⟩:=hp h0
     have:=a5 v' r' h0 hx'
     exact lvaR_r2_1 C1 hx (by omega) (by omega) (by omega) ⟨by omega,by omega⟩ hx' (by omega) (by omega) hrb s0 a4 ⟨by omega,by omega⟩
    ·exact lvaR_r2_2 C1 hx (by omega) (by omega) (by omega) hrb s0 a4 ⟨by omega,by omega⟩
   ·have hq:=tv_false hp'
    by_cases b1:v<0
    ·exact lvaR_x2_1 C1 hx b1
    by_cases b2:vars≤v
    ·exact lvaR_x2_2 C1 hx b1 b2
    by_cases h0:0<i
    ·obtain ⟨v',r',hx'⟩:=hp h0
     by_cases b3:v≤v'
     ·exact lvaR_x2_3 C1 hx b1 b2 (by omega) ⟨by omega,by omega⟩ hx' (by omega) b3
     by_cases b4:sgR r.q=0
     ·exact lvaR_x2_4 C1 hx b1 b2 (by omega) ⟨by omega,by omega⟩ hx' (by omega) b3 hrb b4
     refine lvaR_x2_5 C1 hx b1 b2 (by omega) ⟨by omega,by omega⟩ hx' (by omega) b3 hrb b4 fun b5=>hq fun v2 c2 h2=>?_
     rw [hx] at h2;cases h2
     refine ⟨by omega,by omega,fun h=>b4 (sgR_eq_zero.2 h),b5,fun v3 c3 _ h3=>?_⟩
     rw [hx'] at h3;cases h3
     omega
    ·by_cases b4:sgR r.q=0
     ·exact lvaR_x2_6 C1 hx b1 b2 (by omega) hrb b4
     refine lvaR_x2_7 C1 hx b1 b2 (by omega) hrb b4 fun b5=>hq fun v2 c2 h2=>?_
     rw [hx] at h2;cases h2
     exact ⟨by omega,by omega,fun h=>b4 (sgR_eq_zero.2 h),b5,fun v3 c3 h9 h3=>absurd h9 h0⟩)
  (lvaR_x2_8 (by omega))
 by_cases hA:∀i,i<f.1.length→tv (OkTmR f.1 vars i)=true
 ·rw [if_pos hA] at L
  have h:=lvaR_f2 L hkb
  have e:decide (RatV f.2.s f.2.l1 f.2.l2)=tv (OkFR f vars):=by
   by_cases hk:Cn f.2
   ·rw [tv_t ⟨fun i hi=>tv_true (hA i hi),hk⟩];exact decide_eq_true hk
   ·rw [tv_f fun h=>hk h.2];exact decide_eq_false hk
  rw [e] at h
  exact h
 ·rw [if_neg hA] at L
  rw [tv_f fun h=>hA fun i hi=>tv_t (h.1 i hi)]
  exact lvaR_f1 L
theorem lvalidR0_c{n:Nat}{f:FormR}{vars:Int}(hl:LimF f)(hf:FewR f.1 f.2):run n 99 [frV f,.lit (.int .i64 vars)]=some (.lit (.bool (tv (OkFR f vars)))):=
 lvalidRB_c (by have:=hf.1;omega) (fun t ht=>(hf.2.2 t ht).rb (hl.t t ht)) (hf.2.1.rb hl.k)
end
section
open Go.RowKit
attribute [local irreducible] run runL loopG exec
theorem all_ix{α:Type}{L:List α}{P:α→Prop}:(∀i,i<L.length→∀x,L[i]?=some x→P x)↔∀x∈L,P x:=
 ⟨fun h x hx=>by
  obtain ⟨i,hi⟩:=List.mem_iff_getElem?.1 hx
  exact h i (List.getElem?_eq_some_iff.1 hi).1 x hi,fun h i _ x hx=>h x (List.mem_of_getElem? hx)⟩
theorem tv_if{p q:Prop}(h:p↔q):tv p=tv q:=by
 by_cases hp:p
 ·rw [tv_t hp,tv_t (h.1 hp)]
 ·rw [tv_f hp,tv_f fun hq=>hp (h.2 hq)]
theorem tv_one{α:Type}{L:List α}{P:α→Prop}{i:Nat}{x:α}(hx:L[i]?=some x):tv (∀y,L[i]?=some y→P y)=tv (P x):=tv_if ⟨fun h=>h x hx,fun h y hy=>by rw [hx] at hy;cases hy;exact h⟩
theorem ite_all{α β:Type}{L:List α}{P:α→Prop}{a b:β}{inst:Decidable (∀i,i<L.length→tv (∀x,L[i]?=some x→P x)=true)}(h:∀x∈L,P x):@ite β (∀i,i<L.length→tv (∀x,L[i]?=some x→P x)=true) inst a b=a:=if_pos fun i _=>tv_t fun x hx=>h x (List.mem_of_getElem? hx)
theorem ite_not{α β:Type}{L:List α}{P:α→Prop}{a b:β}{inst:Decidable (∀i,i<L.length→tv (∀x,L[i]?=some x→P x)=true)}(h:¬∀x∈L,P x):@ite β (∀i,i<L.length→tv (∀x,L[i]?=some x→P x)=true) inst a b=b:=if_neg fun h2=>h (all_ix.1 fun k hk=>tv_true (h2 k hk))
theorem short_c{n:Nat}{r:Raw}:run n 45 [.agg [.lit (.bool r.s),natA r.l1,natA r.l2]]=some (.lit (.bool (tv (Two r)))):=by
 by_cases h:r.l1.length≤2
 ·have R:=shC_f1 (n:=n) (a0:=r) (by omega)
  by_cases h2:r.l2.length≤2
  ·rw [decide_eq_true (by omega)] at R
   rw [tv_t ⟨h,h2⟩];exact R
  ·rw [decide_eq_false (by omega)] at R
   rw [tv_f fun k=>h2 k.2];exact R
 ·rw [tv_f fun k=>h k.1]
  exact shC_f2 (by omega)
structure FewF (f:FormR):Prop where
 l:f.1.length≤6
 k:Two f.2
 t:∀t∈f.1,Two t.2
structure FewC (c:TClaimR):Prop where
 l:c.Rows.length≤6
 m:Two c.Margin
 f:∀f∈c.Rows,FewF f
theorem few20_c{n:Nat}{c:TClaimR}:run (n+1) 16 [claimRV c]=some (.lit (.bool (tv (FewC c)))):=by
 by_cases h1:6<c.Rows.length
 ·rw [tv_f fun h=>by have:=h.l;omega]
  exact fwC_f1 (by omega)
 have K:=short_c (n:=n) (r:=c.Margin)
 by_cases h2:Two c.Margin
 ·rw [tv_t h2] at K
  have inner:∀(i:Nat) (F:List (Int × Raw)) (r:Raw),c.Rows[i]?=some (F,r)→F.length≤6→loopG Tryz.prog (tab (n+1)) 0 63 (livesOf 16) 9 fwC_C9 (fwC_h9 c i 0)=some (if ∀k,k<F.length→tv (∀t,F[k]?=some t→Two t.2)=true then (.exit 2,fwC_o9b c i) else (.ret,fwC_o9a c i)):=fun i F r hi hF=>
   loopG_all (O:=tab (n+1)) (P:= Tryz.prog) (m:=0) (N:=63) (lives:=livesOf 16) (r:=9) (C:=fwC_C9) (M:=F.length) (enc:=fwC_h9 c i) (p:=fun k=>tv (∀t,F[k]?=some t→Two t.2)) (exN:=.exit 2) (exE:=.ret) (out:=fwC_o9b c i) (outE:=fwC_o9a c i) (by omega) (fun h=>by cases h) (fun h=>by cases h)
    (fun k hk _=>by
     have hx:F[k]?=some F[k]:=List.getElem?_eq_getElem hk
     generalize F[k]=t at hx
     obtain ⟨v,t⟩:=t
     rw [tv_one (P:=fun t:Int × Raw=>Two t.2) hx]
     have K:=short_c (n:=n) (r:=t)
     exact ⟨fun hp=>fwC_r9_1 hi (by omega) hx K hp ⟨by omega,by omega⟩,fun hp=>fwC_x9_1 hi (by omega) hx K hp⟩)
    (fwC_x9_2 hi (by omega))
  have L:=loopG_all (O:=tab (n+1)) (P:= Tryz.prog) (m:=0) (N:=63) (lives:=livesOf 16) (r:=4) (C:=fwC_C4) (M:=c.Rows.length) (enc:=fwC_h4 c) (p:=fun i=>tv (∀f,c.Rows[i]?=some f→FewF f)) (exN:=.exit 0) (exE:=.ret) (out:=fwC_o4b) (outE:=fwC_o4a) (by omega) (fun h=>by cases h) (fun h=>by cases h)
   (fun i hi _=>by
    have hx:c.Rows[i]?=some c.Rows[i]:=List.getElem?_eq_getElem hi
    generalize c.Rows[i]=f at hx
    obtain ⟨F,r⟩:=f
    rw [tv_one (P:=fun f:FormR=>FewF f) hx]
    have K:=short_c (n:=n) (r:=r)
    by_cases a1:6<F.length
    ·refine ⟨fun hp=>absurd (tv_true hp).l (by dsimp only;omega),fun _=>fwC_x4_1 (by omega) hx (by omega)⟩
    by_cases a2:Two r
    ·rw [tv_t a2] at K
     have I:=inner i F r hx (by omega)
     by_cases a3:∀t∈F,Two t.2
     ·rw [ite_all (P:=fun t:Int × Raw=>Two t.2) a3] at I
      have e:FewF (F,r):=⟨by dsimp only;omega,a2,a3⟩
      refine ⟨fun _=>fwC_r4_1 (by omega) hx (by omega) K rfl I ⟨by omega,by omega⟩,fun hp=>absurd e (tv_false hp)⟩
     ·rw [ite_not (P:=fun t:Int × Raw=>Two t.2) a3] at I
      exact ⟨fun hp=>absurd (tv_true hp).t a3,fun _=>fwC_x4_3 (by omega) hx (by omega) K rfl I⟩
    ·rw [tv_f a2] at K
     exact ⟨fun hp=>absurd (tv_true hp).k a2,fun _=>fwC_x4_2 (by omega) hx (by omega) K rfl⟩)
   (fwC_x4_4 (by omega))
  by_cases hA:∀f∈c.Rows,FewF f
  ·rw [ite_all (P:=fun f:FormR=>FewF f) hA] at L
   rw [tv_t ⟨by omega,h2,hA⟩]
   exact fwC_f4 (by omega) K rfl L
  ·rw [ite_not (P:=fun f:FormR=>FewF f) hA] at L
   rw [tv_f fun h=>hA h.f]
   exact fwC_f3 (by omega) K rfl L
 ·rw [tv_f h2] at K
  rw [tv_f fun h=>h2 h.m]
  exact fwC_f2 (by omega) K rfl
structure LimC (c:TClaimR):Prop where
 m:LimR2 c.Margin
 f:∀f∈c.Rows,LimF f
def OkK(c:TClaimR)(z:Int):Prop:=(c.Kind=1∧0≤c.Target∧c.Target<z∧c.Rows=[])∨(c.Kind=2∧c.Target=0∧1≤c.Rows.length∧∀f∈c.Rows,OkFR f z)
structure OkClR (c:TClaimR) (z:Int):Prop where
 z0:1≤z
 z1:z≤256
 m:Cn c.Margin
 m0:¬sgR c.Margin.q<0
 k:OkK c z
structure Good (c:TClaimR):Prop where
 B:RawB c.Margin
 l:c.Rows.length≤6
 f:∀f∈c.Rows,LimF f
 w:∀f∈c.Rows,FewF f
theorem good_of{c:TClaimR}(hl:LimC c)(hf:FewC c):Good c:=⟨hf.m.rb hl.m,hf.l,hl.f,hf.f⟩
theorem fewFR{f:FormR}(h:FewF f):FewR f.1 f.2:=⟨by have:=h.l;omega,h.k,h.t⟩
section
variable {n : Nat} {c : TClaimR} {z : Int}
theorem cvc_c{f:FormR}(hl:LimF f)(hf:FewF f):run (n+1) 98 [frV f,.mem [.lit (.int .i64 z)]]=some (.lit (.bool (!tv (OkFR f z)))):=cvcR_f1 (lvalidR0_c (n:=n) hl (fewFR hf))
theorem cif_c{L:List FormR}(hl:L.length≤6)(hL:∀f∈L,LimF f)(hf:∀f∈L,FewF f):∃r:Int,run (n+2) 159 [.sl 4 (L.map formRC),.clo 98 [.mem [.lit (.int .i64 z)]]]=some (.lit (.int .i64 r))∧(0≤r↔¬∀f∈L,OkFR f z):=by
 obtain ⟨ex,t,h1,h2⟩:=loopG_Q (β:=Unit) (P:= Tryz.prog) (O:=tab (n+2)) (m:=0) (N:=19) (lives:=livesOf 159) (r:=2) (C:=ifgR_C2) (M:=L.length) (enc:=fun i _=>ifgR_h2 L z i)
  (fun i _=>∀j f,j<i→L[j]?=some f→OkFR f z) (fun ex t=>(ex=.exit 0∧t=ifgR_o2b∧∀f∈L,OkFR f z)∨(ex=.ret∧∃i:Nat,t=ifgR_o2a i∧¬∀f∈L,OkFR f z)) () (fun j f hj=>by omega) (by omega)
  (fun i b hi hI=>by
   have hx:L[i]?=some L[i]:=List.getElem?_eq_getElem hi
   generalize L[i]=f at hx
   have hm:=List.mem_of_getElem? hx
   have K:=cvc_c (n:=n) (z:=z) (hL f hm) (hf f hm)
   by_cases h:OkFR f z
   ·rw [tv_t h] at K
    refine .inl ⟨(),ifgR_r2_1 (by omega) hx K rfl ⟨by omega,by omega⟩,fun j g hj hg=>?_⟩
    rcases Nat.lt_succ_iff_lt_or_eq.1 hj with h2|rfl
    ·exact hI j g h2 hg
    ·rw [hx] at hg;cases hg;exact h
   ·rw [tv_f h] at K
    exact .inr ⟨_,_,by simp,ifgR_x2_1 (by omega) hx K rfl,.inr ⟨rfl,i,rfl,fun h2=>h (h2 f hm)⟩⟩)
  (fun b hI=>⟨_,_,by simp,ifgR_x2_2 (by omega),.inl ⟨rfl,rfl,fun f hf=>by
   obtain ⟨j,hj⟩:=List.mem_iff_getElem?.1 hf
   exact hI j f (List.getElem?_eq_some_iff.1 hj).1 hj⟩⟩)
 rcases h2 with ⟨rfl,rfl,h3⟩|⟨rfl,i,rfl,h3⟩
 ·exact ⟨-1,ifgR_f2 h1,fun h=>by omega,fun h=>absurd h3 h⟩
 ·exact ⟨(i:Int),ifgR_f1 h1,fun _=>h3,fun _=>by omega⟩
theorem cvs_c{L:List FormR}(hl:L.length≤6)(hL:∀f∈L,LimF f)(hf:∀f∈L,FewF f):run (n+3) 97 [.sl 4 (L.map formRC),.clo 98 [.mem [.lit (.int .i64 z)]]]=some (.lit (.bool (!tv (∀f∈L,OkFR f z)))):=by
 obtain ⟨r,h1,h2⟩:=cif_c (n:=n) (z:=z) hl hL hf
 have h3:=cfgR_f1 (n:=n) h1
 rw [h3]
 by_cases h:∀f∈L,OkFR f z
 ·rw [tv_t h,decide_eq_false (fun h4=>(h2.1 h4) h)];rfl
 ·rw [tv_f h,decide_eq_true (h2.2 h)];rfl
theorem vls_c{L:List FormR}(hl:L.length≤6)(hL:∀f∈L,LimF f)(hf:∀f∈L,FewF f):run (n+1) 55 [.sl 4 (L.map formRC),.lit (.int .i64 z)]=some (.lit (.bool (tv (∀f∈L,OkFR f z)))):=by
 have hG:=loopG_all (O:=tab (n+1)) (P:= Tryz.prog) (m:=0) (N:=19) (lives:=livesOf 55) (r:=2) (C:=vlR_C2) (M:=L.length) (enc:=vlR_h2 L z) (p:=fun i=>tv (∀f,L[i]?=some f→OkFR f z)) (exN:=.exit 0) (exE:=.ret) (out:=vlR_o2b) (outE:=vlR_o2a) (by omega) (by simp) (by simp)
  (fun i hi hI=>by
   have hx:L[i]?=some L[i]:=List.getElem?_eq_getElem hi
   generalize L[i]=f at hx
   have hm:=List.mem_of_getElem? hx
   have K:=validR_c (n:=n) (vars:=z) (hL f hm) (fewFR (hf f hm))
   rw [tv_one (P:=fun f:FormR=>OkFR f z) hx]
   exact ⟨fun hp=>vlR_r2_1 (by omega) hx K hp ⟨by omega,by omega⟩,fun hp=>vlR_x2_1 (by omega) hx K hp⟩)
  (vlR_x2_2 (by omega))
 by_cases h:∀f∈L,OkFR f z
 ·rw [ite_all (P:=fun f:FormR=>OkFR f z) h] at hG
  rw [tv_t h]
  exact vlR_f2 hG
 ·rw [ite_not (P:=fun f:FormR=>OkFR f z) h] at hG
  rw [tv_f h]
  exact vlR_f1 hG
theorem len0{α:Type}{l:List α}:(((l.length:Int)==0))=tv (l=[]):=by
 cases l with
 | nil=>rw [tv_t rfl];rfl
 | cons a l=>
   rw [tv_f (by simp)]
   have:¬(((a::l).length:Int)=0):=by simp;omega
   simpa using this
theorem cvalidG(hg:Good c):run (n+4) 44 [claimRV c,.lit (.int .i64 z)]=some (.lit (.bool (tv (OkClR c z)))):=by
 have hB:=hg.B
 have h6:=hg.l
 by_cases c1:z<1
 ·rw [tv_f (fun h=>by have:=h.z0;omega)];exact cvR_f1 c1
 by_cases c2:256<z
 ·rw [tv_f (fun h=>by have:=h.z1;omega)];exact cvR_f2 c1 c2
 by_cases c3:Cn c.Margin
 rotate_left
 ·rw [tv_f (fun h=>c3 h.m)];exact cvR_f3 c1 c2 hB c3
 by_cases c4:sgR c.Margin.q<0
 ·rw [tv_f (fun h=>h.m0 c4)];exact cvR_f4 c1 c2 hB c3 c4
 have red:∀{q:Prop},(OkK c z↔q)→tv (OkClR c z)=tv q:=fun h=>tv_if ⟨fun k=>h.1 k.k,fun k=>⟨by omega,by omega,c3,c4,h.2 k⟩⟩
 by_cases c5:c.Kind=1
 ·by_cases c6:0≤c.Target
  ·by_cases c7:c.Target<z
   ·have R:=cvR_f5 (n:=n) c1 c2 hB c3 c4 c5 c6 c7
    rw [len0] at R
    rw [red (q:=c.Rows=[]) ⟨fun h=>by rcases h with h|h;exact h.2.2.2;omega,fun h=>.inl ⟨c5,c6,c7,h⟩⟩]
    exact R
   ·rw [red (q:=False) ⟨fun h=>by rcases h with h|h <;>omega,False.elim⟩,tv_f id]
    exact cvR_f6 c1 c2 hB c3 c4 c5 c6 c7
  ·rw [red (q:=False) ⟨fun h=>by rcases h with h|h <;>omega,False.elim⟩,tv_f id]
   exact cvR_f7 c1 c2 hB c3 c4 c5 c6
 by_cases c6:c.Kind=2
 ·by_cases c7:c.Target=0
  ·by_cases c8:1≤(c.Rows.length:Int)
   ·have R:=cvR_f8 (n:=n) c1 c2 hB c3 c4 c5 c6 c7 c8 (by omega) (cvs_c (n:=n) (z:=z) h6 hg.f hg.w)
    rw [Bool.not_not] at R
    rw [red (q:=∀f∈c.Rows,OkFR f z) ⟨fun h=>by rcases h with h|h;omega;exact h.2.2.2,fun h=>.inr ⟨c6,c7,by omega,h⟩⟩]
    exact R
   ·rw [red (q:=False) ⟨fun h=>by rcases h with h|h <;>omega,False.elim⟩,tv_f id]
    exact cvR_f10 c1 c2 hB c3 c4 c5 c6 c7 c8
  ·rw [red (q:=False) ⟨fun h=>by rcases h with h|h <;>omega,False.elim⟩,tv_f id]
   exact cvR_f11 c1 c2 hB c3 c4 c5 c6 c7
 ·rw [red (q:=False) ⟨fun h=>by rcases h with h|h <;>omega,False.elim⟩,tv_f id]
  exact cvR_f12 c1 c2 hB c3 c4 c5 c6
theorem cvalid_c(hl:LimC c)(hf:FewC c):run (n+4) 44 [claimRV c,.lit (.int .i64 z)]=some (.lit (.bool (tv (OkClR c z)))):=cvalidG (good_of hl hf)
theorem fvalidG(hg:Good c):run (n+2) 20 [claimRV c,.lit (.int .i64 z)]=some (.lit (.bool (tv (OkClR c z)))):=by
 have hB:=hg.B
 have h6:=hg.l
 by_cases c1:z<1
 ·rw [tv_f (fun h=>by have:=h.z0;omega)];exact fVR_f1 c1
 by_cases c2:256<z
 ·rw [tv_f (fun h=>by have:=h.z1;omega)];exact fVR_f2 c1 c2
 by_cases c3:Cn c.Margin
 rotate_left
 ·rw [tv_f (fun h=>c3 h.m)];exact fVR_f3 c1 c2 hB c3
 by_cases c4:sgR c.Margin.q<0
 ·rw [tv_f (fun h=>h.m0 c4)];exact fVR_f4 c1 c2 hB c3 c4
 have red:∀{q:Prop},(OkK c z↔q)→tv (OkClR c z)=tv q:=fun h=>tv_if ⟨fun k=>h.1 k.k,fun k=>⟨by omega,by omega,c3,c4,h.2 k⟩⟩
 by_cases c5:c.Kind=1
 ·by_cases c6:0≤c.Target
  ·by_cases c7:c.Target<z
   ·have R:=fVR_f5 (n:=n) c1 c2 hB c3 c4 c5 c6 c7
    rw [len0] at R
    rw [red (q:=c.Rows=[]) ⟨fun h=>by rcases h with h|h;exact h.2.2.2;omega,fun h=>.inl ⟨c5,c6,c7,h⟩⟩]
    exact R
   ·rw [red (q:=False) ⟨fun h=>by rcases h with h|h <;>omega,False.elim⟩,tv_f id]
    exact fVR_f6 c1 c2 hB c3 c4 c5 c6 c7
  ·rw [red (q:=False) ⟨fun h=>by rcases h with h|h <;>omega,False.elim⟩,tv_f id]
   exact fVR_f7 c1 c2 hB c3 c4 c5 c6
 by_cases c6:c.Kind=2
 ·by_cases c7:c.Target=0
  ·by_cases c8:1≤(c.Rows.length:Int)
   ·have R:=fVR_f8 (n:=n) c1 c2 hB c3 c4 c5 c6 c7 c8 (by omega) (vls_c (n:=n) (z:=z) h6 hg.f hg.w)
    rw [red (q:=∀f∈c.Rows,OkFR f z) ⟨fun h=>by rcases h with h|h;omega;exact h.2.2.2,fun h=>.inr ⟨c6,c7,by omega,h⟩⟩]
    exact R
   ·rw [red (q:=False) ⟨fun h=>by rcases h with h|h <;>omega,False.elim⟩,tv_f id]
    exact fVR_f10 c1 c2 hB c3 c4 c5 c6 c7 c8
  ·rw [red (q:=False) ⟨fun h=>by rcases h with h|h <;>omega,False.elim⟩,tv_f id]
   exact fVR_f11 c1 c2 hB c3 c4 c5 c6 c7
 ·rw [red (q:=False) ⟨fun h=>by rcases h with h|h <;>omega,False.elim⟩,tv_f id]
  exact fVR_f12 c1 c2 hB c3 c4 c5 c6
theorem fvalid20_c(hl:LimC c)(hf:FewC c):run (n+2) 20 [claimRV c,.lit (.int .i64 z)]=some (.lit (.bool (tv (OkClR c z)))):=fvalidG (good_of hl hf)
end
structure SmFC (f:Form) (z:Int):Prop where
 l:f.1.length≤6
 t:∀t∈f.1,H t.2≤2
 k:H f.2≤2
 ok:OkFm f z
structure SmC (c:TClaim) (z:Int):Prop where
 z0:1≤z
 z1:z≤256
 m:H c.Margin≤8
 m0:0≤c.Margin
 l:c.Rows.length≤6
 f:∀f∈c.Rows,SmFC f z
 k:(c.Kind=1∧0≤c.Target∧c.Target<z∧c.Rows=[])∨(c.Kind=2∧c.Target=0∧1≤c.Rows.length)
def unC(c:TClaimR):TClaim:=⟨c.Kind,c.Target,c.Margin.q,c.Rows.map unR⟩
theorem claim_canonG{c:TClaimR}{z:Int}(hf:Good c)(hH:H c.Margin.q≤8)(ho:OkClR c z):claimRV c=claimV (unC c)∧SmC (unC c) z:=by
 have hr:∀f∈c.Rows,OkFR f z:=by
  rcases ho.k with h|h
  ·rw [h.2.2.2];exact fun f hf=>by cases hf
  ·exact h.2.2.2
 have hs:∀f∈c.Rows,frV f=formV (unR f)∧SmFC (unR f) z:=fun f h=>by
  have h2:=hf.w f h
  obtain ⟨a,b,d,e,g⟩:=small_formB (m:=2) (by omega) (fun t ht=>h2.t t ht) h2.k (hr f h)
  exact ⟨a,by rw [b];exact h2.l,d,e,g⟩
 have em:c.Margin=rawQ c.Margin.q:=ho.m.raw
 refine ⟨?_,ho.z0,ho.z1,hH,?_,by simp [unC];exact hf.l,fun f h=>?_,?_⟩
 ·have e:c.Rows.map formRC=(c.Rows.map unR).map formC:=by
   rw [List.map_map]
   apply List.map_congr_left
   intro f h
   have:=(hs f h).1
   simp only [frV,formV,AV.agg.injEq] at this
   exact this
  obtain ⟨k,t,m,rs⟩:=c
  dsimp only at em e
  simp only [claimRV,claimV,unC]
  rw [e,←em]
 ·have:=ho.m0
  show 0≤c.Margin.q
  exact sgq_nonneg.1 (Int.not_lt.1 this)
 ·obtain ⟨g,hg,rfl⟩:=List.mem_map.1 h
  exact (hs g hg).2
 ·rcases ho.k with h|h
  ·exact .inl ⟨h.1,h.2.1,h.2.2.1,by simp [unC,h.2.2.2]⟩
  ·exact .inr ⟨h.1,h.2.1,by simp [unC];exact h.2.2.1⟩
theorem claim_canon{c:TClaimR}{z:Int}(hl:LimC c)(hf:FewC c)(ho:OkClR c z):claimRV c=claimV (unC c)∧SmC (unC c) z:=claim_canonG (good_of hl hf) (by have:=ho.m.H hf.m;omega) ho
end
section
open Go.RowKit
def InR(k:Nat)(F:List (Int × Rat)):Prop:=∀t∈F,0≤t.1∧t.1<(k:Int)
theorem InR.app{k:Nat}{F G:List (Int × Rat)}(h:InR k F)(g:InR k G):InR k (F++G):=fun t ht=>(List.mem_append.1 ht).elim (h t) (g t)
theorem InR.put{k:Nat}{v:Int}{q:Rat}(h:0≤v∧v<(k:Int)):InR k (put1 v q):=fun t ht=>by
 obtain ⟨rfl,_⟩:=put1_mem ht
 exact h
theorem InR.plus{k:Nat}{v:Int}{c:Rat}(hv:0≤v∧v<(k:Int)):∀{d:Bool} {F:List (Int × Rat)},InR k F→InR k (plusV d F v c)
 | d,[],_=>by
   rw [plusV]
   split
   ·exact fun t ht=>by cases ht
   ·exact InR.put hv
 | d,t::F,h=>by
   have ht:0≤t.1∧t.1<(k:Int):=h t (by simp)
   have hF:InR k F:=fun u hu=>h u (by simp [hu])
   rw [plusV]
   split
   ·exact (InR.put ht).app (InR.plus hv hF)
   ·split
    ·exact (InR.put hv).app ((InR.put ht).app (InR.plus hv hF))
    ·exact (InR.put ht).app (InR.plus hv hF)
theorem InR.add{k:Nat}:∀{G F:List (Int × Rat)},InR k F→InR k G→InR k (addV F G)
 | [],F,h,_=>h
 | t::G,F,h,g=>by
   have e:addV F (t::G)=addV (plusV false F t.1 t.2) G:=rfl
   rw [e]
   exact InR.add (InR.plus (g t (by simp)) h) fun u hu=>g u (by simp [hu])
theorem TmB.add{b:Nat}:∀{G F:List (Int × Rat)} {m:Nat},TmB m F→TmB b G→TmB (m+(b+1)*G.length) (addV F G)
 | [],F,m,h,_=>h
 | t::G,F,m,h,g=>by
   have e:addV F (t::G)=addV (plusV false F t.1 t.2) G:=rfl
   rw [e]
   refine (TmB.add (TmB.plus (g t (by simp)).2 h) fun u hu=>g u (by simp [hu])).mono ?_
   rw [List.length_cons,Nat.mul_add]
   omega
theorem TmB.bd{m:Nat}{f:Form}(h:TmB m f.1)(hl:f.1.length≤100000000)(hk:H f.2≤m):BdF m f:=⟨hl,fun t ht=>(h t ht).2,hk⟩
end
section
open Go.RowKit
noncomputable def feq_C4:Code:=(loopsOf (bodyOf Tryz.f126)).getD 0 .skip
def feq_h4(a0:Form)(a1:Form)(i_4:Nat):St:=
 ⟨[(2,.ptr 0 0),(3,.ptr 1 0),(5,.lit (.int .i64 (i_4:Int)))],
  [(0,some (.box 79 [.sl 4 (a0.1.map termC),.lit (.bool (rawQ a0.2).s),natA (rawQ a0.2).l1,natA (rawQ a0.2).l2] false)),
   (1,some (.box 79 [.sl 4 (a1.1.map termC),.lit (.bool (rawQ a1.2).s),natA (rawQ a1.2).l1,natA (rawQ a1.2).l2] false))],2⟩
def feq_o4a:St:=
 ⟨[(4,.lit (.bool false))],
  [],0⟩
def feq_o4b:St:=
 ⟨[(4,.any)],
  [],0⟩
section
variable {q5 : Rat} {n : Nat} {i_4 : Nat} {v5 : Int} {a1 : Form} {a0 : Form} {v6 : Int} {q6 : Rat}
section
variable(C1:(i_4:Int)<(a0.1.length:Int))(E2:a0.1[i_4]?=some (v5,q5))(E3:a1.1[i_4]?=some (v6,q6))
include C1 E2 E3
theorem feq_r4_1(C4:v5=v6)(B5a:H q5≤17179869184)(B5b:H q6≤17179869184)(C6:q5=q6)(W7:InI ((i_4:Int)+1)):
  Cont 0 (exec Tryz.prog (tab n) 0 57 (livesOf 126) big feq_C4) (livesOf 126 4) (feq_h4 a0 a1 i_4) (feq_h4 a0 a1 (i_4+1)):=by
 have C1_:i_4<a0.1.length:=by omega
 obtain ⟨EL2,EG2⟩:=List.getElem?_eq_some_iff.1 E2
 obtain ⟨EL3,EG3⟩:=List.getElem?_eq_some_iff.1 E3
 have C4_:(v5==v6)=true:=by rw [C4];simp
 have C4_n:(v5 !=v6)=false:=by rw [C4];simp
 have K5:=r_same (p:=q5) (q:=q6) B5a B5b
 have C6_:decide (q5=q6)=true:=decide_eq_true C6
 have W7_:IntKind.i64.wrap ((i_4:Int)+1)=(i_4:Int)+1:=wr64 W7.1 W7.2
 unfold Cont
 simp+decide [feq_h4,loopsOf, Tryz.f126,feq_C4,C1,C1_,EL2,EG2,E2,EL3,EG3,E3,C4_,C4_n,K5,C6_,W7_]
theorem feq_x4_1(C4:¬v5=v6):
  Leave 0 (exec Tryz.prog (tab n) 0 57 (livesOf 126) big feq_C4) (livesOf 126 (outOf 4)) (feq_h4 a0 a1 i_4) (.ret) (feq_o4a):=by
 have C1_:i_4<a0.1.length:=by omega
 obtain ⟨EL2,EG2⟩:=List.getElem?_eq_some_iff.1 E2
 obtain ⟨EL3,EG3⟩:=List.getElem?_eq_some_iff.1 E3
 have C4_:(v5==v6)=false:=by simpa using C4
 have C4_n:(v5 !=v6)=true:=by simpa using C4
 unfold Leave
 simp+decide [feq_h4,loopsOf, Tryz.f126,feq_o4a,feq_C4,C1,C1_,EL2,EG2,E2,EL3,EG3,E3,C4_,C4_n]
theorem feq_x4_2(C4:v5=v6)(B5a:H q5≤17179869184)(B5b:H q6≤17179869184)(C6:¬(q5=q6)):
  Leave 0 (exec Tryz.prog (tab n) 0 57 (livesOf 126) big feq_C4) (livesOf 126 (outOf 4)) (feq_h4 a0 a1 i_4) (.ret) (feq_o4a):=by
 have C1_:i_4<a0.1.length:=by omega
 obtain ⟨EL2,EG2⟩:=List.getElem?_eq_some_iff.1 E2
 obtain ⟨EL3,EG3⟩:=List.getElem?_eq_some_iff.1 E3
 have C4_:(v5==v6)=true:=by rw [C4];simp
 have C4_n:(v5 !=v6)=false:=by rw [C4];simp
 have K5:=r_same (p:=q5) (q:=q6) B5a B5b
 unfold Leave
 simp+decide [feq_h4,loopsOf, Tryz.f126,feq_o4a,feq_C4,C1,C1_,EL2,EG2,E2,EL3,EG3,E3,C4_,C4_n,K5,C6]
end
theorem feq_x4_3(C1:¬(i_4:Int)<(a0.1.length:Int)):
  Leave 0 (exec Tryz.prog (tab n) 0 57 (livesOf 126) big feq_C4) (livesOf 126 (outOf 4)) (feq_h4 a0 a1 i_4) (.exit 0) (feq_o4b):=by
 have C1_:¬i_4<a0.1.length:=by omega
 unfold Leave
 simp+decide [feq_h4,loopsOf, Tryz.f126,feq_o4b,feq_C4,C1,C1_]
theorem feq_f1(C1:¬(a0.1.length:Int)=(a1.1.length:Int)):
  run n 126 [formV a0,formV a1]=some (.lit (.bool false)):=by
 have C1_:((a0.1.length:Int)==(a1.1.length:Int))=false:=by simpa using C1
 have C1_n:((a0.1.length:Int) !=(a1.1.length:Int))=true:=by simpa using C1
 unfold run fnP
 simp+decide [Tryz.f126,C1_,C1_n]
section
variable(C1:(a0.1.length:Int)=(a1.1.length:Int))(B2a:H a0.2≤17179869184)(B2b:H a1.2≤17179869184)
include C1 B2a B2b
theorem feq_f2(C3:¬(a0.2=a1.2)):
  run n 126 [formV a0,formV a1]=some (.lit (.bool false)):=by
 have C1_:((a0.1.length:Int)==(a1.1.length:Int))=true:=by rw [C1];simp
 have C1_n:((a0.1.length:Int) !=(a1.1.length:Int))=false:=by rw [C1];simp
 have K2:=r_same (p:=a0.2) (q:=a1.2) B2a B2b
 unfold run fnP
 simp+decide [Tryz.f126,C1_,C1_n,K2,C3]
theorem feq_f3(C3:a0.2=a1.2)(L4:loopG Tryz.prog (tab n) 0 57 (livesOf 126) 4 feq_C4 (feq_h4 a0 a1 0)=some (.ret,feq_o4a)):
  run n 126 [formV a0,formV a1]=some (.lit (.bool false)):=by
 have C1_:((a0.1.length:Int)==(a1.1.length:Int))=true:=by rw [C1];simp
 have C1_n:((a0.1.length:Int) !=(a1.1.length:Int))=false:=by rw [C1];simp
 have K2:=r_same (p:=a0.2) (q:=a1.2) B2a B2b
 have C3_:decide (a0.2=a1.2)=true:=decide_eq_true C3
 unfold run fnP
 simp+decide [Tryz.f126,C1_,C1_n,K2,C3_]
 rw [loopX_G (C':=feq_C4) (e:=(feq_h4 a0 a1 0)) ?_ ?_,L4]
 rotate_left
 ·kernel_rfl
 ·simp+decide [feq_h4,C1_,C1_n,K2,C3_]
 simp+decide [feq_o4a,C1_,C1_n,K2,C3_]
theorem feq_f4(C3:a0.2=a1.2)(L4:loopG Tryz.prog (tab n) 0 57 (livesOf 126) 4 feq_C4 (feq_h4 a0 a1 0)=some (.exit 0,feq_o4b)):
  run n 126 [formV a0,formV a1]=some (.lit (.bool true)):=by
 have C1_:((a0.1.length:Int)==(a1.1.length:Int))=true:=by rw [C1];simp
 have C1_n:((a0.1.length:Int) !=(a1.1.length:Int))=false:=by rw [C1];simp
 have K2:=r_same (p:=a0.2) (q:=a1.2) B2a B2b
 have C3_:decide (a0.2=a1.2)=true:=decide_eq_true C3
 unfold run fnP
 simp+decide [Tryz.f126,C1_,C1_n,K2,C3_]
 rw [loopX_G (C':=feq_C4) (e:=(feq_h4 a0 a1 0)) ?_ ?_,L4]
 rotate_left
 ·kernel_rfl
 ·simp+decide [feq_h4,C1_,C1_n,K2,C3_]
 simp+decide [feq_o4b,C1_,C1_n,K2,C3_]
end
end
noncomputable def fea_C4:Code:=(loopsOf (bodyOf Tryz.f63)).getD 0 .skip
def fea_h4(a0:List Form)(a1:List Form)(i_4:Nat):St:=
 ⟨[(0,.sl 4 (a0.map formC)),(1,.sl 4 (a1.map formC)),(5,.lit (.int .i64 (i_4:Int)))],
  [],0⟩
def fea_o4b:St:=
 ⟨[(4,.any)],
  [],0⟩
section
variable{q5:Rat}{r3:Bool}{n:Nat}{F6:List (Int × Rat)}{i_4:Nat}{a1:List Form}{a0:List Form}{q6:Rat}{F5:List (Int × Rat)}
theorem fea_r4_1(C1:(i_4:Int)<(a0.length:Int))(E2:a0[i_4]?=some (F5,q5))(E3:a1[i_4]?=some (F6,q6))(K4:run n 126 [formV (F5,q5),formV (F6,q6)]=some (.lit (.bool r3)))(C5:r3=true)(W6:InI ((i_4:Int)+1)):
  Cont 0 (exec Tryz.prog (tab (n+1)) 0 27 (livesOf 63) big fea_C4) (livesOf 63 4) (fea_h4 a0 a1 i_4) (fea_h4 a0 a1 (i_4+1)):=by
 have C1_:i_4<a0.length:=by omega
 obtain ⟨EL2,EG2⟩:=List.getElem?_eq_some_iff.1 E2
 obtain ⟨EL3,EG3⟩:=List.getElem?_eq_some_iff.1 E3
 simp only [formV] at K4
 have W6_:IntKind.i64.wrap ((i_4:Int)+1)=(i_4:Int)+1:=wr64 W6.1 W6.2
 unfold Cont
 simp+decide [fea_h4,loopsOf, Tryz.f63,fea_C4,C1,C1_,EL2,EG2,E2,EL3,EG3,E3,K4,C5,W6_]
theorem fea_x4_2(C1:¬(i_4:Int)<(a0.length:Int)):
  Leave 0 (exec Tryz.prog (tab (n+1)) 0 27 (livesOf 63) big fea_C4) (livesOf 63 (outOf 4)) (fea_h4 a0 a1 i_4) (.exit 0) (fea_o4b):=by
 have C1_:¬i_4<a0.length:=by omega
 unfold Leave
 simp+decide [fea_h4,loopsOf, Tryz.f63,fea_o4b,fea_C4,C1,C1_]
theorem fea_f3(C1:(a0.length:Int)=(a1.length:Int))(L2:loopG Tryz.prog (tab (n+1)) 0 27 (livesOf 63) 4 fea_C4 (fea_h4 a0 a1 0)=some (.exit 0,fea_o4b)):
  run (n+1) 63 [.sl 4 (a0.map formC),.sl 4 (a1.map formC)]=some (.lit (.bool true)):=by
 have C1_:((a0.length:Int)==(a1.length:Int))=true:=by rw [C1];simp
 have C1_n:((a0.length:Int) !=(a1.length:Int))=false:=by rw [C1];simp
 unfold run fnP
 simp+decide [Tryz.f63,C1_,C1_n]
 rw [loopX_G (C':=fea_C4) (e:=(fea_h4 a0 a1 0)) ?_ ?_,L2]
 rotate_left
 ·kernel_rfl
 ·simp+decide [fea_h4,C1_,C1_n]
 simp+decide [fea_o4b,C1_,C1_n]
end
end
section
open Go.RowKit
attribute [local irreducible] run runL loopG exec
theorem list_all{α:Type}{l m:List α}(hl:l.length=m.length):(∀i,i<l.length→l[i]?=m[i]?)→l=m:=fun h=>by
 apply List.ext_getElem?
 intro i
 rcases Nat.lt_or_ge i l.length with hi|hi
 ·exact h i hi
 ·rw [List.getElem?_eq_none hi,List.getElem?_eq_none (by omega)]
theorem feq_c{n:Nat}{f g:Form}(hf:BdF 17179869184 f)(hg:BdF 17179869184 g):run n 126 [formV f,formV g]=some (.lit (.bool (tv (f=g)))):=by
 have l1:=hf.l
 have l2:=hg.l
 by_cases hl:f.1.length=g.1.length
 ·by_cases hk:f.2=g.2
  ·have L:=loopG_all (O:=tab n) (P:= Tryz.prog) (m:=0) (N:=57) (lives:=livesOf 126) (r:=4) (C:=feq_C4) (M:=f.1.length) (enc:=feq_h4 f g) (p:=fun i=>tv (f.1[i]?=g.1[i]?)) (exN:=.exit 0) (exE:=.ret) (out:=feq_o4b) (outE:=feq_o4a) (by omega) (fun h=>by cases h) (fun h=>by cases h)
    (fun i hi _=>by
     have hx:f.1[i]?=some f.1[i]:=List.getElem?_eq_getElem hi
     have hy:g.1[i]?=some (g.1[i]'(by omega)):=List.getElem?_eq_getElem _
     obtain ⟨t,ht⟩:∃t,f.1[i]=t:=⟨_,rfl⟩
     obtain ⟨u,hu⟩:∃u,(g.1[i]'(by omega))=u:=⟨_,rfl⟩
     rw [ht] at hx
     rw [hu] at hy
     obtain ⟨v,q⟩:=t
     obtain ⟨v',q'⟩:=u
     have hq:=hf.t _ (List.mem_of_getElem? hx)
     have hq':=hg.t _ (List.mem_of_getElem? hy)
     dsimp only at hq hq'
     refine ⟨fun hp=>?_,fun hp=>?_⟩
     ·have hp:=tv_true hp
      rw [hx,hy] at hp
      cases hp
      exact feq_r4_1 (by omega) hx hy rfl hq hq' rfl ⟨by omega,by omega⟩
     ·have hp:=tv_false hp
      rw [hx,hy] at hp
      by_cases e1:v=v'
      ·exact feq_x4_2 (by omega) hx hy e1 hq hq' fun e2=>hp (by rw [e1,e2])
      ·exact feq_x4_1 (by omega) hx hy e1)
    (feq_x4_3 (by omega))
   by_cases hA:∀i,i<f.1.length→tv (f.1[i]?=g.1[i]?)=true
   ·rw [if_pos hA] at L
    rw [tv_t (Prod.ext (list_all hl fun i hi=>tv_true (hA i hi)) hk)]
    exact feq_f4 (by omega) hf.k hg.k hk L
   ·rw [if_neg hA] at L
    rw [tv_f fun h=>hA fun i hi=>tv_t (by rw [h])]
    exact feq_f3 (by omega) hf.k hg.k hk L
  ·rw [tv_f fun h=>hk (by rw [h])]
   exact feq_f2 (by omega) hf.k hg.k hk
 ·rw [tv_f fun h=>hl (by rw [h])]
  exact feq_f1 (by omega)
end
section
open Go.RowKit
attribute [local irreducible] run runL loopG exec
structure SB (m j:Nat) (f:Form):Prop where
 s:Srt f.1
 t:TmB m f.1
 k:H f.2≤m
 l:f.1.length≤j
theorem SB.bd{m k:Nat}{f:Form}(h:SB m k f)(hm:m≤17179869184)(hk:k≤100000000):BdF 17179869184 f:=⟨by have:=h.l;omega,fun t ht=>by have:=(h.t t ht).2;omega,by have:=h.k;omega⟩
theorem SB.mono{m k m' k':Nat}{f:Form}(h:SB m k f)(hm:m≤m')(hk:k≤k'):SB m' k' f:=⟨h.s,TmB.mono h.t hm,by have:=h.k;omega,by have:=h.l;omega⟩
def subF(f g:Form):Form:=(addV f.1 (sclV g.1 (-1)),f.2-g.2)
def numF(q:Rat):Form:=([],q)
theorem num_e(q:Rat):formV (numF q)=.agg [.sl 4 [],.lit (.bool (rawQ q).s),natA (rawQ q).l1,natA (rawQ q).l2]:=by simp [numF]
theorem nbr_c{n:Nat}(q:Rat):run n 54 [ratV q]=some (formV (numF q)):=by rw [num_e];exact nbr_f1
theorem SmFC.sb{f:Form}{z:Int}(h:SmFC f z):SB 2 6 f:=⟨h.ok.srt.1,fun t ht=>⟨h.ok.srt.1.2 t ht,h.t t ht⟩,h.k,h.l⟩
section
variable {n : Nat} {c : TClaim} {z : Int}
theorem map_fold{α β:Type}(g:α→β):∀(R:List α) (i:Nat) (o:List β),foldI (fun _ o x=>o++[g x]) i o R=o++R.map g
 | [],_,o=>by simp [foldI]
 | x::R,i,o=>by rw [foldI,map_fold g R];simp
end
end
section
open Go.RowKit
attribute [local irreducible] run runL loopG exec
theorem fm_sb{L:List UInt8}(hL:L.length≤80):SB 8300 81 (fmF L).1:=by
 have hz:SB 8300 81 (([],0):Form):=⟨Srt.nil,fun t ht=>(by cases ht),by show H 0≤_;have:H 0≤1:=by decide
                                                                       omega,by simp⟩
 by_cases h0:(120:UInt8)∈L
 ·have e:fmF L=(([],0),false):=by unfold fmF;rw [if_pos h0]
  rw [e];exact hz
 ·cases h:psT (L.map (swp 121 120)) with
  | error r=>
    have e:fmF L=(([],0),false):=by unfold fmF;rw [if_neg h0,h]
    rw [e];exact hz
  | ok g=>
    have e:fmF L=(g,true):=by unfold fmF;rw [if_neg h0,h]
    obtain ⟨j,h1,h2⟩:=psT_rdl (L:=L.map (swp 121 120)) (by rw [List.length_map];omega) h
    rw [List.length_map] at h1
    rw [e]
    exact ⟨h2.s,TmB.mono h2.t (by omega),by have:=h2.c;show H g.2≤_;omega,by have:=h2.l;show g.1.length≤_;omega⟩
theorem subp_big{n m k b j:Nat}{f g:Form}(hf:SB m k f)(hg:SB b j g)(hm:m≤8300)(hb:b≤8300)(hk:k≤1000)(hj:j≤81):run (n+2) 92 [formV f,formV g]=some (formV (subF f g)):=by
 have h1:H (-1)≤1:=by decide+kernel
 have k1:=hf.k
 have k2:=hg.k
 have l1:=hf.l
 have l2:=hg.l
 have D:=psub_c (n:=n) (f:=f) (g:=g) (b:=10000) (fun t ht=>by have:=(hf.t t ht).2;omega) (fun t ht=>by have:=(hg.t t ht).2;omega) (by omega) (by omega) (by omega) (by omega) (by omega)
 rw [merge_add hf.s hg.s] at D
 exact D
def rwF(L:List UInt8):Except Nat Form:=
 if spF L<0 then .error 0
 else if (fmF (L.take (spF L).toNat)).2=false then .error 0
 else if (fmF (L.drop ((spF L).toNat+2))).2=false then .error ((spF L).toNat+2)
 else .ok (if L[(spF L).toNat]?=some 60 then subF (fmF (L.drop ((spF L).toNat+2))).1 (fmF (L.take (spF L).toNat)).1 else subF (fmF (L.take (spF L).toNat)).1 (fmF (L.drop ((spF L).toNat+2))).1)
theorem rw_at{L:List UInt8}{i:Nat}(h:spF L=(i:Int)):rwF L=if (fmF (L.take i)).2=false then .error 0 else if (fmF (L.drop (i+2))).2=false then .error (i+2) else .ok (if L[i]?=some 60 then subF (fmF (L.drop (i+2))).1 (fmF (L.take i)).1 else subF (fmF (L.take i)).1 (fmF (L.drop (i+2))).1):=by
 unfold rwF
 rw [h,if_neg (by omega)]
 rfl
end
section
open Go.RowKit Go.Lib
def pcs:List UInt8→List (List UInt8)
 | []=>[[]]
 | c::l=>if c=59 then []::pcs l else match pcs l with
   | []=>[[c]]
   | p::ps=>(c::p)::ps
theorem splitK_hit'{s:List UInt8}{k i:Nat}(h:index s [59]=(i:Int)):splitK [59] 0 (k+1) s=s.take i::splitK [59] 0 k (s.drop (i+1)):=by
 rw [splitK,if_neg (by rw [h];simp),h]
 rfl
theorem splitK_pcs:∀(s:List UInt8),splitK [59] 0 (s.count 59) s=pcs s
 | []=>by simp [splitK,pcs]
 | x::l=>by
   have ih:=splitK_pcs l
   by_cases h:x=59
   ·subst h
    rw [List.count_cons_self,splitK_hit' (i:=0) (index_eq 59 l)]
    unfold pcs
    rw [if_pos rfl,←ih]
    rfl
   ·rw [List.count_cons_of_ne h]
    unfold pcs
    rw [if_neg h,←ih]
    cases hk:l.count 59 with
    | zero=>simp [splitK]
    | succ k=>
      obtain ⟨i,hi⟩:=index_of_count (s:=l) (old:=[59]) (by rw [count_one];omega)
      rw [splitK_hit' (k:=k) hi,splitK_hit' (s:=x::l) (k:=k) (i:=i+1) (by
       rw [index_ne h,hi,if_neg (by simp)];rfl)]
      simp only [List.take_succ_cons,List.drop_succ_cons]
theorem countB_59(L:List UInt8):countB (bs L) ⟨#[59]⟩=L.count 59:=by
 show count (bs L).data.toList [59]=_
 rw [bs_data,count_one]
theorem splitB_pcs(L:List UInt8):splitB ⟨#[59]⟩ 0 (countB (bs L) ⟨#[59]⟩) (bs L)=(pcs L).map bs:=by
 have h:=splitB_data ⟨#[59]⟩ 0 (countB (bs L) ⟨#[59]⟩) (bs L)
 rw [countB_59,bs_data] at h
 rw [countB_59]
 have h2:(splitB ⟨#[59]⟩ 0 (L.count 59) (bs L)).map (fun x=>x.data.toList)=pcs L:=h.trans (splitK_pcs L)
 rw [←h2,List.map_map]
 have e:(bs ∘ fun x:ByteArray=>x.data.toList)=id:=by funext x;exact bs_self x
 rw [e,List.map_id]
theorem split59_c{L:List UInt8}(hL:L.length≤100000):oSplit [.lit (.string (bs L)),.lit (.string (⟨#[59]⟩:ByteArray))]=some (.sl 1 (((pcs L).map bs).map strC)):=by
 unfold oSplit
 dsimp only
 rw [if_pos ⟨by rw [bs_size];omega,by decide⟩,splitB_pcs]
 rfl
end
section
open Go.RowKit
attribute [local irreducible] run runL loopG exec
theorem pcs_len:∀(L:List UInt8),(pcs L).length≤L.length+1∧∀p∈pcs L,p.length≤L.length
 | []=>by simp [pcs]
 | c::l=>by
   have ih:=pcs_len l
   unfold pcs
   by_cases h:c=59
   ·rw [if_pos h]
    refine ⟨by simp only [List.length_cons];omega,fun p hp=>?_⟩
    rcases List.mem_cons.1 hp with rfl|hp
    ·simp
    ·have:=ih.2 p hp;rw [List.length_cons];omega
   ·rw [if_neg h]
    cases hk:pcs l with
    | nil=>exact ⟨by simp,fun p hp=>by rw [List.mem_singleton.1 hp];simp⟩
    | cons q ps=>
      rw [hk] at ih
      dsimp only
      refine ⟨by have:=ih.1;simp only [List.length_cons] at this ⊢;omega,fun p hp=>?_⟩
      rcases List.mem_cons.1 hp with rfl|hp
      ·have:=ih.2 q List.mem_cons_self;simp only [List.length_cons];omega
      ·have:=ih.2 p (List.mem_cons_of_mem _ hp);simp only [List.length_cons];omega
def rwsF:Nat→List Form→List (List UInt8)→Except Nat (List Form)
 | _,out,[]=>.ok out
 | a,out,p::ps=>match rwF p with
   | .error e=>.error (a+e)
   | .ok f=>rwsF (a+p.length+1) (out++[f]) ps
def rwsR:Except Nat (List Form)→AV
 | .ok fs=>.tup [.sl 4 (fs.map formC),.lit (.int .i64 0),.lit (.bool true)]
 | .error e=>.tup [.sl 4 [],.lit (.int .i64 (e:Nat)),.lit (.bool false)]
def GoodP(p:List UInt8):Prop:=p.length≤900∧∀k:Nat,spF p=(k:Int)→SB 8300 81 (fmF (p.take k)).1∧SB 8300 81 (fmF (p.drop (k+2))).1
theorem goodP_80{p:List UInt8}(h:p.length≤80):GoodP p:=⟨by omega,fun k _=>⟨fm_sb (by rw [List.length_take];omega),fm_sb (by rw [List.length_drop];omega)⟩⟩
theorem crows_g{n:Nat}{L:List UInt8}(hL:L.length≤100000)(hG:∀p∈pcs L,GoodP p):run (n+13) 60 [.lit (.string (bs L))]=some (rwsR (rwsF 0 [] (pcs L))):=by
 have K1:=split59_c (L:=L) (by omega)
 have q1:=(pcs_len L).1
 generalize pcs L=ps at K1 q1 hG ⊢
 have hlen:(ps.map bs).length=ps.length:=List.length_map ..
 obtain ⟨ex,t,h1,h2⟩:=loopG_Q (β:=List Form × Nat) (P:= Tryz.prog) (O:=tab (n+13)) (m:=0) (N:=68) (lives:=livesOf 60) (r:=4) (C:=crw_C4) (M:=ps.length) (enc:=fun i b=>crw_h4 b.1 (b.2:Nat) (ps.map bs) i)
  (fun i b=>rwsF b.2 b.1 (ps.drop i)=rwsF 0 [] ps∧b.1.length≤i∧b.2≤901*i) (fun ex t=>(ex=.ret∧∃(z:Nat) (out:List Form),t=crw_o4a (z:Nat) out∧rwsF 0 [] ps=.error z)∨(ex=.ret∧∃(z k:Nat) (out:List Form),t=crw_o4b (z:Nat) (k:Nat) out∧rwsF 0 [] ps=.error (z+(k+2)))∨(ex=.exit 0∧∃out,t=crw_o4c out∧rwsF 0 [] ps=.ok out)) ([],0) ⟨rfl,by simp,by simp⟩ (by omega)
  (fun i b hi hI=>by
   obtain ⟨out,a⟩:=b
   obtain ⟨hI,hI2,hI3⟩:=hI
   dsimp only at hI hI2 hI3 ⊢
   have hd:=List.drop_eq_getElem_cons hi
   have hx:ps[i]?=some ps[i]:=List.getElem?_eq_getElem hi
   have hm:ps[i]∈ps:=List.getElem_mem hi
   generalize ps[i]=p at hd hx hm
   obtain ⟨hp,hsb⟩:=hG p hm
   rw [hd,rwsF] at hI
   have C1:(i:Int)<((ps.map bs).length:Int):=by rw [hlen];omega
   have E2:(ps.map bs)[i]?=some (bs p):=by rw [List.getElem?_map,hx];rfl
   have hs:(bs p).size=p.length:=bs_size _
   have K3:=split_c (n:=n+8) (L:=p) (by omega)
   rcases sp_spec p with ⟨h,_⟩|⟨k,h,hc,_⟩
   ·have er:rwF p=.error 0:=by unfold rwF;rw [h,if_pos (by decide)]
    rw [er] at hI
    exact .inr ⟨_,_,by simp,crw_x4_1 C1 E2 K3 (by omega),.inl ⟨rfl,a,out,rfl,hI.symm⟩⟩
   have hk:k+1<p.length:=(List.getElem?_eq_some_iff.1 hc.1).1
   have hr:=rw_at h
   rw [h] at K3
   have C4:¬(k:Int)<0:=by omega
   have U5:0≤0∧0≤(k:Int)∧(k:Int)≤((bs p).size:Int):=⟨by omega,by omega,by omega⟩
   have D5:bs (p.take k)=(bs p).extract 0 (k:Int).toNat:=(bs_to p k).symm
   have K6:=form_c (n:=n) (L:=p.take k) (by rw [List.length_take];omega)
   obtain ⟨sA,sB⟩:=hsb k h
   cases f1:(fmF (p.take k)).2 with
   | false=>
     rw [hr,if_pos f1] at hI
     exact .inr ⟨_,_,by simp,crw_x4_2 C1 E2 K3 C4 U5 D5 K6 f1,.inl ⟨rfl,a,out,rfl,hI.symm⟩⟩
   | true=>
   have W8:InI ((k:Int)+2):=⟨by omega,by omega⟩
   have U9:0≤(k:Int)+2∧(k:Int)+2≤((bs p).size:Int)∧((bs p).size:Int)≤((bs p).size:Int):=⟨by omega,by omega,by omega⟩
   have D9:bs (p.drop (k+2))=(bs p).extract ((k:Int)+2).toNat (bs p).size:=(bs_from p (k+2)).symm
   have K10:=form_c (n:=n) (L:=p.drop (k+2)) (by rw [List.length_drop];omega)
   cases f2:(fmF (p.drop (k+2))).2 with
   | false=>
     rw [hr,if_neg (by rw [f1];simp),if_pos f2] at hI
     exact .inr ⟨_,_,by simp,crw_x4_3 C1 E2 K3 C4 U5 D5 K6 f1 W8 U9 D9 K10 f2 ⟨by omega,by omega⟩ ⟨by omega,by omega⟩,.inr (.inl ⟨rfl,a,k,out,rfl,hI.symm⟩)⟩
   | true=>
   obtain ⟨b3,e3⟩:∃x,p[k]?=some x:=⟨_,List.getElem?_eq_getElem (by omega)⟩
   have E12:(bs p)[(k:Int).toNat]?=some b3:=by rw [bs_at];exact e3
   have W16:InI (((bs p).size:Int)+1):=⟨by omega,by omega⟩
   have W17:InI ((a:Int)+(((bs p).size:Int)+1)):=⟨by omega,by omega⟩
   have W18:InI ((i:Int)+1):=⟨by omega,by omega⟩
   have ea:(a:Int)+(((bs p).size:Int)+1)=((a+p.length+1:Nat):Int):=by omega
   have b60:(b3.toNat:Int)=60↔b3=60:=⟨fun h=>UInt8.toNat_inj.1 (by show b3.toNat=60;omega),fun h=>by rw [h];rfl⟩
   rw [hr,if_neg (by rw [f1];simp),if_neg (by rw [f2];simp)] at hI
   by_cases c:b3=60
   ·rw [if_pos (by rw [e3,c])] at hI
    have R:=crw_r4_1 (n:=n) (out_4:=out) (i_4:=(a:Nat)) C1 E2 K3 C4 U5 D5 K6 f1 W8 U9 D9 K10 f2 E12 (by omega) (b60.2 c) (subp_big (n:=n+10) sB sA (by omega) (by omega) (by omega) (by omega)) (by omega) W16 W17 W18
    rw [ea] at R
    exact .inl ⟨(_,_),R,hI,by rw [List.length_append,List.length_singleton];omega,by omega⟩
   ·rw [if_neg (by rw [e3];exact fun h=>c (Option.some.inj h))] at hI
    have R:=crw_r4_2 (n:=n) (out_4:=out) (i_4:=(a:Nat)) C1 E2 K3 C4 U5 D5 K6 f1 W8 U9 D9 K10 f2 E12 (by omega) (fun h=>c (b60.1 h)) (subp_big (n:=n+10) sA sB (by omega) (by omega) (by omega) (by omega)) (by omega) W16 W17 W18
    rw [ea] at R
    exact .inl ⟨(_,_),R,hI,by rw [List.length_append,List.length_singleton];omega,by omega⟩)
  (fun b hI=>by
   obtain ⟨out,a⟩:=b
   obtain ⟨hI,_,_⟩:=hI
   dsimp only at hI
   rw [List.drop_length] at hI
   exact ⟨_,_,by simp,crw_x4_4 (by rw [hlen];omega),.inr (.inr ⟨rfl,out,rfl,hI.symm⟩)⟩)
 rcases h2 with ⟨rfl,z,out,rfl,h3⟩|⟨rfl,z,k,out,rfl,h3⟩|⟨rfl,out,rfl,h3⟩
 ·rw [h3];exact crw_f1 K1 h1
 ·rw [h3,crw_f2 K1 h1]
  unfold rwsR
  have e:(z:Int)+(k:Int)+2=((z+(k+2):Nat):Int):=by omega
  rw [e]
 ·rw [h3];exact crw_f3 K1 h1
end
end Go.Proofs.YtnegdhjdienjlaaGreatDoor
