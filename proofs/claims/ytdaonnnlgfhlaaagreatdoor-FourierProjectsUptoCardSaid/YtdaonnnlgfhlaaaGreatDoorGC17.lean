import Derived.Test.YtdaonnnlgfhlaaaGreatDoorGC16
set_option linter.all false
set_option maxHeartbeats 6400000
set_option maxRecDepth 100000
namespace Go.Proofs.YtdaonnnlgfhlaaaGreatDoor
section
open Go.RowKit
noncomputable def ev_C3:Code:=(loopsOf (bodyOf Tryz.f12)).getD 0 .skip
def ev_h3(a0:Form)(a1:List Rat)(i_3:Nat)(s_3:Rat):St:=
 ⟨[(1,.sl 3 (a1.map ratC)),(2,.ptr 0 0),(4,.ptr 1 0),(6,.ptr 2 0),(7,.lit (.int .i64 (i_3:Int)))],
  [(0,some (.box 28 [.sl 4 (a0.1.map termC),.lit (.bool (rawQ a0.2).s),natA (rawQ a0.2).l1,natA (rawQ a0.2).l2] false)),
   (1,some (.box 26 [.lit (.bool false),.nl 1,.nl 1] false)),
   (2,some (.box 26 [.lit (.bool (rawQ s_3).s),natA (rawQ s_3).l1,natA (rawQ s_3).l2] false))],3⟩
def ev_o3a(s_3:Rat):St:=
 ⟨[(4,.ptr 0 0),(5,.lit (.int .i64 2)),(6,.ptr 1 0)],
  [(0,some (.box 26 [.lit (.bool false),.nl 1,.nl 1] false)),
   (1,some (.box 26 [.lit (.bool (rawQ s_3).s),natA (rawQ s_3).l1,natA (rawQ s_3).l2] false))],2⟩
def ev_o3b(s_3:Rat):St:=
 ⟨[(4,.ptr 0 0),(5,.any),(6,.ptr 1 0)],
  [(0,some (.box 26 [.lit (.bool false),.nl 1,.nl 1] false)),
   (1,some (.box 26 [.lit (.bool (rawQ s_3).s),natA (rawQ s_3).l1,natA (rawQ s_3).l2] false))],2⟩
section
variable {a0 : Form} {a1 : List Rat} {i_3 : Nat} {v3 : Int} {n : Nat} {x3 : Rat} {s_3 : Rat} {q3 : Rat}
section
variable(C1:(i_3:Int)<(a0.1.length:Int))(E2:a0.1[i_3]?=some (v3,q3))
include C1 E2
theorem ev_r3_1(C3:¬v3<0)(C4:¬(a1.length:Int)≤v3)(E5:a1[v3.toNat]?=some x3)(Z5:0≤v3)(B6a:H q3≤17179869184)(B6b:H x3≤17179869184)(B7a:H s_3≤17179869184)(B7b:H (q3*x3)≤17179869184)(W8:InI ((i_3:Int)+1)):
  Cont 0 (exec Tryz.prog (tab n) 0 45 (livesOf 12) big ev_C3) (livesOf 12 3) (ev_h3 a0 a1 i_3 s_3) (ev_h3 a0 a1 (i_3+1) (s_3+(q3*x3))):=by
 have C1_:i_3<a0.1.length:=by omega
 obtain ⟨EL2,EG2⟩:=List.getElem?_eq_some_iff.1 E2
 obtain ⟨EL5,EG5⟩:=List.getElem?_eq_some_iff.1 E5
 have K6:=r_mul (p:=q3) (q:=x3) B6a B6b
 have K7:=r_add (p:=s_3) (q:=q3*x3) B7a B7b
 have W8_:IntKind.i64.wrap ((i_3:Int)+1)=(i_3:Int)+1:=wr64 W8.1 W8.2
 unfold Cont
 simp+decide [ev_h3,loopsOf, Tryz.f12,ev_C3,C1,C1_,EL2,EG2,E2,C3,C4,EL5,EG5,E5,Z5,K6,K7,W8_]
theorem ev_x3_1(C3:v3<0):
  Leave 0 (exec Tryz.prog (tab n) 0 45 (livesOf 12) big ev_C3) (livesOf 12 (outOf 3)) (ev_h3 a0 a1 i_3 s_3) (.ret) (ev_o3a s_3):=by
 have C1_:i_3<a0.1.length:=by omega
 obtain ⟨EL2,EG2⟩:=List.getElem?_eq_some_iff.1 E2
 unfold Leave
 simp+decide [ev_h3,loopsOf, Tryz.f12,ev_o3a,ev_C3,C1,C1_,EL2,EG2,E2,C3]
theorem ev_x3_2(C3:¬v3<0)(C4:(a1.length:Int)≤v3):
  Leave 0 (exec Tryz.prog (tab n) 0 45 (livesOf 12) big ev_C3) (livesOf 12 (outOf 3)) (ev_h3 a0 a1 i_3 s_3) (.ret) (ev_o3a s_3):=by
 have C1_:i_3<a0.1.length:=by omega
 obtain ⟨EL2,EG2⟩:=List.getElem?_eq_some_iff.1 E2
 unfold Leave
 simp+decide [ev_h3,loopsOf, Tryz.f12,ev_o3a,ev_C3,C1,C1_,EL2,EG2,E2,C3,C4]
end
theorem ev_x3_3(C1:¬(i_3:Int)<(a0.1.length:Int)):
  Leave 0 (exec Tryz.prog (tab n) 0 45 (livesOf 12) big ev_C3) (livesOf 12 (outOf 3)) (ev_h3 a0 a1 i_3 s_3) (.exit 0) (ev_o3b s_3):=by
 have C1_:¬i_3<a0.1.length:=by omega
 unfold Leave
 simp+decide [ev_h3,loopsOf, Tryz.f12,ev_o3b,ev_C3,C1,C1_]
theorem ev_f1(L1:loopG Tryz.prog (tab n) 0 45 (livesOf 12) 3 ev_C3 (ev_h3 a0 a1 0 a0.2)=some (.ret,ev_o3a s_3)):
  run n 12 [formV a0,.sl 3 (a1.map ratC)]=some (.tup [.agg [.lit (.bool false),.sl 1 [],.sl 1 []],.lit (.int .i64 2)]):=by
 unfold run fnP
 simp+decide [Tryz.f12]
 rw [loopX_G (C':=ev_C3) (e:=(ev_h3 a0 a1 0 a0.2)) ?_ ?_,L1]
 rotate_left
 ·kernel_rfl
 ·simp+decide [ev_h3]
 simp+decide [ev_o3a]
theorem ev_f2(L1:loopG Tryz.prog (tab n) 0 45 (livesOf 12) 3 ev_C3 (ev_h3 a0 a1 0 a0.2)=some (.exit 0,ev_o3b s_3)):
  run n 12 [formV a0,.sl 3 (a1.map ratC)]=some (.tup [ratV s_3,.lit (.int .i64 0)]):=by
 unfold run fnP
 simp+decide [Tryz.f12]
 rw [loopX_G (C':=ev_C3) (e:=(ev_h3 a0 a1 0 a0.2)) ?_ ?_,L1]
 rotate_left
 ·kernel_rfl
 ·simp+decide [ev_h3]
 simp+decide [ev_o3b]
end
end
section
open Go.RowKit
end
section
open Go.RowKit
end
section
open Go.RowKit
end
section
open Go.RowKit
end
section
open Go.RowKit
attribute [local irreducible] run runL loopG exec
noncomputable def tv(p:Prop):Bool:=@decide p (Classical.propDecidable p)
theorem tv_t{p:Prop}(h:p):tv p=true:=@decide_eq_true p (Classical.propDecidable p) h
theorem tv_f{p:Prop}(h:¬p):tv p=false:=@decide_eq_false p (Classical.propDecidable p) h
theorem tv_true{p:Prop}(h:tv p=true):p:=@of_decide_eq_true p (Classical.propDecidable p) h
theorem tv_false{p:Prop}(h:tv p=false):¬p:=@of_decide_eq_false p (Classical.propDecidable p) h
def OkTm(F:List (Int × Rat))(vars:Int)(i:Nat):Prop:=∀v c,F[i]?=some (v,c)→0≤v∧v<vars∧c≠0∧∀v' c',0<i→F[i-1]?=some (v',c')→v'<v
def OkFm(f:Form)(vars:Int):Prop:=∀i,i<f.1.length→OkTm f.1 vars i
structure BdF (b:Nat) (f:Form):Prop where
 l:f.1.length≤100000000
 t:∀t∈f.1,H t.2≤b
 k:H f.2≤b
theorem BdF.mono{b c:Nat}{f:Form}(h:BdF b f)(hb:b≤c):BdF c f:=⟨h.l,fun t ht=>Nat.le_trans (h.t t ht) hb,Nat.le_trans h.k hb⟩
end
section
open Go.RowKit
attribute [local irreducible] run runL loopG exec
def evF(X:List Rat)(i:Nat)(s:Rat)(t:Int × Rat):Except Rat Rat:=
 if t.1<0∨(X.length:Int)≤t.1 then .error s else .ok (s+t.2*X.getD t.1.toNat 0)
theorem evF_ok{X:List Rat}:∀{F:List (Int × Rat)} (i:Nat) (s:Rat),(∀t∈F,0≤t.1∧t.1<(X.length:Int))→foldE (evF X) i s F=.ok (F.foldl (fun s t=>s+t.2*X.getD t.1.toNat 0) s)
 | [],i,s,_=>rfl
 | t::F,i,s,h=>by
   have h1:=h t List.mem_cons_self
   have e:evF X i s t=.ok (s+t.2*X.getD t.1.toNat 0):=if_neg (by omega)
   rw [foldE,e,List.foldl_cons]
   exact evF_ok (i+1) _ fun u hu=>h u (List.mem_cons_of_mem _ hu)
def evR(X:List Rat)(f:Form):AV:=
 match foldE (evF X) 0 f.2 f.1 with
 | .ok s=>.tup [ratV s,.lit (.int .i64 0)]
 | .error _=>.tup [.agg [.lit (.bool false),.sl 1 [],.sl 1 []],.lit (.int .i64 2)]
theorem eval_c{n:Nat}{f:Form}{X:List Rat}{a b k:Nat}(ha:∀t∈f.1,H t.2≤a)(hb:∀q∈X,H q≤b)(hk:H f.2≤k)(hX:X.length≤100000000)(hF:f.1.length≤100000000)(hs:k+f.1.length*(a+b+1)≤17179869184)(hab:a+b≤17179869184):
  run n 12 [formV f,.sl 3 (X.map ratC)]=some (evR X f)∧∀s,foldE (evF X) 0 f.2 f.1=.ok s→H s≤k+f.1.length*(a+b+1):=by
 have L:=loopG_E (O:=tab n) (P:= Tryz.prog) (m:=0) (N:=45) (lives:=livesOf 12) (r:=3) (C:=ev_C3) (L:=f.1) (f:=evF X) (enc:=fun i s=>ev_h3 f X i s) (exN:=.exit 0) (exE:=.ret) (out:=ev_o3b) (outE:=ev_o3a) (Inv:=fun i s=>H s≤k+i*(a+b+1)∧i≤f.1.length) f.2 ⟨by omega,by omega⟩ (by omega) (by simp) (by simp)
  (fun i t s hi hI=>by
   obtain ⟨v,c⟩:=t
   obtain ⟨hI,hle⟩:=hI
   have hlt:=(List.getElem?_eq_some_iff.1 hi).1
   have hm:(i+1)*(a+b+1)≤f.1.length*(a+b+1):=Nat.mul_le_mul_right _ hlt
   rw [Nat.add_mul,Nat.one_mul] at hm
   have C1:(i:Int)<(f.1.length:Int):=by omega
   have W:InI ((i:Int)+1):=⟨by omega,by omega⟩
   unfold evF
   by_cases hv:v<0∨(X.length:Int)≤v
   ·rw [if_pos hv]
    by_cases h0:v<0
    ·exact ev_x3_1 C1 hi h0
    ·exact ev_x3_2 C1 hi h0 (by omega)
   ·rw [if_neg hv]
    have hl:v.toNat<X.length:=by omega
    have h1:X[v.toNat]?=some (X.getD v.toNat 0):=by rw [List.getD_eq_getElem?_getD,List.getElem?_eq_getElem hl];rfl
    have hc:H c≤a:=ha _ (List.mem_of_getElem? hi)
    have hq:H (X.getD v.toNat 0)≤b:=hb _ (List.mem_of_getElem? h1)
    have h2:=H_mul c (X.getD v.toNat 0)
    have h3:=H_add s (c*X.getD v.toNat 0)
    dsimp only
    refine ⟨ev_r3_1 C1 hi (by omega) (by omega) h1 (by omega) (by omega) (by omega) (by omega) (by omega) W,?_,hlt⟩
    rw [Nat.add_mul,Nat.one_mul]
    omega)
  (fun b hI=>ev_x3_3 (by omega))
 refine ⟨?_,fun s hs'=>(L.2 s hs').1⟩
 unfold evR
 cases hE:foldE (evF X) 0 f.2 f.1 with
 | ok s=>rw [hE] at L;exact ev_f2 L.1
 | error s=>rw [hE] at L;exact ev_f1 L.1
end
section
open Go.RowKit
noncomputable def vaR_C2:Code:=(loopsOf (bodyOf Tryz.f21)).getD 0 .skip
def vaR_h2(a0:FormR)(a1:Int)(i_2:Nat):St:=
 ⟨[(1,.lit (.int .i64 a1)),(2,.ptr 0 0),(5,.lit (.int .i64 (i_2:Int)))],
  [(0,some (.box 28 [.sl 4 (a0.1.map termRC),.lit (.bool a0.2.s),natA a0.2.l1,natA a0.2.l2] false))],1⟩
def vaR_o2a(a0:FormR):St:=
 ⟨[(2,.ptr 0 0),(4,.lit (.bool false))],
  [(0,some (.box 28 [.sl 4 (a0.1.map termRC),.lit (.bool a0.2.s),natA a0.2.l1,natA a0.2.l2] false))],1⟩
def vaR_o2b(a0:FormR):St:=
 ⟨[(2,.ptr 0 0),(4,.any)],
  [(0,some (.box 28 [.sl 4 (a0.1.map termRC),.lit (.bool a0.2.s),natA a0.2.l1,natA a0.2.l2] false))],1⟩
section
variable {r4 : Raw} {v4 : Int} {a0 : FormR} {v5 : Int} {r5 : Raw} {a1 : Int} {i_2 : Nat} {n : Nat}
section
variable(C1:(i_2:Int)<(a0.1.length:Int))(E2:a0.1[i_2]?=some (v4,r4))
include C1 E2
theorem vaR_r2_1(C3:¬v4<0)(C4:¬a1≤v4)(C5:0<(i_2:Int))(W6:InI ((i_2:Int)-1))(E7:a0.1[i_2-1]?=some (v5,r5))(Z7:1≤i_2)(C8:¬v4≤v5)(B9a:RawB r4)(C10:¬sgR r4.q=0)(C12:RatV r4.s r4.l1 r4.l2)(W13:InI ((i_2:Int)+1)):
  Cont 0 (exec Tryz.prog (tab n) 0 59 (livesOf 21) big vaR_C2) (livesOf 21 2) (vaR_h2 a0 a1 i_2) (vaR_h2 a0 a1 (i_2+1)):=by
 have C1_:i_2<a0.1.length:=by omega
 obtain ⟨EL2,EG2⟩:=List.getElem?_eq_some_iff.1 E2
 have C5_:0<i_2:=by omega
 have C5_z:(i_2:Int)≠0:=by omega
 have C5_e:((i_2:Int)==0)=false:=by simpa using C5_z
 have C5_g:((i_2:Int) !=0)=true:=by simpa using C5_z
 have W6_:IntKind.i64.wrap ((i_2:Int)-1)=(i_2:Int)-1:=wr64 W6.1 W6.2
 obtain ⟨EL7,EG7⟩:=List.getElem?_eq_some_iff.1 E7
 have Z7_0:(1:Int)≤(i_2:Int):=by omega
 have Z7_1:0≤(i_2:Int)-1:=by omega
 have K9:=rr_sign B9a
 have C10_:(sgR r4.q==0)=false:=by simpa using C10
 have C10_n:(sgR r4.q !=0)=true:=by simpa using C10
 have K11:=rr_valid B9a
 have W13_:IntKind.i64.wrap ((i_2:Int)+1)=(i_2:Int)+1:=wr64 W13.1 W13.2
 unfold Cont
 simp+decide [vaR_h2,loopsOf, Tryz.f21,vaR_C2,C1,C1_,EL2,EG2,E2,C3,C4,C5,C5_,C5_e,C5_g,W6_,EL7,EG7,E7,Z7,Z7_0,Z7_1,C8,K9,C10_,C10_n,K11,C12,W13_]
theorem vaR_r2_2(C3:¬v4<0)(C4:¬a1≤v4)(C5:¬0<(i_2:Int))(B6a:RawB r4)(C7:¬sgR r4.q=0)(C9:RatV r4.s r4.l1 r4.l2)(W10:InI ((i_2:Int)+1)):
  Cont 0 (exec Tryz.prog (tab n) 0 59 (livesOf 21) big vaR_C2) (livesOf 21 2) (vaR_h2 a0 a1 i_2) (vaR_h2 a0 a1 (i_2+1)):=by
 have C1_:i_2<a0.1.length:=by omega
 obtain ⟨EL2,EG2⟩:=List.getElem?_eq_some_iff.1 E2
 have C5_:¬0<i_2:=by omega
 have C5_z:(i_2:Int)=0:=by omega
 have C5_e:((i_2:Int)==0)=true:=by rw [C5_z];simp
 have C5_g:((i_2:Int) !=0)=false:=by rw [C5_z];simp
 have K6:=rr_sign B6a
 have C7_:(sgR r4.q==0)=false:=by simpa using C7
 have C7_n:(sgR r4.q !=0)=true:=by simpa using C7
 have K8:=rr_valid B6a
 have W10_:IntKind.i64.wrap ((i_2:Int)+1)=(i_2:Int)+1:=wr64 W10.1 W10.2
 unfold Cont
 simp+decide [vaR_h2,loopsOf, Tryz.f21,vaR_C2,C1,C1_,EL2,EG2,E2,C3,C4,C5,C5_,C5_e,C5_g,K6,C7_,C7_n,K8,C9,W10_]
theorem vaR_x2_1(C3:v4<0):
  Leave 0 (exec Tryz.prog (tab n) 0 59 (livesOf 21) big vaR_C2) (livesOf 21 (outOf 2)) (vaR_h2 a0 a1 i_2) (.ret) (vaR_o2a a0):=by
 have C1_:i_2<a0.1.length:=by omega
 obtain ⟨EL2,EG2⟩:=List.getElem?_eq_some_iff.1 E2
 unfold Leave
 simp+decide [vaR_h2,loopsOf, Tryz.f21,vaR_o2a,vaR_C2,C1,C1_,EL2,EG2,E2,C3]
theorem vaR_x2_2(C3:¬v4<0)(C4:a1≤v4):
  Leave 0 (exec Tryz.prog (tab n) 0 59 (livesOf 21) big vaR_C2) (livesOf 21 (outOf 2)) (vaR_h2 a0 a1 i_2) (.ret) (vaR_o2a a0):=by
 have C1_:i_2<a0.1.length:=by omega
 obtain ⟨EL2,EG2⟩:=List.getElem?_eq_some_iff.1 E2
 unfold Leave
 simp+decide [vaR_h2,loopsOf, Tryz.f21,vaR_o2a,vaR_C2,C1,C1_,EL2,EG2,E2,C3,C4]
section
variable(C3:¬v4<0)(C4:¬a1≤v4)
include C3 C4
section
variable(C5:0<(i_2:Int))(W6:InI ((i_2:Int)-1))(E7:a0.1[i_2-1]?=some (v5,r5))(Z7:1≤i_2)
include C5 W6 E7 Z7
theorem vaR_x2_3(C8:v4≤v5):
  Leave 0 (exec Tryz.prog (tab n) 0 59 (livesOf 21) big vaR_C2) (livesOf 21 (outOf 2)) (vaR_h2 a0 a1 i_2) (.ret) (vaR_o2a a0):=by
 have C1_:i_2<a0.1.length:=by omega
 obtain ⟨EL2,EG2⟩:=List.getElem?_eq_some_iff.1 E2
 have C5_:0<i_2:=by omega
 have C5_z:(i_2:Int)≠0:=by omega
 have C5_e:((i_2:Int)==0)=false:=by simpa using C5_z
 have C5_g:((i_2:Int) !=0)=true:=by simpa using C5_z
 have W6_:IntKind.i64.wrap ((i_2:Int)-1)=(i_2:Int)-1:=wr64 W6.1 W6.2
 obtain ⟨EL7,EG7⟩:=List.getElem?_eq_some_iff.1 E7
 have Z7_0:(1:Int)≤(i_2:Int):=by omega
 have Z7_1:0≤(i_2:Int)-1:=by omega
 unfold Leave
 simp+decide [vaR_h2,loopsOf, Tryz.f21,vaR_o2a,vaR_C2,C1,C1_,EL2,EG2,E2,C3,C4,C5,C5_,C5_e,C5_g,W6_,EL7,EG7,E7,Z7,Z7_0,Z7_1,C8]
theorem vaR_x2_4(C8:¬v4≤v5)(B9a:RawB r4)(C10:sgR r4.q=0):
  Leave 0 (exec Tryz.prog (tab n) 0 59 (livesOf 21) big vaR_C2) (livesOf 21 (outOf 2)) (vaR_h2 a0 a1 i_2) (.ret) (vaR_o2a a0):=by
 have C1_:i_2<a0.1.length:=by omega
 obtain ⟨EL2,EG2⟩:=List.getElem?_eq_some_iff.1 E2
 have C5_:0<i_2:=by omega
 have C5_z:(i_2:Int)≠0:=by omega
 have C5_e:((i_2:Int)==0)=false:=by simpa using C5_z
 have C5_g:((i_2:Int) !=0)=true:=by simpa using C5_z
 have W6_:IntKind.i64.wrap ((i_2:Int)-1)=(i_2:Int)-1:=wr64 W6.1 W6.2
 obtain ⟨EL7,EG7⟩:=List.getElem?_eq_some_iff.1 E7
 have Z7_0:(1:Int)≤(i_2:Int):=by omega
 have Z7_1:0≤(i_2:Int)-1:=by omega
 have K9:=rr_sign B9a
 have C10_:(sgR r4.q==0)=true:=by rw [C10];simp
 have C10_n:(sgR r4.q !=0)=false:=by rw [C10];simp
 unfold Leave
 simp+decide [vaR_h2,loopsOf, Tryz.f21,vaR_o2a,vaR_C2,C1,C1_,EL2,EG2,E2,C3,C4,C5,C5_,C5_e,C5_g,W6_,EL7,EG7,E7,Z7,Z7_0,Z7_1,C8,K9,C10_,C10_n]
theorem vaR_x2_5(C8:¬v4≤v5)(B9a:RawB r4)(C10:¬sgR r4.q=0)(C12:¬(RatV r4.s r4.l1 r4.l2)):
  Leave 0 (exec Tryz.prog (tab n) 0 59 (livesOf 21) big vaR_C2) (livesOf 21 (outOf 2)) (vaR_h2 a0 a1 i_2) (.ret) (vaR_o2a a0):=by
 have C1_:i_2<a0.1.length:=by omega
 obtain ⟨EL2,EG2⟩:=List.getElem?_eq_some_iff.1 E2
 have C5_:0<i_2:=by omega
 have C5_z:(i_2:Int)≠0:=by omega
 have C5_e:((i_2:Int)==0)=false:=by simpa using C5_z
 have C5_g:((i_2:Int) !=0)=true:=by simpa using C5_z
 have W6_:IntKind.i64.wrap ((i_2:Int)-1)=(i_2:Int)-1:=wr64 W6.1 W6.2
 obtain ⟨EL7,EG7⟩:=List.getElem?_eq_some_iff.1 E7
 have Z7_0:(1:Int)≤(i_2:Int):=by omega
 have Z7_1:0≤(i_2:Int)-1:=by omega
 have K9:=rr_sign B9a
 have C10_:(sgR r4.q==0)=false:=by simpa using C10
 have C10_n:(sgR r4.q !=0)=true:=by simpa using C10
 have K11:=rr_valid B9a
 unfold Leave
 simp+decide [vaR_h2,loopsOf, Tryz.f21,vaR_o2a,vaR_C2,C1,C1_,EL2,EG2,E2,C3,C4,C5,C5_,C5_e,C5_g,W6_,EL7,EG7,E7,Z7,Z7_0,Z7_1,C8,K9,C10_,C10_n,K11,C12]
end
theorem vaR_x2_6(C5:¬0<(i_2:Int))(B6a:RawB r4)(C7:sgR r4.q=0):
  Leave 0 (exec Tryz.prog (tab n) 0 59 (livesOf 21) big vaR_C2) (livesOf 21 (outOf 2)) (vaR_h2 a0 a1 i_2) (.ret) (vaR_o2a a0):=by
 have C1_:i_2<a0.1.length:=by omega
 obtain ⟨EL2,EG2⟩:=List.getElem?_eq_some_iff.1 E2
 have C5_:¬0<i_2:=by omega
 have C5_z:(i_2:Int)=0:=by omega
 have C5_e:((i_2:Int)==0)=true:=by rw [C5_z];simp
 have C5_g:((i_2:Int) !=0)=false:=by rw [C5_z];simp
 have K6:=rr_sign B6a
 have C7_:(sgR r4.q==0)=true:=by rw [C7];simp
 have C7_n:(sgR r4.q !=0)=false:=by rw [C7];simp
 unfold Leave
 simp+decide [vaR_h2,loopsOf, Tryz.f21,vaR_o2a,vaR_C2,C1,C1_,EL2,EG2,E2,C3,C4,C5,C5_,C5_e,C5_g,K6,C7_,C7_n]
theorem vaR_x2_7(C5:¬0<(i_2:Int))(B6a:RawB r4)(C7:¬sgR r4.q=0)(C9:¬(RatV r4.s r4.l1 r4.l2)):
  Leave 0 (exec Tryz.prog (tab n) 0 59 (livesOf 21) big vaR_C2) (livesOf 21 (outOf 2)) (vaR_h2 a0 a1 i_2) (.ret) (vaR_o2a a0):=by
 have C1_:i_2<a0.1.length:=by omega
 obtain ⟨EL2,EG2⟩:=List.getElem?_eq_some_iff.1 E2
 have C5_:¬0<i_2:=by omega
 have C5_z:(i_2:Int)=0:=by omega
 have C5_e:((i_2:Int)==0)=true:=by rw [C5_z];simp
 have C5_g:((i_2:Int) !=0)=false:=by rw [C5_z];simp
 have K6:=rr_sign B6a
 have C7_:(sgR r4.q==0)=false:=by simpa using C7
 have C7_n:(sgR r4.q !=0)=true:=by simpa using C7
 have K8:=rr_valid B6a
 unfold Leave
 simp+decide [vaR_h2,loopsOf, Tryz.f21,vaR_o2a,vaR_C2,C1,C1_,EL2,EG2,E2,C3,C4,C5,C5_,C5_e,C5_g,K6,C7_,C7_n,K8,C9]
end
end
theorem vaR_x2_8(C1:¬(i_2:Int)<(a0.1.length:Int)):
  Leave 0 (exec Tryz.prog (tab n) 0 59 (livesOf 21) big vaR_C2) (livesOf 21 (outOf 2)) (vaR_h2 a0 a1 i_2) (.exit 0) (vaR_o2b a0):=by
 have C1_:¬i_2<a0.1.length:=by omega
 unfold Leave
 simp+decide [vaR_h2,loopsOf, Tryz.f21,vaR_o2b,vaR_C2,C1,C1_]
theorem vaR_f1(L1:loopG Tryz.prog (tab n) 0 59 (livesOf 21) 2 vaR_C2 (vaR_h2 a0 a1 0)=some (.ret,vaR_o2a a0)):
  run n 21 [.agg [.sl 4 (a0.1.map termRC),.lit (.bool a0.2.s),natA a0.2.l1,natA a0.2.l2],.lit (.int .i64 a1)]=some (.lit (.bool false)):=by
 unfold run fnP
 simp+decide [Tryz.f21]
 rw [loopX_G (C':=vaR_C2) (e:=(vaR_h2 a0 a1 0)) ?_ ?_,L1]
 rotate_left
 ·kernel_rfl
 ·simp+decide [vaR_h2]
 simp+decide [vaR_o2a]
theorem vaR_f2(L1:loopG Tryz.prog (tab n) 0 59 (livesOf 21) 2 vaR_C2 (vaR_h2 a0 a1 0)=some (.exit 0,vaR_o2b a0))(B2a:RawB a0.2):
  run n 21 [.agg [.sl 4 (a0.1.map termRC),.lit (.bool a0.2.s),natA a0.2.l1,natA a0.2.l2],.lit (.int .i64 a1)]=some (.lit (.bool (decide (RatV a0.2.s a0.2.l1 a0.2.l2)))):=by
 have K2:=rr_valid B2a
 unfold run fnP
 simp+decide [Tryz.f21,K2]
 rw [loopX_G (C':=vaR_C2) (e:=(vaR_h2 a0 a1 0)) ?_ ?_,L1]
 rotate_left
 ·kernel_rfl
 ·simp+decide [vaR_h2,K2]
 simp+decide [vaR_o2b,K2]
end
end
section
open Go.RowKit
attribute [local irreducible] run runL loopG exec
def frV(f:FormR):AV:=.agg [.sl 4 (f.1.map termRC),.lit (.bool f.2.s),natA f.2.l1,natA f.2.l2]
def LimR2(r:Raw):Prop:=Lim r.l1∧Lim r.l2
structure LimF (f:FormR):Prop where
 t:∀t∈f.1,LimR2 t.2
 k:LimR2 f.2
def Two(r:Raw):Prop:=r.l1.length≤2∧r.l2.length≤2
theorem Two.rb{r:Raw}(h:Two r)(hl:LimR2 r):RawB r:=⟨hl.1,hl.2,by have:=h.1;omega,by have:=h.2;omega⟩
def Cn(r:Raw):Prop:=RatV r.s r.l1 r.l2
theorem Cn.raw{r:Raw}(h:Cn r):r=rawQ r.q:=by
 obtain ⟨s,l1,l2⟩:=r
 obtain ⟨h1,h2,h3⟩:=h
 dsimp only at h1 h2 h3
 unfold Raw.q rawQ
 dsimp only
 rw [←h1,←h2,←h3]
theorem dlmb_H(d:Nat):(lmb d).length≤max 1 (dlmb d).length:=by
 unfold dlmb
 split
 ·rename_i h;subst h;rw [lmb_one];simp
 ·exact Nat.le_max_right _ _
theorem Cn.HB{r:Raw}{m:Nat}(h:Cn r)(hm:1≤m)(h1:r.l1.length≤m)(h2:r.l2.length≤m):H r.q≤m:=by
 have e:=h.raw
 have a1:(lmb r.q.num.natAbs).length≤m:=by have:=congrArg Raw.l1 e;rw [this] at h1;exact h1
 have a2:(dlmb r.q.den).length≤m:=by have:=congrArg Raw.l2 e;rw [this] at h2;exact h2
 have a3:=dlmb_H r.q.den
 unfold Go.Proofs.YtdaonnnlgfhlaaaGreatDoor.H
 omega
theorem Cn.H{r:Raw}(h:Cn r)(ht:Two r):H r.q≤2:=h.HB (by omega) ht.1 ht.2
def OkTmR(F:List (Int × Raw))(vars:Int)(i:Nat):Prop:=∀v c,F[i]?=some (v,c)→0≤v∧v<vars∧c.q≠0∧Cn c∧∀v' c',0<i→F[i-1]?=some (v',c')→v'<v
def OkFR(f:FormR)(vars:Int):Prop:=(∀i,i<f.1.length→OkTmR f.1 vars i)∧Cn f.2
theorem validRB_c{n:Nat}{f:FormR}{vars:Int}(h8:f.1.length≤100000)(hrbs:∀t∈f.1,RawB t.2)(hkb:RawB f.2):run n 21 [frV f,.lit (.int .i64 vars)]=some (.lit (.bool (tv (OkFR f vars)))):=by
 have L:=loopG_all (O:=tab n) (P:= Tryz.prog) (m:=0) (N:=59) (lives:=livesOf 21) (r:=2) (C:=vaR_C2) (M:=f.1.length) (enc:=vaR_h2 f vars) (p:=fun i=>tv (OkTmR f.1 vars i)) (exN:=.exit 0) (exE:=.ret) (out:=vaR_o2b f) (outE:=vaR_o2a f) (by omega) (fun h=>by cases h) (fun h=>by cases h)
  (fun i hi _=>by
   have hx:f.1[i]?=some f.1[i]:=List.getElem?_eq_getElem hi
   obtain ⟨t,ht⟩:∃t,f.1[i]=t:=⟨_,rfl⟩
   rw [ht] at hx
   obtain ⟨v,r⟩:=t
   have hm:(v,r)∈f.1:=List.mem_of_getElem? hx
   have hrb:RawB r:=hrbs _ hm
   have C1:(i:Int)<(f.1.length:Int):=by omega
   have hp:0<i→∃v' r',f.1[i-1]?=some (v',r'):=fun h0=>⟨(f.1[i-1]'(by omega)).1,(f.1[i-1]'(by omega)).2,List.getElem?_eq_getElem _⟩
   refine ⟨fun hp'=>?_,fun hp'=>?_⟩
   ·obtain ⟨a1,a2,a3,a4,a5⟩:=tv_true hp' v r hx
    have s0:¬sgR r.q=0:=fun h=>a3 (sgR_eq_zero.1 h)
    by_cases h0:0<i
    ·obtain ⟨v',r',hx'⟩:=hp h0
     have:=a5 v' r' h0 hx'
     exact vaR_r2_1 C1 hx (by omega) (by omega) (by omega) ⟨by omega,by omega⟩ hx' (by omega) (by omega) hrb s0 a4 ⟨by omega,by omega⟩
    ·exact vaR_r2_2 C1 hx (by omega) (by omega) (by omega) hrb s0 a4 ⟨by omega,by omega⟩
   ·have hq:=tv_false hp'
    by_cases b1:v<0
    ·exact vaR_x2_1 C1 hx b1
    by_cases b2:vars≤v
    ·exact vaR_x2_2 C1 hx b1 b2
    by_cases h0:0<i
    ·obtain ⟨v',r',hx'⟩:=hp h0
     by_cases b3:v≤v'
     ·exact vaR_x2_3 C1 hx b1 b2 (by omega) ⟨by omega,by omega⟩ hx' (by omega) b3
     by_cases b4:sgR r.q=0
     ·exact vaR_x2_4 C1 hx b1 b2 (by omega) ⟨by omega,by omega⟩ hx' (by omega) b3 hrb b4
     refine vaR_x2_5 C1 hx b1 b2 (by omega) ⟨by omega,by omega⟩ hx' (by omega) b3 hrb b4 fun b5=>hq fun v2 c2 h2=>?_
     rw [hx] at h2;cases h2
     refine ⟨by omega,by omega,fun h=>b4 (sgR_eq_zero.2 h),b5,fun v3 c3 _ h3=>?_⟩
     rw [hx'] at h3;cases h3
     omega
    ·by_cases b4:sgR r.q=0
     ·exact vaR_x2_6 C1 hx b1 b2 (by omega) hrb b4
     refine vaR_x2_7 C1 hx b1 b2 (by omega) hrb b4 fun b5=>hq fun v2 c2 h2=>?_
     rw [hx] at h2;cases h2
     exact ⟨by omega,by omega,fun h=>b4 (sgR_eq_zero.2 h),b5,fun v3 c3 h9 h3=>absurd h9 h0⟩)
  (vaR_x2_8 (by omega))
 by_cases hA:∀i,i<f.1.length→tv (OkTmR f.1 vars i)=true
 ·rw [if_pos hA] at L
  have h:=vaR_f2 L hkb
  have e:decide (RatV f.2.s f.2.l1 f.2.l2)=tv (OkFR f vars):=by
   by_cases hk:Cn f.2
   ·rw [tv_t ⟨fun i hi=>tv_true (hA i hi),hk⟩];exact decide_eq_true hk
   ·rw [tv_f fun h=>hk h.2];exact decide_eq_false hk
  rw [e] at h
  exact h
 ·rw [if_neg hA] at L
  rw [tv_f fun h=>hA fun i hi=>tv_t (h.1 i hi)]
  exact vaR_f1 L
def unR(f:FormR):Form:=(f.1.map fun t=>(t.1,t.2.q),f.2.q)
theorem small_formB{f:FormR}{vars:Int}{m:Nat}(hm:1≤m)(ht:∀t∈f.1,t.2.l1.length≤m∧t.2.l2.length≤m)(hk:f.2.l1.length≤m∧f.2.l2.length≤m)(ho:OkFR f vars):frV f=formV (unR f)∧(unR f).1.length=f.1.length∧(∀t∈(unR f).1,H t.2≤m)∧H (unR f).2≤m∧OkFm (unR f) vars:=by
 have hc:∀t∈f.1,Cn t.2:=fun t ht=>by
  obtain ⟨i,hi⟩:=List.mem_iff_getElem?.1 ht
  exact (ho.1 i (List.getElem?_eq_some_iff.1 hi).1 t.1 t.2 hi).2.2.2.1
 refine ⟨?_,by simp [unR],fun t h9=>?_,ho.2.HB hm hk.1 hk.2,fun i hi v c h=>?_⟩
 ·have e1:f.1.map termRC=(unR f).1.map termC:=by
   simp only [unR,List.map_map]
   apply List.map_congr_left
   intro t ht
   have e:=(hc t ht).raw
   simp only [Function.comp,termRC,termC,ratC]
   rw [←e]
  have e2:=ho.2.raw
  unfold frV
  simp only [formV,e1]
  have e3:rawQ (unR f).2=f.2:=e2.symm
  rw [e3]
 ·simp only [unR,List.mem_map] at h9
  obtain ⟨u,hu,rfl⟩:=h9
  exact (hc u hu).HB hm (ht u hu).1 (ht u hu).2
 ·simp only [unR,List.length_map] at hi
  simp only [unR,List.getElem?_map] at h
  obtain ⟨u,hu,he⟩:=Option.map_eq_some_iff.1 h
  cases he
  obtain ⟨a1,a2,a3,_,a5⟩:=ho.1 i hi u.1 u.2 hu
  refine ⟨a1,a2,a3,fun v' c' h0 h'=>?_⟩
  simp only [unR,List.getElem?_map] at h'
  obtain ⟨u',hu',he'⟩:=Option.map_eq_some_iff.1 h'
  cases he'
  exact a5 u'.1 u'.2 h0 hu'
end
end Go.Proofs.YtdaonnnlgfhlaaaGreatDoor
