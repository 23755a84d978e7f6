import Derived.Test.YtdaonnnlgfhlaaaGreatDoorGH16
import Derived.Test.YtdaonnnlgfhlaaaGreatDoorGH19
import Derived.Test.YtdaonnnlgfhlaaaGreatDoorGH18
import Derived.Test.YtdaonnnlgfhlaaaGreatDoorGH17
set_option linter.all false
set_option maxHeartbeats 6400000
set_option maxRecDepth 100000
namespace Go.Proofs.YtdaonnnlgfhlaaaGreatDoor
open Go.RowKit
noncomputable def J1:Code:=(Zb (ZR Tryz.f58)).getD 0 .skip
noncomputable def WJ:Code:=(Zb (ZR Tryz.f58)).getD 1 .skip
def UY(a1:Int)(l_2:List Zf)(i_2:Nat):St:=
 ⟨[(0,.sl 4 (l_2.map Zh)),(11,.lit (.int .i64 a1)),(12,.lit (.int .i64 (i_2:Int)))],
  [],0⟩
def Xf(l_2:List Zf)(i_11:Nat)(out_11:List Zf)(mp_11:List (ByteArray × Value)):St:=
 ⟨[(8,.ptr 0 0),(28,.sl 4 (l_2.map Zh)),(29,.lit (.int .i64 (l_2.length:Int))),(30,.lit (.int .i64 (i_11:Int)))],
  [(0,some (.box 78 [.own 1 out_11.length,.mp 2] false)),
   (1,some (.row 28 4 (out_11.map Zh) 0)),
   (2,some (.mp mp_11))],3⟩
def ZaM(l_2:List Zf):St:=
 ⟨[(0,.sl 4 (l_2.map Zh)),(4,.any),(5,.any)],
  [],0⟩
def Ue(out_11:List Zf)(mp_11:List (ByteArray × Value)):St:=
 ⟨[(8,.ptr 0 0)],
  [(0,some (.box 78 [.own 1 out_11.length,.mp 2] false)),
   (1,some (.row 28 4 (out_11.map Zh) 0)),
   (2,some (.mp mp_11))],3⟩
section
variable{a1:Int}{r5:List Zf}{i_2:Nat}{r6:Int}{l_2:List Zf}{n:Nat}{q3:Rat}{i_11:Nat}{out_11:List Zf}{F3:List (Int × Rat)}{mp_11:List (ByteArray × Value)}{R3:List Zf}{mR3:List (ByteArray × Value)}{a0:List Zf}
theorem Znv(C1:(i_2:Int)<a1)(K2:run (n+9) 17 [.sl 4 (l_2.map Zh),.lit (.int .i64 (i_2:Int))]=some (.tup [.sl 4 (r5.map Zh),.lit (.int .i64 r6)]))(C3:r6=0)(W4:InI ((i_2:Int)+1)):
  Zm 0 (exec Tryz.prog (tab (n+10)) 0 42 (Za 58) big J1) (Za 58 2) (UY a1 l_2 i_2) (UY a1 r5 (i_2+1)):=by
 have C3_n:(r6 !=0)=false:=by rw [C3];simp
 have W4_:IntKind.i64.wrap ((i_2:Int)+1)=(i_2:Int)+1:=Zp W4.1 W4.2
 unfold Zm
 simp+decide [UY,Zb, Tryz.f58,J1,C1,K2,C3_n,W4_]
theorem Zo6(C1:¬(i_2:Int)<a1):
  Zj 0 (exec Tryz.prog (tab (n+10)) 0 42 (Za 58) big J1) (Za 58 (Zo 2)) (UY a1 l_2 i_2) (.exit 0) (ZaM l_2):=by
 unfold Zj
 simp+decide [UY,Zb, Tryz.f58,ZaM,J1,C1]
theorem ZmL(C1:(i_11:Int)<(l_2.length:Int))(E2:l_2[i_11]?=some (F3,q3))(K3:Zr (n+9) 46 [.ptr 0 0,Zc (F3,q3)] [.box 78 [.own 1 out_11.length,.mp 2] false,.row 28 4 (out_11.map Zh) 0,.mp mp_11]=some (.tup [],[(0,.box 78 [.own 1 out_11.length,.mp 2] false),(1,.row 28 4 (out_11.map Zh) 0),(2,.mp mp_11)]))(W4:InI ((i_11:Int)+1)):
  Zm 0 (exec Tryz.prog (tab (n+10)) 0 42 (Za 58) big WJ) (Za 58 11) (Xf l_2 i_11 out_11 mp_11) (Xf l_2 (i_11+1) out_11 mp_11):=by
 have C1_:i_11<l_2.length:=by omega
 obtain ⟨EL2,EG2⟩:=gEi E2
 simp only [Zc] at K3
 have W4_:IntKind.i64.wrap ((i_11:Int)+1)=(i_11:Int)+1:=Zp W4.1 W4.2
 unfold Zm
 simp+decide [Xf,Zb, Tryz.f58,WJ,C1,C1_,EG2,K3,W4_]
theorem Zlq(C1:(i_11:Int)<(l_2.length:Int))(E2:l_2[i_11]?=some (F3,q3))(K3:Zr (n+9) 46 [.ptr 0 0,Zc (F3,q3)] [.box 78 [.own 1 out_11.length,.mp 2] false,.row 28 4 (out_11.map Zh) 0,.mp mp_11]=some (.tup [],[(0,.box 78 [.own 6 R3.length,.mp 2] false),(2,.mp mR3),(6,.row 28 4 (R3.map Zh) 0)]))(W4:InI ((i_11:Int)+1)):
  Zm 0 (exec Tryz.prog (tab (n+10)) 0 42 (Za 58) big WJ) (Za 58 11) (Xf l_2 i_11 out_11 mp_11) (Xf l_2 (i_11+1) R3 mR3):=by
 have C1_:i_11<l_2.length:=by omega
 obtain ⟨EL2,EG2⟩:=gEi E2
 simp only [Zc] at K3
 have W4_:IntKind.i64.wrap ((i_11:Int)+1)=(i_11:Int)+1:=Zp W4.1 W4.2
 unfold Zm
 simp+decide [Xf,Zb, Tryz.f58,WJ,C1,C1_,EG2,K3,W4_]
theorem ZmX(C1:¬(i_11:Int)<(l_2.length:Int)):
  Zj 0 (exec Tryz.prog (tab (n+10)) 0 42 (Za 58) big WJ) (Za 58 (Zo 11)) (Xf l_2 i_11 out_11 mp_11) (.exit 2) (Ue out_11 mp_11):=by
 unfold Zj
 simp+decide [Xf,Zb, Tryz.f58,Ue,WJ,C1]
theorem ZxE(L1:Zl Tryz.prog (tab (n+10)) 0 42 (Za 58) 2 J1 (UY a1 a0 0)=some (.exit 0,ZaM l_2))(L2:Zl Tryz.prog (tab (n+10)) 0 42 (Za 58) 11 WJ (Xf l_2 0 [] [])=some (.exit 2,Ue out_11 mp_11)):
  run (n+10) 58 [.sl 4 (a0.map Zh),.lit (.int .i64 a1)]=some (.tup [.sl 4 (out_11.map Zh),.lit (.int .i64 0)]):=by
 unfold run fnP
 simp+decide [Tryz.f58]
 rw [Zi (C':=J1) (e:=(UY a1 a0 0)) ?_ ?_,L1]
 rotate_left
 ·kernel_rfl
 ·simp+decide [UY]
 simp+decide [ZaM]
 rw [Zi (C':=WJ) (e:=(Xf l_2 0 [] [])) ?_ ?_,L2]
 rotate_left
 ·kernel_rfl
 ·simp+decide [Xf]
 simp+decide [Ue]
end
noncomputable def VB:Code:=(Zb (ZR Tryz.f60)).getD 0 .skip
noncomputable def Wj:Code:=(Zb (ZR Tryz.f60)).getD 1 .skip
def XK(a0:List Zf)(a1:Int)(out_3:List Zf)(i_3:Nat):St:=
 ⟨[(0,.sl 4 (a0.map Zh)),(1,.lit (.int .i64 a1)),(6,.own 0 out_3.length),(7,.lit (.int .i64 (i_3:Int)))],
  [(0,some (.row 28 4 (out_3.map Zh) 0))],1⟩
def Vh(a1:Int)(out_3:List Zf):St:=
 ⟨[(1,.lit (.int .i64 a1)),(6,.own 0 out_3.length),(8,.lit (.int .i64 0))],
  [(0,some (.row 28 4 (out_3.map Zh) 0))],1⟩
def VX(a1:Int)(l_7b:List Zf)(i_7b:Nat):St:=
 ⟨[(1,.lit (.int .i64 a1)),(6,.sl 4 (l_7b.map Zh)),(8,.lit (.int .i64 (i_7b:Int)))],
  [],0⟩
def UO(a1:Int)(out_3:List Zf):St:=
 ⟨[(1,.lit (.int .i64 a1)),(6,.own 0 out_3.length)],
  [(0,some (.row 28 4 (out_3.map Zh) 0))],1⟩
def ZaN(out_3:List Zf):St:=
 ⟨[(4,.any),(5,.any),(6,.own 0 out_3.length)],
  [(0,some (.row 28 4 (out_3.map Zh) 0))],1⟩
def ZaE(l_7b:List Zf):St:=
 ⟨[(4,.any),(5,.any),(6,.sl 4 (l_7b.map Zh))],
  [],0⟩
section
variable{a1:Int}{q3:Rat}{i_3:Nat}{F3:List (Int × Rat)}{n:Nat}{out_3:List Zf}{a0:List Zf}{R3:List Zf}{r11:List Zf}{r12:Int}
theorem Zqv(C1:(i_3:Int)<(a0.length:Int))(E2:a0[i_3]?=some (F3,q3))(K3:Zr (n+9) 49 [.own 0 out_3.length,Zc (F3,q3)] [.row 28 4 (out_3.map Zh) 0]=some (.own 0 out_3.length,[(0,.row 28 4 (out_3.map Zh) 0)]))(W4:InI ((i_3:Int)+1)):
  Zm 0 (exec Tryz.prog (tab (n+10)) 0 37 (Za 60) big VB) (Za 60 3) (XK a0 a1 out_3 i_3) (XK a0 a1 out_3 (i_3+1)):=by
 have C1_:i_3<a0.length:=by omega
 obtain ⟨EL2,EG2⟩:=gEi E2
 simp only [Zc] at K3
 have W4_:IntKind.i64.wrap ((i_3:Int)+1)=(i_3:Int)+1:=Zp W4.1 W4.2
 unfold Zm
 simp+decide [XK,Zb, Tryz.f60,VB,C1,C1_,EG2,K3,W4_]
theorem Zqe(C1:(i_3:Int)<(a0.length:Int))(E2:a0[i_3]?=some (F3,q3))(K3:Zr (n+9) 49 [.own 0 out_3.length,Zc (F3,q3)] [.row 28 4 (out_3.map Zh) 0]=some (.own 3 R3.length,[(3,.row 28 4 (R3.map Zh) 0)]))(W4:InI ((i_3:Int)+1)):
  Zm 0 (exec Tryz.prog (tab (n+10)) 0 37 (Za 60) big VB) (Za 60 3) (XK a0 a1 out_3 i_3) (XK a0 a1 R3 (i_3+1)):=by
 have C1_:i_3<a0.length:=by omega
 obtain ⟨EL2,EG2⟩:=gEi E2
 simp only [Zc] at K3
 have W4_:IntKind.i64.wrap ((i_3:Int)+1)=(i_3:Int)+1:=Zp W4.1 W4.2
 unfold Zm
 simp+decide [XK,Zb, Tryz.f60,VB,C1,C1_,EG2,K3,W4_]
theorem Zm7(C1:¬(i_3:Int)<(a0.length:Int)):
  Zj 0 (exec Tryz.prog (tab (n+10)) 0 37 (Za 60) big VB) (Za 60 (Zo 3)) (XK a0 a1 out_3 i_3) (.exit 0) (UO a1 out_3):=by
 unfold Zj
 simp+decide [XK,Zb, Tryz.f60,UO,VB,C1]
theorem Znx(C1:0<a1)(K2:run (n+9) 18 [.sl 4 (out_3.map Zh),.lit (.int .i64 0)]=some (.tup [.sl 4 (r11.map Zh),.lit (.int .i64 r12)]))(C3:r12=0):
  Zm 0 (exec Tryz.prog (tab (n+10)) 0 37 (Za 60) big Wj) (Za 60 7) (Vh a1 out_3) (VX a1 r11 1):=by
 have C3_n:(r12 !=0)=false:=by rw [C3];simp
 unfold Zm
 simp+decide [Vh,Zb, Tryz.f60,Wj,VX,C1,K2,C3_n]
theorem Zpo(C1:¬0<a1):
  Zj 0 (exec Tryz.prog (tab (n+10)) 0 37 (Za 60) big Wj) (Za 60 (Zo 7)) (Vh a1 out_3) (.exit 2) (ZaN out_3):=by
 unfold Zj
 simp+decide [Vh,Zb, Tryz.f60,ZaN,Wj,C1]
end
theorem Zmw{n:Nat}{a1:Int}{i_7b:Nat}{l_7b:List Zf}{r13:List Zf}{r14:Int}(C1:(i_7b:Int)<a1)(K2:run (n+9) 18 [.sl 4 (l_7b.map Zh),.lit (.int .i64 (i_7b:Int))]=some (.tup [.sl 4 (r13.map Zh),.lit (.int .i64 r14)]))(C3:r14=0)(W4:InI ((i_7b:Int)+1)):
  Zm 0 (exec Tryz.prog (tab (n+10)) 0 37 (Za 60) big Wj) (Za 60 7) (VX a1 l_7b i_7b) (VX a1 r13 (i_7b+1)):=by
 have C3_n:(r14 !=0)=false:=by rw [C3];simp
 have W4_:IntKind.i64.wrap ((i_7b:Int)+1)=(i_7b:Int)+1:=Zp W4.1 W4.2
 unfold Zm
 simp+decide [VX,Zb, Tryz.f60,Wj,C1,K2,C3_n,W4_]
theorem ZmJ{n:Nat}{a1:Int}{i_7b:Nat}{l_7b:List Zf}(C1:¬(i_7b:Int)<a1):
  Zj 0 (exec Tryz.prog (tab (n+10)) 0 37 (Za 60) big Wj) (Za 60 (Zo 7)) (VX a1 l_7b i_7b) (.exit 2) (ZaE l_7b):=by
 unfold Zj
 simp+decide [VX,Zb, Tryz.f60,ZaE,Wj,C1]
section
variable {out_3 : List Zf} {a1 : Int} {a0 : List Zf} {n : Nat} {l_7b : List Zf}
section
variable(L1:Zl Tryz.prog (tab (n+10)) 0 37 (Za 60) 3 VB (XK a0 a1 [] 0)=some (.exit 0,UO a1 out_3))
include L1
theorem Zvu(L2:Zl Tryz.prog (tab (n+10)) 0 37 (Za 60) 7 Wj (Vh a1 out_3)=some (.exit 2,ZaN out_3)):
  run (n+10) 60 [.sl 4 (a0.map Zh),.lit (.int .i64 a1)]=some (.tup [.sl 4 (out_3.map Zh),.lit (.int .i64 0)]):=by
 unfold run fnP
 simp+decide [Tryz.f60]
 rw [Zi (C':=VB) (e:=(XK a0 a1 [] 0)) ?_ ?_,L1]
 rotate_left
 ·kernel_rfl
 ·simp+decide [XK]
 simp+decide [UO]
 rw [Zi (C':=Wj) (e:=(Vh a1 out_3)) ?_ ?_,L2]
 rotate_left
 ·kernel_rfl
 ·simp+decide [Vh]
 simp+decide [ZaN]
theorem ZxZ(L2:Zl Tryz.prog (tab (n+10)) 0 37 (Za 60) 7 Wj (Vh a1 out_3)=some (.exit 2,ZaE l_7b)):
  run (n+10) 60 [.sl 4 (a0.map Zh),.lit (.int .i64 a1)]=some (.tup [.sl 4 (l_7b.map Zh),.lit (.int .i64 0)]):=by
 unfold run fnP
 simp+decide [Tryz.f60]
 rw [Zi (C':=VB) (e:=(XK a0 a1 [] 0)) ?_ ?_,L1]
 rotate_left
 ·kernel_rfl
 ·simp+decide [XK]
 simp+decide [UO]
 rw [Zi (C':=Wj) (e:=(Vh a1 out_3)) ?_ ?_,L2]
 rotate_left
 ·kernel_rfl
 ·simp+decide [Vh]
 simp+decide [ZaE]
end
end
noncomputable def Vz:Code:=(Zb (ZR Tryz.f59)).getD 0 .skip
def XY(a0:List Zf)(a1:Int)(i_2:Nat):St:=
 ⟨[(0,.sl 4 (a0.map Zh)),(1,.lit (.int .i64 a1)),(5,.lit (.int .i64 (i_2:Int)))],
  [],0⟩
def Zbg(a1:Int):St:=
 ⟨[(1,.lit (.int .i64 a1)),(4,.lit (.bool false))],
  [],0⟩
def Za7(a1:Int):St:=
 ⟨[(1,.lit (.int .i64 a1)),(4,.any)],
  [],0⟩
section
variable{a1:Int}{i_2:Nat}{q3:Rat}{n:Nat}{F3:List (Int × Rat)}{r3:Bool}{a0:List Zf}
section
variable(C1:(i_2:Int)<(a0.length:Int))(E2:a0[i_2]?=some (F3,q3))(K3:run n 21 [Zc (F3,q3),.lit (.int .i64 a1)]=some (.lit (.bool r3)))
include C1 E2 K3
theorem ZnX(C4:r3=true)(W5:InI ((i_2:Int)+1)):
  Zm 0 (exec Tryz.prog (tab (n+1)) 0 21 (Za 59) big Vz) (Za 59 2) (XY a0 a1 i_2) (XY a0 a1 (i_2+1)):=by
 have C1_:i_2<a0.length:=by omega
 obtain ⟨EL2,EG2⟩:=gEi E2
 simp only [Zc] at K3
 have W5_:IntKind.i64.wrap ((i_2:Int)+1)=(i_2:Int)+1:=Zp W5.1 W5.2
 unfold Zm
 simp+decide [XY,Zb, Tryz.f59,Vz,C1,C1_,EG2,K3,C4,W5_]
theorem Zpk(C4:r3=false):
  Zj 0 (exec Tryz.prog (tab (n+1)) 0 21 (Za 59) big Vz) (Za 59 (Zo 2)) (XY a0 a1 i_2) (.ret) (Zbg a1):=by
 have C1_:i_2<a0.length:=by omega
 obtain ⟨EL2,EG2⟩:=gEi E2
 simp only [Zc] at K3
 unfold Zj
 simp+decide [XY,Zb, Tryz.f59,Zbg,Vz,C1,C1_,EG2,K3,C4]
end
theorem Zoq(C1:¬(i_2:Int)<(a0.length:Int)):
  Zj 0 (exec Tryz.prog (tab (n+1)) 0 21 (Za 59) big Vz) (Za 59 (Zo 2)) (XY a0 a1 i_2) (.exit 0) (Za7 a1):=by
 unfold Zj
 simp+decide [XY,Zb, Tryz.f59,Za7,Vz,C1]
theorem Zvk(L1:Zl Tryz.prog (tab (n+1)) 0 21 (Za 59) 2 Vz (XY a0 a1 0)=some (.ret,Zbg a1)):
  run (n+1) 59 [.sl 4 (a0.map Zh),.lit (.int .i64 a1)]=some (.lit (.bool false)):=by
 unfold run fnP
 simp+decide [Tryz.f59]
 rw [Zi (C':=Vz) (e:=(XY a0 a1 0)) ?_ ?_,L1]
 rotate_left
 ·kernel_rfl
 ·simp+decide [XY]
 simp+decide [Zbg]
theorem ZxV(L1:Zl Tryz.prog (tab (n+1)) 0 21 (Za 59) 2 Vz (XY a0 a1 0)=some (.exit 0,Za7 a1)):
  run (n+1) 59 [.sl 4 (a0.map Zh),.lit (.int .i64 a1)]=some (.lit (.bool (decide (0≤a1)))):=by
 unfold run fnP
 simp+decide [Tryz.f59]
 rw [Zi (C':=Vz) (e:=(XY a0 a1 0)) ?_ ?_,L1]
 rotate_left
 ·kernel_rfl
 ·simp+decide [XY]
 simp+decide [Za7]
end
section
attribute [local irreducible] run Zr Zl exec
theorem ZdK{k:Int}:∀{F:List (Int × Rat)} {a:Int},Srt F→(∀t∈F,a≤t.1∧t.1<k)→F.length≤(k-a).toNat
 | [],a,_,_=>Nat.zero_le _
 | t::F,a,hs,h=>by
   have h1:=h t List.mem_cons_self
   have:=ZdK (F:=F) (a:=t.1+1) hs.tail fun u hu=>⟨by have:=hs.head u hu;omega,(h u (List.mem_cons_of_mem _ hu)).2⟩
   rw [List.length_cons]
   omega
structure RowV (k m:Nat) (R:List Zf):Prop where
 r:∀f∈R,FB m f∧InR k f.1
theorem RowV.mono{k m p:Nat}{R:List Zf}(h:RowV k m R)(hp:m≤p):RowV k p R:=⟨fun f hf=>⟨(h.r f hf).1.mono hp,(h.r f hf).2⟩⟩
theorem RowV.rb{k m:Nat}{R:List Zf}(h:RowV k m R)(hk:k≤50)(hn:R.length≤2500):RB m R:=by
 refine ⟨fun f hf=>⟨(h.r f hf).1,?_⟩,hn⟩
 have:=ZdK (F:=f.1) (a:=0) (k:=(k:Int)) (h.r f hf).1.s (h.r f hf).2
 omega
theorem RowV.elim{k m:Nat}{R:List Zf}{v:Int}(h:RowV k m R)(hk:k≤50)(hn:R.length≤2500)(h1:1≤m):RowV k (8*m+2) (Qh v R):=by
 have a:=Zt2 (v:=v) (h.rb hk hn) h1
 have b:=ZiY (v:=v) (k:=k) (R:=R) fun f hf=>⟨(h.r f hf).1.s,(h.r f hf).2⟩
 exact ⟨fun f hf=>⟨a f hf,(b f hf).2⟩⟩
def hh(m:Nat):Nat→Nat
 | 0=>m
 | i+1=>8*hh m i+2
def cc:Nat→Nat
 | 0=>9
 | 1=>20
 | 2=>100
 | _=>2500
theorem Zdz{m:Nat}(h:1≤m):∀i,1≤hh m i
 | 0=>h
 | i+1=>by rw [hh];omega
theorem Zcz{k m:Nat}{R:List Zf}(h:RowV k m R)(hk:k≤50)(hn:R.length≤9)(h1:1≤m):∀i,i≤3→RowV k (hh m i) (Qp i R)∧(Qp i R).length≤cc i
 | 0,_=>⟨h,hn⟩
 | i+1,hi=>by
   obtain ⟨a,b⟩:=Zcz h hk hn h1 i (by omega)
   have hc:4≤cc i∧cc i≤100∧cc i*cc i<4*cc (i+1)+4:=by
    match i,hi with
    | 0,_=>decide
    | 1,_=>decide
    | 2,_=>decide
   have hl:=Zk5 (v:=(i:Int)) b hc.1
   rw [Qp,hh]
   exact ⟨a.elim hk (by omega) (Zdz h1 i),by omega⟩
section
variable {n m k vars : Nat} {R : List Zf}
theorem ZiH{L:List Zf}(hL:∀f∈L,FB m f)(h1:1≤m)(hm:m≤5000)(hl:L.length≤5000):
  Zl Tryz.prog (tab (n+10)) 0 42 (Za 58) 11 WJ (Xf L 0 [] [])=some (.exit 2,Ue (L.foldl ZU []) (Qz (L.foldl ZU []))):=by
 have X:=Wg (O:=tab (n+10)) (P:= Tryz.prog) (m:=0) (N:=42) (lives:=Za 58) (r:=11) (C:=WJ) (exN:=.exit 2) (L:=L) (enc:=fun i b=>Xf L i b (Qz b)) (f:=fun _ b (f:Zf)=>ZU b f) (Inv:=fun i b=>Vpos b∧b.length≤i) (out:=fun b=>Ue b (Qz b)) [] ⟨Vpos.nil,by simp⟩ (by omega) (by simp)
  (fun i f b hi hI=>by
   obtain ⟨hI1,hI2⟩:=hI
   have hlt:=(gEi hi).1
   have hf:=hL f (gMe hi)
   have hln:=UZ b f
   refine ⟨?_,hI1.col hf,by omega⟩
   rcases ZiV (n:=n+1) hf h1 hm hI1 (by omega) with ⟨e,K⟩|K
   ·rw [e]
    exact ZmL (by omega) hi K ⟨by omega,by omega⟩
   ·exact Zlq (by omega) hi K ⟨by omega,by omega⟩)
  (fun b hI=>ZmX (by omega))
 rw [QL] at X
 exact X.1
theorem Zmi(h:RowV k m R)(hk:k≤50)(hn:R.length≤9)(h1:1≤m)(hm:m≤5)(hv:vars≤3):
  run (n+10) 58 [.sl 4 (R.map Zh),.lit (.int .i64 (vars:Int))]=some (.tup [.sl 4 ((Zb0 vars R).map Zh),.lit (.int .i64 0)]):=by
 have hb:=Zcz h hk hn h1
 have hm3:∀i,i≤3→hh m i≤2706:=fun i hi=>by
  match i,hi with
  | 0,_=>simp only [hh];omega
  | 1,_=>simp only [hh];omega
  | 2,_=>simp only [hh];omega
  | 3,_=>simp only [hh];omega
 have hm2:∀i,i≤2→hh m i≤1200:=fun i hi=>by
  match i,hi with
  | 0,_=>simp only [hh];omega
  | 1,_=>simp only [hh];omega
  | 2,_=>simp only [hh];omega
 have hc3:∀i,i≤3→cc i≤2500:=fun i hi=>by
  match i,hi with
  | 0,_=>decide
  | 1,_=>decide
  | 2,_=>decide
  | 3,_=>decide
 obtain ⟨b,L1,e⟩:=QV (O:=tab (n+10)) (P:= Tryz.prog) (m:=0) (N:=42) (lives:=Za 58) (r:=2) (C:=J1) (exN:=.exit 0) (M:=vars) (enc:=fun i b=>UY (vars:Int) b i) (out:=fun b=>ZaM b) (fun i b=>b=Qp i R) R rfl (by omega) (by simp)
  (fun i b hi hI=>by
   subst hI
   obtain ⟨a1,a2⟩:=hb i (by omega)
   obtain ⟨c1,c2⟩:=hb (i+1) (by omega)
   have:=hc3 i (by omega)
   have:=hc3 (i+1) (by omega)
   have K:=Zx3 (n:=n) (v:=(i:Int)) (a1.rb hk (by omega)) (Zdz h1 i) (hm2 i (by omega)) (by omega) (by rw [Qp] at c2;omega)
   exact ⟨_,Znv (by omega) K rfl ⟨by omega,by omega⟩,rfl⟩)
  (fun b hI=>Zo6 (by omega))
 subst e
 obtain ⟨a1,a2⟩:=hb vars hv
 have:=hc3 vars hv
 have:=hm3 vars hv
 have L2:=ZiH (n:=n) (L:=Qp vars R) (m:=hh m vars) (fun f hf=>(a1.r f hf).1) (Zdz h1 _) (by omega) (by omega)
 exact ZxE L1 L2
theorem Zgp{v:Int}(hB:Bds R)(hl:R.length≤100000):run (n+1) 59 [.sl 4 (R.map Zh),.lit (.int .i64 v)]=some (.lit (.bool (tv (0≤v∧∀f∈R,OkFm f v)))):=by
 have X:=Xb (O:=tab (n+1)) (P:= Tryz.prog) (m:=0) (N:=21) (lives:=Za 59) (r:=2) (C:=Vz) (M:=R.length) (enc:=fun i=>XY R v i) (p:=fun i=>tv (∀f,R[i]?=some f→OkFm f v)) (exN:=.exit 0) (exE:=.ret) (out:=Za7 v) (outE:=Zbg v) (by omega) (by simp) (by simp)
  (fun i hi _=>by
   have hx:R[i]?=some R[i]:=gEt hi
   obtain ⟨g,hg⟩:∃g,R[i]=g:=⟨_,rfl⟩
   rw [hg] at hx
   obtain ⟨G,q⟩:=g
   have K:=ZhM (n:=n) (vars:=v) (hB _ (gMe hx))
   refine ⟨fun hp=>ZnX (by omega) hx K (Xk (YS hp _ hx)) ⟨by omega,by omega⟩,fun hp=>Zpk (by omega) hx K (XJ fun h9=>Q3 hp fun f hf=>?_)⟩
   rw [hx] at hf;cases hf
   exact h9)
  (Zoq (by omega))
 by_cases h:∀f∈R,OkFm f v
 ·rw [if_pos (fun i hi=>Xk fun f hf=>h f (gMe hf))] at X
  have Z:=ZxV X
  rw [Z]
  by_cases h0:0≤v
  ·rw [Xk ⟨h0,h⟩,decide_eq_true h0]
  ·rw [XJ (fun h9=>h0 h9.1),decide_eq_false h0]
 ·rw [if_neg (fun h2=>h fun f hf=>by
   obtain ⟨i,hi⟩:=List.mem_iff_getElem?.1 hf
   exact YS (h2 i (gEi hi).1) f hi)] at X
  rw [XJ (fun h9=>h h9.2)]
  exact Zvk X
theorem RowV.col(h:RowV k m R)(h1:1≤m):RowV k (m+m) (R.foldl ZU [])∧(R.foldl ZU []).length≤R.length:=by
 have key:∀(R L:List Zf),RowV k m R→RowV k (m+m) L→RowV k (m+m) (R.foldl ZU L)∧(R.foldl ZU L).length≤L.length+R.length:=fun R=>by
  induction R with
  | nil=>intro L _ h;exact ⟨h,by simp⟩
  | cons f R ih=>
    intro L hR hL
    have hf:=hR.r f List.mem_cons_self
    have hc:RowV k (m+m) (ZU L f):=by
     refine ⟨fun g hg=>?_⟩
     unfold ZU at hg
     split at hg
     ·exact hL.r g hg
     split at hg
     ·exact hL.r g hg
     ·rcases List.mem_append.1 hg with h2|h2
      ·exact hL.r g h2
      ·rw [List.mem_singleton.1 h2]
       exact ⟨hf.1.norm h1,(Zbd hf.1.s.2).2 hf.2⟩
    obtain ⟨a,b⟩:=ih (ZU L f) ⟨fun g hg=>hR.r g (List.mem_cons_of_mem _ hg)⟩ hc
    have:=UZ L f
    rw [List.foldl_cons,List.length_cons]
    exact ⟨a,by omega⟩
 have:=key R [] h ⟨fun g hg=>by cases hg⟩
 simpa using this
theorem ZiP{L:List Zf}{v:Int}(hL:∀f∈L,FB m f)(h1:1≤m)(hm:m≤5000)(hl:L.length≤5000):
  Zl Tryz.prog (tab (n+10)) 0 37 (Za 60) 3 VB (XK L v [] 0)=some (.exit 0,UO v (L.foldl ZU [])):=by
 have X:=Wg (O:=tab (n+10)) (P:= Tryz.prog) (m:=0) (N:=37) (lives:=Za 60) (r:=3) (C:=VB) (exN:=.exit 0) (L:=L) (enc:=fun i b=>XK L v b i) (f:=fun _ b (f:Zf)=>ZU b f) (Inv:=fun i b=>Bds b∧b.length≤i) (out:=fun b=>UO v b) [] ⟨Bds.nil,by simp⟩ (by omega) (by simp)
  (fun i f b hi hI=>by
   obtain ⟨hI1,hI2⟩:=hI
   have hlt:=(gEi hi).1
   have hf:=hL f (gMe hi)
   have hln:=UZ b f
   refine ⟨?_,hI1.col hf h1 hm,by omega⟩
   rcases ZhS (n:=n+1) hf h1 hm hI1 (by omega) with ⟨e,K⟩|K
   ·rw [e]
    exact Zqv (by omega) hi K ⟨by omega,by omega⟩
   ·exact Zqe (by omega) hi K ⟨by omega,by omega⟩)
  (fun b hI=>Zm7 (by omega))
 rw [QL] at X
 exact X.1
theorem ZwC(h:RowV k m R)(hk:k≤50)(hn:R.length≤9)(h1:1≤m)(hm:m≤5)(hv:vars≤3):
  run (n+10) 60 [.sl 4 (R.map Zh),.lit (.int .i64 (vars:Int))]=some (.tup [.sl 4 ((Zb2 vars R).map Zh),.lit (.int .i64 0)]):=by
 have L1:=ZiP (n:=n) (L:=R) (v:=(vars:Int)) (m:=m) (fun f hf=>(h.r f hf).1) h1 (by omega) (by omega)
 obtain ⟨hc,hcl⟩:=h.col h1
 have hb:=Zcz hc hk (by omega) (by omega)
 have hm2:∀i,i≤2→hh (m+m) i≤1200:=fun i hi=>by
  match i,hi with
  | 0,_=>simp only [hh];omega
  | 1,_=>simp only [hh];omega
  | 2,_=>simp only [hh];omega
 have hc3:∀i,i≤3→cc i≤2500:=fun i hi=>by
  match i,hi with
  | 0,_=>decide
  | 1,_=>decide
  | 2,_=>decide
  | 3,_=>decide
 have step:∀i,i<vars→run (n+9) 18 [.sl 4 ((Qp i (R.foldl ZU [])).map Zh),.lit (.int .i64 (i:Int))]=some (.tup [.sl 4 ((Qp (i+1) (R.foldl ZU [])).map Zh),.lit (.int .i64 0)]):=fun i hi=>by
  obtain ⟨a1,a2⟩:=hb i (by omega)
  obtain ⟨c1,c2⟩:=hb (i+1) (by omega)
  have:=hc3 i (by omega)
  have:=hc3 (i+1) (by omega)
  exact Zsd (n:=n) (v:=(i:Int)) (a1.rb hk (by omega)) (Zdz (by omega) i) (hm2 i (by omega)) (by omega) (by rw [Qp] at c2;omega)
 by_cases h0:vars=0
 ·subst h0
  obtain ⟨_,L2,_⟩:=QV (O:=tab (n+10)) (P:= Tryz.prog) (m:=0) (N:=37) (lives:=Za 60) (r:=7) (C:=Wj) (exN:=.exit 2) (M:=0) (enc:=fun i (_:Unit)=>Vh ((0:Nat):Int) (R.foldl ZU [])) (out:=fun _=>ZaN (R.foldl ZU [])) (fun _ _=>True) () trivial (by omega) (by simp)
   (fun i b hi _=>absurd hi (by omega)) (fun b _=>Zpo (by omega))
  exact Zvu L1 L2
 ·obtain ⟨b,L2,e⟩:=QV (O:=tab (n+10)) (P:= Tryz.prog) (m:=0) (N:=37) (lives:=Za 60) (r:=7) (C:=Wj) (exN:=.exit 2) (M:=vars) (enc:=fun i b=>if i=0 then Vh (vars:Int) b else VX (vars:Int) b i) (out:=fun b=>ZaE b) (fun i b=>b=Qp i (R.foldl ZU [])) (R.foldl ZU []) rfl (by omega) (by simp)
   (fun i b hi hI=>by
    subst hI
    refine ⟨_,?_,rfl⟩
    rw [if_neg (by omega:¬i+1=0)]
    by_cases hi0:i=0
    ·subst hi0
     rw [if_pos rfl]
     exact Znx (by omega) (step 0 hi) rfl
    ·rw [if_neg hi0]
     exact Zmw (by omega) (step i hi) rfl ⟨by omega,by omega⟩)
   (fun b hI=>by
    rw [if_neg h0]
    exact ZmJ (by omega))
  subst e
  rw [if_pos rfl] at L2
  exact ZxZ L1 L2
end
end
section
attribute [local irreducible] run Zr Zl exec
theorem ZqP:ofQ (-1)=-1:=by decide+kernel
theorem of1:ofQ 1=1:=by decide+kernel
structure SB (m j:Nat) (f:Zf):Prop where
 s:Srt f.1
 t:TmB m f.1
 k:H f.2≤m
 l:f.1.length≤j
theorem SB.mono{m k m' k':Nat}{f:Zf}(h:SB m k f)(hm:m≤m')(hk:k≤k'):SB m' k' f:=⟨h.s,TmB.mono h.t hm,by have:=h.k;omega,by have:=h.l;omega⟩
def Zxj(f g:Zf):Zf:=(Wp f.1 (Yh g.1 (-1)),f.2-g.2)
def JS(v:Int):Zf:=([(v,ofQ 1)],0)
theorem Zg1{n m k b j:Nat}{f g:Zf}(hf:SB m k f)(hg:SB b j g)(hm:m≤10000)(hb:b≤1000)(hk:k≤1000)(hj:j≤100):
  run (n+2) 68 [Zc f,Zc g]=some (Zc (Zxj f g))∧run (n+3) 61 [Zc f,Zc g]=some (Zc (Zxj f g)):=by
 have h1:H (-1)≤1:=by decide+kernel
 have k1:=hf.k
 have k2:=hg.k
 have l1:=hf.l
 have l2:=hg.l
 have D:=ZwK (n:=n) (f:=f) (g:=g) (b:=10000) (fun t ht=>by have:=(hf.t t ht).2;omega) (fun t ht=>by have:=(hg.t t ht).2;omega) (by omega) (by omega) (by omega) (by omega) (by omega)
 rw [ZeC hf.s hg.s] at D
 have sc:=ZaG (n:=n+1) (f:=g) (c:=ofQ (-1)) (TmB.mono hg.t (by omega)) (by omega) (by omega) (by rw [ZqP];omega)
 rw [ZqP] at sc
 have lS:=Zgc (-1) g.1
 have tS:=TmB.scl hg.t h1
 have hgm:=Kk g.2 (-1)
 have hmul:(b+1+1)*((Yh g.1 (-1)).length+1)≤1002*101:=Nat.mul_le_mul (by omega) (by omega)
 have fS:=ZuW (n:=n) (f:=f) (g:=(Yh g.1 (-1),g.2*(-1))) (m:=m) (b:=b+1) tS (by dsimp only;omega) hf.t (by omega) (by dsimp only;omega) (by omega) (by dsimp only;omega)
 have fD:=ZwW (n:=n) (a0:=f) (a1:=g) (by rw [ZqP];exact sc) fS
 have eD:f.2+g.2*(-1)=f.2-g.2:=by grind
 dsimp only at fD
 rw [eD] at fD
 exact ⟨D,fD⟩
theorem Zim(v:Int):SB 1 1 (JS v):=by
 have h1:H (ofQ 1)≤1:=by decide+kernel
 have h0:ofQ 1≠0:=by rw [of1];decide
 refine ⟨⟨by simp [JS],fun t ht=>?_⟩,fun t ht=>?_,by show H 0≤1;decide,by simp [JS]⟩
 ·rw [List.mem_singleton.1 ht];exact h0
 ·rw [List.mem_singleton.1 ht];exact ⟨h0,h1⟩
theorem Zu9(v:Int):Zc (JS v)=.agg [.sl 4 [[.lit (.int .i64 v),.lit (.bool (Ze (ofQ 1)).s),Zd (Ze (ofQ 1)).l1,Zd (Ze (ofQ 1)).l2]],.lit (.bool false),.sl 1 [],.sl 1 []]:=by simp [JS]
theorem Zzm{n:Nat}(v:Int):run n 62 [.lit (.int .i64 v)]=some (Zc (JS v)):=by rw [Zu9];exact Zzo
def VP(m:Nat)(f:Zf):Zf:=Zxj (JS (m:Int)) f
def ZdY(m:Nat)(f:Zf):Zf:=(Yh (VP m f).1 (-1),(VP m f).2*(-1))
def Xl(m:Nat)(f:Zf)(R:List Zf):List Zf:=[VP m f,ZdY m f]++R
theorem FB.sb{m:Nat}{f:Zf}(h:FB m f):SB m 100 f:=⟨h.s,h.tm,h.h.2,h.l⟩
theorem Zrc(m:Nat)(u:Int):cof (JS (m:Int)).1 u=if u=(m:Int) then 1 else 0:=by
 unfold JS
 by_cases h:u=(m:Int)
 ·rw [if_pos h,YZ h,of1]
 ·rw [if_neg h,QS h,YO]
section
variable {m k : Nat} {f : Zf}
theorem Ztx(hf:Srt f.1):(∀u,cof (VP m f).1 u=(if u=(m:Int) then 1 else 0)-cof f.1 u)∧(∀u,cof (ZdY m f).1 u=cof f.1 u-(if u=(m:Int) then 1 else 0))∧Srt (VP m f).1∧Srt (ZdY m f).1∧(VP m f).2=-f.2∧(ZdY m f).2=f.2:=by
 have h1:=YP (c:=-1) hf
 have h2:=Zar (F:=(JS (m:Int)).1) (G:=Yh f.1 (-1)) (Zim _).s h1.1
 have c1:∀u,cof (VP m f).1 u=(if u=(m:Int) then 1 else 0)-cof f.1 u:=fun u=>by
  show cof (Wp (JS (m:Int)).1 (Yh f.1 (-1))) u=_
  rw [h2.2,h1.2,Zrc];grind
 have h3:=YP (c:=-1) (F:=(VP m f).1) h2.1
 have e2:(VP m f).2=-f.2:=by
  show (0:Rat)-f.2=_
  grind
 refine ⟨c1,fun u=>?_,h2.1,h3.1,e2,?_⟩
 ·show cof (Yh (VP m f).1 (-1)) u=_
  rw [h3.2,c1];grind
 ·show (VP m f).2*(-1)=_
  rw [e2];grind
theorem Zfw{F:List (Int × Rat)}(hi:InR m F){u:Int}(h:¬(0≤u∧u<(m:Int))):cof F u=0:=Vn fun t ht e=>h (e▸hi t ht)
theorem ZiU(hf:FB k f)(hk:1≤k)(hi:InR m f.1)(hm:m≤50):FB k (VP m f)∧FB k (ZdY m f)∧InR (m+1) (VP m f).1∧InR (m+1) (ZdY m f).1:=by
 obtain ⟨c1,c2,s1,s2,e1,e2⟩:=Ztx (m:=m) hf.s
 have H1:H 1≤1:=by decide+kernel
 have Hm1:H (-1)≤1:=by decide+kernel
 have hcf:∀u,H (cof f.1 u)≤k:=fun u=>Zbj hk hf.h.1
 have key:∀(g:Zf),Srt g.1→(∀u,cof g.1 u=(if u=(m:Int) then 1 else 0)-cof f.1 u∨cof g.1 u=cof f.1 u-(if u=(m:Int) then 1 else 0))→InR (m+1) g.1∧(∀t∈g.1,H t.2≤k):=fun g hs hc=>by
  have hin:InR (m+1) g.1:=fun t ht=>by
   have h1:=Ze9 hs t ht
   have h2:=hs.2 t ht
   by_cases hu:t.1=(m:Int)
   ·rw [hu];omega
   ·by_cases h9:0≤t.1∧t.1<(m:Int)
    ·omega
    ·exfalso
     rcases hc t.1 with h|h
     ·rw [if_neg hu,Zfw hi h9,h1] at h;exact h2 (by rw [h];decide+kernel)
     ·rw [if_neg hu,Zfw hi h9,h1] at h;exact h2 (by rw [h];decide+kernel)
  refine ⟨hin,fun t ht=>?_⟩
  have h1:=Ze9 hs t ht
  by_cases hu:t.1=(m:Int)
  ·have h0:=Zfw hi (u:=(m:Int)) (by omega)
   rcases hc t.1 with h|h
   ·rw [if_pos hu,hu,h0] at h
    rw [←h1,hu,h,show (1:Rat)-0=1 from by grind];omega
   ·rw [if_pos hu,hu,h0] at h
    rw [←h1,hu,h,show (0:Rat)-1=-1 from by grind];omega
  ·have h3:=hcf t.1
   rcases hc t.1 with h|h
   ·rw [if_neg hu] at h
    rw [←h1,h,show (0:Rat)-cof f.1 t.1=-cof f.1 t.1 from by grind,Zbb];exact h3
   ·rw [if_neg hu] at h
    rw [←h1,h,show cof f.1 t.1-0=cof f.1 t.1 from by grind];exact h3
 obtain ⟨i1,t1⟩:=key (VP m f) s1 fun u=>.inl (c1 u)
 obtain ⟨i2,t2⟩:=key (ZdY m f) s2 fun u=>.inr (c2 u)
 have len:∀g:Zf,Srt g.1→InR (m+1) g.1→g.1.length≤100:=fun g hs hi=>by
  have key2:∀{F:List (Int × Rat)} {a:Int},Srt F→(∀t∈F,a≤t.1∧t.1<((m+1:Nat):Int))→F.length≤(((m+1:Nat):Int)-a).toNat:=fun {F}=>by
   induction F with
   | nil=>intro a _ _;exact Nat.zero_le _
   | cons t F ih=>
     intro a hs h
     have h1:=h t List.mem_cons_self
     have:=ih (a:=t.1+1) hs.tail fun u hu=>⟨by have:=hs.head u hu;omega,(h u (List.mem_cons_of_mem _ hu)).2⟩
     rw [List.length_cons]
     omega
  have:=key2 (a:=0) hs hi
  omega
 have vv:∀g:Zf,InR (m+1) g.1→∀t∈g.1,0≤t.1∧t.1<1099511627776:=fun g hi t ht=>by
  have:=hi t ht
  omega
 exact ⟨⟨s1,⟨t1,by rw [e1,Zbb];exact hf.h.2⟩,len _ s1 i1,vv _ i1⟩,⟨s2,⟨t2,by rw [e2];exact hf.h.2⟩,len _ s2 i2,vv _ i2⟩,i1,i2⟩
theorem Zu6{n:Nat}(hf:FB 2 f)(hi:InR m f.1)(hm:m≤50):run (n+3) 61 [Zc (JS (m:Int)),Zc f]=some (Zc (VP m f))∧run (n+3) 41 [Zc (VP m f),Zk (ofQ (-1))]=some (Zc (ZdY m f)):=by
 obtain ⟨b1,_,_,_⟩:=ZiU hf (by omega) hi hm
 have h1:H (-1)≤1:=by decide+kernel
 refine ⟨(Zg1 (n:=n) (Zim (m:Int)) hf.sb (by omega) (by omega) (by omega) (by omega)).2,?_⟩
 rw [ZqP]
 have:=b1.l
 exact ZaG (n:=n+2) (f:=VP m f) (c:=-1) (b1.mono (k:=1000000) (by omega)).tm (by omega) (by have:=b1.h.2;omega) (by omega)
theorem Zze{n:Nat}(hf:FB 2 f)(hi:InR m f.1)(hm:m≤50):run (n+3) 68 [Zc (JS (m:Int)),Zc f]=some (Zc (VP m f))∧run (n+3) 37 [Zc (VP m f),Zk (ofQ (-1))]=some (Zc (ZdY m f)):=by
 obtain ⟨b1,_,_,_⟩:=ZiU hf (by omega) hi hm
 have h1:H (-1)≤1:=by decide+kernel
 refine ⟨(Zg1 (n:=n+1) (Zim (m:Int)) hf.sb (by omega) (by omega) (by omega) (by omega)).1,?_⟩
 rw [ZqP]
 have K:=Zf1 (n:=n+1) (f:=VP m f) (c:=-1) (b:=2) b1.h.1 (by omega) (by have:=b1.h.2;omega) (by omega) (by have:=b1.l;omega)
 rw [Uq] at K
 exact K
theorem ZpF{R:List Zf}(hf:FB 2 f)(hi:InR m f.1)(hm:m≤50)(hR:∀g∈R,FB 2 g∧InR m g.1):∀g∈Xl m f R,FB 2 g∧InR (m+1) g.1:=fun g hg=>by
 obtain ⟨b1,b2,i1,i2⟩:=ZiU hf (by omega) hi hm
 rcases List.mem_append.1 hg with h|h
 ·simp only [List.mem_cons,List.not_mem_nil,or_false] at h
  rcases h with rfl|rfl
  ·exact ⟨b1,i1⟩
  ·exact ⟨b2,i2⟩
 ·exact ⟨(hR g h).1,fun t ht=>by have:=(hR g h).2 t ht;omega⟩
end
end
noncomputable def QZ:Code:=(Zb (ZR Tryz.f29)).getD 0 .skip
noncomputable def ZM:Code:=(Zb (ZR Tryz.f29)).getD 1 .skip
noncomputable def ZW:Code:=(Zb ZM).getD 0 .skip
def YU(a0:ZO)(out_8:List Zf)(out2_8:List ZI)(i_8:Nat):St:=
 ⟨[(3,.ptr 0 0),(4,.lit (.int .i64 (a0.Vars))),(6,.own 1 out_8.length),(7,.own 2 out2_8.length),(8,.lit (.int .i64 (i_8:Int)))],
  [(0,some (.box 26 [.lit (.bool false),.nl 1,.nl 1] false)),
   (1,some (.row 28 4 (out_8.map Zh) 0)),
   (2,some (.row 93 2 (out2_8.map Yi) 0))],3⟩
def Yw(a0:ZO)(out_20:List ZI)(out_16:List Bool)(i_20:Int)(i2_20:Nat)(fz_20:Nat):St:=
 ⟨[(3,.ptr 0 0),(4,.lit (.int .i64 (a0.Vars))),(7,.own 1 out_20.length),(11,.own 2 out_16.length),(12,.lit (.int .i64 1)),(13,.lit (.int .i64 i_20)),(14,.lit (.int .i64 (i2_20:Int)))],
  [(0,some (.box 26 [.lit (.bool false),.nl 1,.nl 1] false)),
   (1,some (.row 93 2 (out_20.map Yi) fz_20)),
   (2,some (.row 4 1 (out_16.map ZcI) 0))],3⟩
def Z0(a0:ZO)(l_16b:List ZI)(out_16b:List Bool)(i_16b:Nat)(i_20:Int)(i2_20:Nat):St:=
 ⟨[(3,.ptr 0 0),(4,.lit (.int .i64 (a0.Vars))),(7,.sl 2 (l_16b.map Yi)),(11,.own 1 out_16b.length),(12,.lit (.int .i64 (i_16b:Int))),(13,.lit (.int .i64 i_20)),(14,.lit (.int .i64 (i2_20:Int)))],
  [(0,some (.box 26 [.lit (.bool false),.nl 1,.nl 1] false)),
   (1,some (.row 4 1 (out_16b.map ZcI) 0))],2⟩
def Yb(a0:ZO)(out2_8:List ZI)(out_16:List Bool):St:=
 ⟨[(3,.ptr 0 0),(4,.lit (.int .i64 (a0.Vars))),(7,.own 1 out2_8.length),(11,.own 2 out_16.length),(12,.lit (.int .i64 1))],
  [(0,some (.box 26 [.lit (.bool false),.nl 1,.nl 1] false)),
   (1,some (.row 93 2 (out2_8.map Yi) 0)),
   (2,some (.row 4 1 (out_16.map ZcI) 0))],3⟩
def Y7(a0:ZO)(l_16b:List ZI)(out_16b:List Bool)(i_16b:Nat):St:=
 ⟨[(3,.ptr 0 0),(4,.lit (.int .i64 (a0.Vars))),(7,.sl 2 (l_16b.map Yi)),(11,.own 1 out_16b.length),(12,.lit (.int .i64 (i_16b:Int)))],
  [(0,some (.box 26 [.lit (.bool false),.nl 1,.nl 1] false)),
   (1,some (.row 4 1 (out_16b.map ZcI) 0))],2⟩
def Jh(a0:ZO)(out2_8:List ZI):St:=
 ⟨[(2,.lit (.int .i64 0)),(3,.ptr 0 0),(4,.lit (.int .i64 (a0.Vars))),(7,.own 1 out2_8.length)],
  [(0,some (.box 26 [.lit (.bool false),.nl 1,.nl 1] false)),
   (1,some (.row 93 2 (out2_8.map Yi) 0))],2⟩
def Wc(a0:ZO)(out2_8:List ZI):St:=
 ⟨[(2,.any),(3,.ptr 0 0),(4,.lit (.int .i64 (a0.Vars))),(7,.own 1 out2_8.length)],
  [(0,some (.box 26 [.lit (.bool false),.nl 1,.nl 1] false)),
   (1,some (.row 93 2 (out2_8.map Yi) 0))],2⟩
def Va(a0:ZO)(out_20:List ZI)(out_16:List Bool)(i_20:Int)(fz_20:Nat):St:=
 ⟨[(3,.ptr 0 0),(4,.lit (.int .i64 (a0.Vars))),(7,.own 1 out_20.length),(11,.own 2 out_16.length),(12,.lit (.int .i64 1)),(13,.lit (.int .i64 i_20))],
  [(0,some (.box 26 [.lit (.bool false),.nl 1,.nl 1] false)),
   (1,some (.row 93 2 (out_20.map Yi) fz_20)),
   (2,some (.row 4 1 (out_16.map ZcI) 0))],3⟩
def Qm(a0:ZO)(l_16b:List ZI)(out_16b:List Bool)(i_16b:Nat)(i_20:Int):St:=
 ⟨[(3,.ptr 0 0),(4,.lit (.int .i64 (a0.Vars))),(7,.sl 2 (l_16b.map Yi)),(11,.own 1 out_16b.length),(12,.lit (.int .i64 (i_16b:Int))),(13,.lit (.int .i64 i_20))],
  [(0,some (.box 26 [.lit (.bool false),.nl 1,.nl 1] false)),
   (1,some (.row 4 1 (out_16b.map ZcI) 0))],2⟩
def Uz(a0:ZO)(out_20:List ZI):St:=
 ⟨[(2,.lit (.int .i64 0)),(3,.ptr 0 0),(4,.lit (.int .i64 (a0.Vars))),(7,.own 1 out_20.length)],
  [(0,some (.box 26 [.lit (.bool false),.nl 1,.nl 1] false)),
   (1,some (.row 93 2 (out_20.map Yi) out_20.length))],2⟩
def UD(a0:ZO)(r58:List ZI):St:=
 ⟨[(2,.lit (.int .i64 0)),(3,.ptr 0 0),(4,.lit (.int .i64 (a0.Vars))),(7,.sl 2 (r58.map Yi))],
  [(0,some (.box 26 [.lit (.bool false),.nl 1,.nl 1] false))],1⟩
def WT(a0:ZO)(out2_8:List ZI):St:=
 ⟨[(2,.any),(3,.ptr 0 0),(4,.lit (.int .i64 (a0.Vars))),(7,.own 1 out2_8.length)],
  [(0,some (.box 26 [.lit (.bool false),.nl 1,.nl 1] false)),
   (1,some (.row 93 2 (out2_8.map Yi) 0))],2⟩
def Ul(a0:ZO)(l_16b:List ZI):St:=
 ⟨[(2,.lit (.int .i64 0)),(3,.ptr 0 0),(4,.lit (.int .i64 (a0.Vars))),(7,.sl 2 (l_16b.map Yi))],
  [(0,some (.box 26 [.lit (.bool false),.nl 1,.nl 1] false))],1⟩
def Uf(a0:ZO)(r65:List ZI):St:=
 ⟨[(2,.lit (.int .i64 0)),(3,.ptr 0 0),(4,.lit (.int .i64 (a0.Vars))),(7,.sl 2 (r65.map Yi))],
  [(0,some (.box 26 [.lit (.bool false),.nl 1,.nl 1] false))],1⟩
def WY(a0:ZO)(l_16b:List ZI):St:=
 ⟨[(2,.any),(3,.ptr 0 0),(4,.lit (.int .i64 (a0.Vars))),(7,.sl 2 (l_16b.map Yi))],
  [(0,some (.box 26 [.lit (.bool false),.nl 1,.nl 1] false))],1⟩
section
variable{out_8:List Zf}{r9:Bool}{z3:Int}{q3:Rat}{i_8:Nat}{out2_8:List ZI}{r8:List Int}{n:Nat}{F3:List (Int × Rat)}{a0:ZO}{out_20:List ZI}{fz_20:Nat}{out_16:List Bool}{i2_20:Nat}{i_20:Int}{x22:Bool}{r55:Int}{r56:Int}
section
variable(C1:(i_8:Int)<(out_8.length:Int))(G2:i_8<out_8.length)(E3:out_8[i_8]?=some (F3,q3))(W4:InI (a0.Vars+1))(K5:run (n+3) 63 [Zc (F3,q3),.lit (.int .i64 (a0.Vars+1))]=some (.tup [.sl 1 (r8.map ZK),.lit (.bool r9)]))
include C1 G2 E3 W4 K5
theorem ZnC(C6:r9=true)(D7:IntKind.u64.wrap (1*2 ^ min ((i_8:Int):Int).toNat IntKind.u64.bits)=z3)(M8:out2_8.length+1≤100000000)(W9:InI ((i_8:Int)+1)):
  Zm 0 (exec Tryz.prog (tab (n+4)) 0 115 (Za 29) big QZ) (Za 29 8) (YU a0 out_8 out2_8 i_8) (YU a0 out_8 (out2_8++[(⟨r8,z3⟩:ZI)]) (i_8+1)):=by
 have C1_:i_8<out_8.length:=by omega
 obtain ⟨EL3,EG3⟩:=gEi E3
 have W4_:IntKind.i64.wrap (a0.Vars+1)=a0.Vars+1:=Zp W4.1 W4.2
 simp only [Zc] at K5
 have O7:¬(((i_8:Int):Int)<0):=by omega
 simp at D7
 have M8_:∀b,b≤10000→ZG (out2_8.length+1) b=true:=fun b hb=>Zq M8 hb
 have W9_:IntKind.i64.wrap ((i_8:Int)+1)=(i_8:Int)+1:=Zp W9.1 W9.2
 apply ZB
 simp+decide [YU,Zb, Tryz.f29,QZ,C1,C1_,EG3,W4_,K5,C6,O7,D7,M8_,W9_]
theorem ZnR(C6:r9=false):
  Zj 0 (exec Tryz.prog (tab (n+4)) 0 115 (Za 29) big QZ) (Za 29 (Zo 8)) (YU a0 out_8 out2_8 i_8) (.ret) (Jh a0 out2_8):=by
 have C1_:i_8<out_8.length:=by omega
 obtain ⟨EL3,EG3⟩:=gEi E3
 have W4_:IntKind.i64.wrap (a0.Vars+1)=a0.Vars+1:=Zp W4.1 W4.2
 simp only [Zc] at K5
 apply ZA
 simp+decide [YU,Zb, Tryz.f29,Jh,QZ,C1,C1_,EG3,W4_,K5,C6]
end
theorem ZnU(C1:¬(i_8:Int)<(out_8.length:Int)):
  Zj 0 (exec Tryz.prog (tab (n+4)) 0 115 (Za 29) big QZ) (Za 29 (Zo 8)) (YU a0 out_8 out2_8 i_8) (.exit 0) (Wc a0 out2_8):=by
 apply ZA
 simp+decide [YU,Zb, Tryz.f29,Wc,QZ,C1]
section
variable(C1:(i2_20:Int)<a0.Vars)(G2:i2_20<out_16.length)(E3:out_16[i2_20]?=some x22)
include C1 G2 E3
theorem ZmV(C4:x22=false)(C5:i_20<0)(W6:InI ((i2_20:Int)+1)):
  Zm 0 (exec Tryz.prog (tab (n+4)) 0 115 (Za 29) big ZW) (Za 29 20) (Yw a0 out_20 out_16 i_20 i2_20 fz_20) (Yw a0 out_20 out_16 (i2_20:Int) (i2_20+1) fz_20):=by
 obtain ⟨EL3,EG3⟩:=gEi E3
 have W6_:IntKind.i64.wrap ((i2_20:Int)+1)=(i2_20:Int)+1:=Zp W6.1 W6.2
 apply ZB
 simp+decide [Yw,Zb, Tryz.f29,ZM,ZW,C1,G2,EG3,C4,C5,W6_]
section
variable(C4:x22=false)(C5:¬i_20<0)(K6:run (n+3) 64 [.sl 2 (out_20.map Yi),.lit (.int .i64 (i2_20:Int))]=some (.lit (.int .i64 r55)))(K7:run (n+3) 64 [.sl 2 (out_20.map Yi),.lit (.int .i64 i_20)]=some (.lit (.int .i64 r56)))
include C4 C5 K6 K7
theorem Zmv(C8:r55<r56)(W9:InI ((i2_20:Int)+1)):
  Zm 0 (exec Tryz.prog (tab (n+4)) 0 115 (Za 29) big ZW) (Za 29 20) (Yw a0 out_20 out_16 i_20 i2_20 fz_20) (Yw a0 out_20 out_16 (i2_20:Int) (i2_20+1) out_20.length):=by
 obtain ⟨EL3,EG3⟩:=gEi E3
 have W9_:IntKind.i64.wrap ((i2_20:Int)+1)=(i2_20:Int)+1:=Zp W9.1 W9.2
 apply ZB
 simp+decide [Yw,Zb, Tryz.f29,ZM,ZW,C1,G2,EG3,C4,C5,K6,K7,C8,W9_]
theorem ZkW(C8:¬r55<r56)(W9:InI ((i2_20:Int)+1)):
  Zm 0 (exec Tryz.prog (tab (n+4)) 0 115 (Za 29) big ZW) (Za 29 20) (Yw a0 out_20 out_16 i_20 i2_20 fz_20) (Yw a0 out_20 out_16 i_20 (i2_20+1) out_20.length):=by
 obtain ⟨EL3,EG3⟩:=gEi E3
 have W9_:IntKind.i64.wrap ((i2_20:Int)+1)=(i2_20:Int)+1:=Zp W9.1 W9.2
 apply ZB
 simp+decide [Yw,Zb, Tryz.f29,ZM,ZW,C1,G2,EG3,C4,C5,K6,K7,C8,W9_]
end
theorem ZlR(C4:x22=true)(W5:InI ((i2_20:Int)+1)):
  Zm 0 (exec Tryz.prog (tab (n+4)) 0 115 (Za 29) big ZW) (Za 29 20) (Yw a0 out_20 out_16 i_20 i2_20 fz_20) (Yw a0 out_20 out_16 i_20 (i2_20+1) fz_20):=by
 obtain ⟨EL3,EG3⟩:=gEi E3
 have W5_:IntKind.i64.wrap ((i2_20:Int)+1)=(i2_20:Int)+1:=Zp W5.1 W5.2
 apply ZB
 simp+decide [Yw,Zb, Tryz.f29,ZM,ZW,C1,G2,EG3,C4,W5_]
end
theorem Zlg(C1:¬(i2_20:Int)<a0.Vars):
  Zj 0 (exec Tryz.prog (tab (n+4)) 0 115 (Za 29) big ZW) (Za 29 (Zo 20)) (Yw a0 out_20 out_16 i_20 i2_20 fz_20) (.exit 4) (Va a0 out_20 out_16 i_20 fz_20):=by
 apply ZA
 simp+decide [Yw,Zb, Tryz.f29,Va,ZM,ZW,C1]
end
theorem ZhZ{n:Nat}{a0:ZO}{i2_20:Nat}{out_16b:List Bool}{x25:Bool}{i_20:Int}{l_16b:List ZI}{i_16b:Nat}(C1:(i2_20:Int)<a0.Vars)(G2:i2_20<out_16b.length)(E3:out_16b[i2_20]?=some x25)(C4:x25=false)(C5:i_20<0)(W6:InI ((i2_20:Int)+1)):
  Zm 0 (exec Tryz.prog (tab (n+4)) 0 115 (Za 29) big ZW) (Za 29 20) (Z0 a0 l_16b out_16b i_16b i_20 i2_20) (Z0 a0 l_16b out_16b i_16b (i2_20:Int) (i2_20+1)):=by
 obtain ⟨EL3,EG3⟩:=gEi E3
 have W6_:IntKind.i64.wrap ((i2_20:Int)+1)=(i2_20:Int)+1:=Zp W6.1 W6.2
 apply ZB
 simp+decide [Z0,Zb, Tryz.f29,ZM,ZW,C1,G2,EG3,C4,C5,W6_]
theorem Zih{n:Nat}{a0:ZO}{i2_20:Nat}{out_16b:List Bool}{x25:Bool}{i_20:Int}{l_16b:List ZI}{r62:Int}{r63:Int}{i_16b:Nat}(C1:(i2_20:Int)<a0.Vars)(G2:i2_20<out_16b.length)(E3:out_16b[i2_20]?=some x25)(C4:x25=false)(C5:¬i_20<0)(K6:run (n+3) 64 [.sl 2 (l_16b.map Yi),.lit (.int .i64 (i2_20:Int))]=some (.lit (.int .i64 r62)))(K7:run (n+3) 64 [.sl 2 (l_16b.map Yi),.lit (.int .i64 i_20)]=some (.lit (.int .i64 r63)))(C8:r62<r63)(W9:InI ((i2_20:Int)+1)):
  Zm 0 (exec Tryz.prog (tab (n+4)) 0 115 (Za 29) big ZW) (Za 29 20) (Z0 a0 l_16b out_16b i_16b i_20 i2_20) (Z0 a0 l_16b out_16b i_16b (i2_20:Int) (i2_20+1)):=by
 obtain ⟨EL3,EG3⟩:=gEi E3
 have W9_:IntKind.i64.wrap ((i2_20:Int)+1)=(i2_20:Int)+1:=Zp W9.1 W9.2
 apply ZB
 simp+decide [Z0,Zb, Tryz.f29,ZM,ZW,C1,G2,EG3,C4,C5,K6,K7,C8,W9_]
theorem Ziy{n:Nat}{a0:ZO}{i2_20:Nat}{out_16b:List Bool}{x25:Bool}{i_20:Int}{l_16b:List ZI}{r62:Int}{r63:Int}{i_16b:Nat}(C1:(i2_20:Int)<a0.Vars)(G2:i2_20<out_16b.length)(E3:out_16b[i2_20]?=some x25)(C4:x25=false)(C5:¬i_20<0)(K6:run (n+3) 64 [.sl 2 (l_16b.map Yi),.lit (.int .i64 (i2_20:Int))]=some (.lit (.int .i64 r62)))(K7:run (n+3) 64 [.sl 2 (l_16b.map Yi),.lit (.int .i64 i_20)]=some (.lit (.int .i64 r63)))(C8:¬r62<r63)(W9:InI ((i2_20:Int)+1)):
  Zm 0 (exec Tryz.prog (tab (n+4)) 0 115 (Za 29) big ZW) (Za 29 20) (Z0 a0 l_16b out_16b i_16b i_20 i2_20) (Z0 a0 l_16b out_16b i_16b i_20 (i2_20+1)):=by
 obtain ⟨EL3,EG3⟩:=gEi E3
 have W9_:IntKind.i64.wrap ((i2_20:Int)+1)=(i2_20:Int)+1:=Zp W9.1 W9.2
 apply ZB
 simp+decide [Z0,Zb, Tryz.f29,ZM,ZW,C1,G2,EG3,C4,C5,K6,K7,C8,W9_]
theorem ZiF{n:Nat}{a0:ZO}{i2_20:Nat}{out_16b:List Bool}{x25:Bool}{l_16b:List ZI}{i_16b:Nat}{i_20:Int}(C1:(i2_20:Int)<a0.Vars)(G2:i2_20<out_16b.length)(E3:out_16b[i2_20]?=some x25)(C4:x25=true)(W5:InI ((i2_20:Int)+1)):
  Zm 0 (exec Tryz.prog (tab (n+4)) 0 115 (Za 29) big ZW) (Za 29 20) (Z0 a0 l_16b out_16b i_16b i_20 i2_20) (Z0 a0 l_16b out_16b i_16b i_20 (i2_20+1)):=by
 obtain ⟨EL3,EG3⟩:=gEi E3
 have W5_:IntKind.i64.wrap ((i2_20:Int)+1)=(i2_20:Int)+1:=Zp W5.1 W5.2
 apply ZB
 simp+decide [Z0,Zb, Tryz.f29,ZM,ZW,C1,G2,EG3,C4,W5_]
theorem ZiR{n:Nat}{a0:ZO}{i2_20:Nat}{l_16b:List ZI}{out_16b:List Bool}{i_16b:Nat}{i_20:Int}(C1:¬(i2_20:Int)<a0.Vars):
  Zj 0 (exec Tryz.prog (tab (n+4)) 0 115 (Za 29) big ZW) (Za 29 (Zo 20)) (Z0 a0 l_16b out_16b i_16b i_20 i2_20) (.exit 4) (Qm a0 l_16b out_16b i_16b i_20):=by
 apply ZA
 simp+decide [Z0,Zb, Tryz.f29,Qm,ZM,ZW,C1]
section
variable {out_20 : List ZI} {fz_20 : Nat} {out_16 : List Bool} {out2_8 : List ZI} {r57 : Int} {n : Nat} {i_20 : Int} {r58 : List ZI} {a0 : ZO} {r59 : Bool}
section
variable(C1:1≤a0.Vars)(L2:Zl Tryz.prog (tab (n+4)) 0 115 (Za 29) 20 ZW (Yw a0 out2_8 out_16 (-1) 0 0)=some (.exit 4,Va a0 out_20 out_16 i_20 fz_20))(K3:run (n+3) 64 [.sl 2 (out_20.map Yi),.lit (.int .i64 i_20)]=some (.lit (.int .i64 r57)))
include C1 L2 K3
theorem ZmP(C4:¬20000<r57)(K5:run (n+3) 65 [.sl 2 (out_20.map Yi),.lit (.int .i64 i_20),.lit (.int .i64 1)]=some (.tup [.sl 2 (r58.map Yi),.lit (.bool r59)]))(C6:r59=true)(G7:i_20.toNat<out_16.length)(Z7:0≤i_20):
  Zm 0 (exec Tryz.prog (tab (n+4)) 0 115 (Za 29) big ZM) (Za 29 16) (Yb a0 out2_8 out_16) (Y7 a0 r58 (out_16.set i_20.toNat true) 2):=by
 apply ZB
 simp+decide [Yb,Zb, Tryz.f29,ZM,Y7,C1]
 rw [Zi (C':=ZW) (e:=(Yw a0 out2_8 out_16 (-1) 0 0)) ?_ ?_,L2]
 rotate_left
 ·kernel_rfl
 ·simp+decide [Yw, Tryz.f29]
 simp+decide [Va, Tryz.f29,K3,C4,K5,C6,G7,Z7]
theorem ZkM(C4:20000<r57):
  Zj 0 (exec Tryz.prog (tab (n+4)) 0 115 (Za 29) big ZM) (Za 29 (Zo 16)) (Yb a0 out2_8 out_16) (.ret) (Uz a0 out_20):=by
 apply ZA
 simp+decide [Yb,Zb, Tryz.f29,Uz,ZM,C1]
 rw [Zi (C':=ZW) (e:=(Yw a0 out2_8 out_16 (-1) 0 0)) ?_ ?_,L2]
 rotate_left
 ·kernel_rfl
 ·simp+decide [Yw, Tryz.f29]
 simp+decide [Va, Tryz.f29,K3,C4]
theorem Zl4(C4:¬20000<r57)(K5:run (n+3) 65 [.sl 2 (out_20.map Yi),.lit (.int .i64 i_20),.lit (.int .i64 1)]=some (.tup [.sl 2 (r58.map Yi),.lit (.bool r59)]))(C6:r59=false):
  Zj 0 (exec Tryz.prog (tab (n+4)) 0 115 (Za 29) big ZM) (Za 29 (Zo 16)) (Yb a0 out2_8 out_16) (.ret) (UD a0 r58):=by
 apply ZA
 simp+decide [Yb,Zb, Tryz.f29,UD,ZM,C1]
 rw [Zi (C':=ZW) (e:=(Yw a0 out2_8 out_16 (-1) 0 0)) ?_ ?_,L2]
 rotate_left
 ·kernel_rfl
 ·simp+decide [Yw, Tryz.f29]
 simp+decide [Va, Tryz.f29,K3,C4,K5,C6]
end
theorem ZmE(C1:¬1≤a0.Vars):
  Zj 0 (exec Tryz.prog (tab (n+4)) 0 115 (Za 29) big ZM) (Za 29 (Zo 16)) (Yb a0 out2_8 out_16) (.exit 2) (WT a0 out2_8):=by
 apply ZA
 simp+decide [Yb,Zb, Tryz.f29,WT,ZM,C1]
end
theorem Zid{n:Nat}{a0:ZO}{i_16b:Nat}{l_16b:List ZI}{out_16b:List Bool}{i_20:Int}{r64:Int}{r65:List ZI}{r66:Bool}(C1:(i_16b:Int)≤a0.Vars)(L2:Zl Tryz.prog (tab (n+4)) 0 115 (Za 29) 20 ZW (Z0 a0 l_16b out_16b i_16b (-1) 0)=some (.exit 4,Qm a0 l_16b out_16b i_16b i_20))(K3:run (n+3) 64 [.sl 2 (l_16b.map Yi),.lit (.int .i64 i_20)]=some (.lit (.int .i64 r64)))(C4:¬20000<r64)(K5:run (n+3) 65 [.sl 2 (l_16b.map Yi),.lit (.int .i64 i_20),.lit (.int .i64 (i_16b:Int))]=some (.tup [.sl 2 (r65.map Yi),.lit (.bool r66)]))(C6:r66=true)(G7:i_20.toNat<out_16b.length)(Z7:0≤i_20)(W9:InI ((i_16b:Int)+1)):
  Zm 0 (exec Tryz.prog (tab (n+4)) 0 115 (Za 29) big ZM) (Za 29 16) (Y7 a0 l_16b out_16b i_16b) (Y7 a0 r65 (out_16b.set i_20.toNat true) (i_16b+1)):=by
 have W9_:IntKind.i64.wrap ((i_16b:Int)+1)=(i_16b:Int)+1:=Zp W9.1 W9.2
 apply ZB
 simp+decide [Y7,Zb, Tryz.f29,ZM,C1]
 rw [Zi (C':=ZW) (e:=(Z0 a0 l_16b out_16b i_16b (-1) 0)) ?_ ?_,L2]
 rotate_left
 ·kernel_rfl
 ·simp+decide [Z0, Tryz.f29]
 simp+decide [Qm, Tryz.f29,K3,C4,K5,C6,G7,Z7,W9_]
theorem ZiC{n:Nat}{a0:ZO}{i_16b:Nat}{l_16b:List ZI}{out_16b:List Bool}{i_20:Int}{r64:Int}(C1:(i_16b:Int)≤a0.Vars)(L2:Zl Tryz.prog (tab (n+4)) 0 115 (Za 29) 20 ZW (Z0 a0 l_16b out_16b i_16b (-1) 0)=some (.exit 4,Qm a0 l_16b out_16b i_16b i_20))(K3:run (n+3) 64 [.sl 2 (l_16b.map Yi),.lit (.int .i64 i_20)]=some (.lit (.int .i64 r64)))(C4:20000<r64):
  Zj 0 (exec Tryz.prog (tab (n+4)) 0 115 (Za 29) big ZM) (Za 29 (Zo 16)) (Y7 a0 l_16b out_16b i_16b) (.ret) (Ul a0 l_16b):=by
 apply ZA
 simp+decide [Y7,Zb, Tryz.f29,Ul,ZM,C1]
 rw [Zi (C':=ZW) (e:=(Z0 a0 l_16b out_16b i_16b (-1) 0)) ?_ ?_,L2]
 rotate_left
 ·kernel_rfl
 ·simp+decide [Z0, Tryz.f29]
 simp+decide [Qm, Tryz.f29,K3,C4]
theorem Zh9{n:Nat}{a0:ZO}{i_16b:Nat}{l_16b:List ZI}{out_16b:List Bool}{i_20:Int}{r64:Int}{r65:List ZI}{r66:Bool}(C1:(i_16b:Int)≤a0.Vars)(L2:Zl Tryz.prog (tab (n+4)) 0 115 (Za 29) 20 ZW (Z0 a0 l_16b out_16b i_16b (-1) 0)=some (.exit 4,Qm a0 l_16b out_16b i_16b i_20))(K3:run (n+3) 64 [.sl 2 (l_16b.map Yi),.lit (.int .i64 i_20)]=some (.lit (.int .i64 r64)))(C4:¬20000<r64)(K5:run (n+3) 65 [.sl 2 (l_16b.map Yi),.lit (.int .i64 i_20),.lit (.int .i64 (i_16b:Int))]=some (.tup [.sl 2 (r65.map Yi),.lit (.bool r66)]))(C6:r66=false):
  Zj 0 (exec Tryz.prog (tab (n+4)) 0 115 (Za 29) big ZM) (Za 29 (Zo 16)) (Y7 a0 l_16b out_16b i_16b) (.ret) (Uf a0 r65):=by
 apply ZA
 simp+decide [Y7,Zb, Tryz.f29,Uf,ZM,C1]
 rw [Zi (C':=ZW) (e:=(Z0 a0 l_16b out_16b i_16b (-1) 0)) ?_ ?_,L2]
 rotate_left
 ·kernel_rfl
 ·simp+decide [Z0, Tryz.f29]
 simp+decide [Qm, Tryz.f29,K3,C4,K5,C6]
theorem Ziz{n:Nat}{a0:ZO}{i_16b:Nat}{l_16b:List ZI}{out_16b:List Bool}(C1:¬(i_16b:Int)≤a0.Vars):
  Zj 0 (exec Tryz.prog (tab (n+4)) 0 115 (Za 29) big ZM) (Za 29 (Zo 16)) (Y7 a0 l_16b out_16b i_16b) (.exit 2) (WY a0 l_16b):=by
 apply ZA
 simp+decide [Y7,Zb, Tryz.f29,WY,ZM,C1]
section
variable {r : Zf} {out2_8 : List ZI} {r2 : Zf} {n : Nat} {r3 : Zf} {a0 : ZO} {out_20 : List ZI} {r58 : List ZI} {r68 : Rat} {r67 : Int} {l_16b : List ZI} {r65 : List ZI} {r70 : Rat} {r69 : Int}
section
variable(K1:run (n+3) 62 [.lit (.int .i64 (a0.Vars))]=some (Zc r))(K2:run (n+3) 61 [Zc r,Zc a0.Objective]=some (Zc r2))(K4:run (n+3) 41 [Zc r2,Zk (ofQ (-1))]=some (Zc r3))(M5:a0.Rows.length+2≤100000000)(C6:¬62<(a0.Rows.length+2:Int))
include K1 K2 K4 M5 C6
theorem ZvT(L7:Zl Tryz.prog (tab (n+4)) 0 115 (Za 29) 8 QZ (YU a0 ([r2,r3]++a0.Rows) [] 0)=some (.ret,Jh a0 out2_8)):
  run (n+4) 29 [WR a0]=some (.tup [.lit (.int .i64 0),.agg [.lit (.bool false),.sl 1 [],.sl 1 []]]):=by
 simp only [Zc] at K1
 simp only [Zc] at K2
 have K3:=YD (z:=(-1)) (by omega) (by omega)
 simp only [Zk,Zc] at K4
 have M5_:∀b,b≤10000→ZG (a0.Rows.length+2) b=true:=fun b hb=>Zq M5 hb
 have M5_r:2+(a0.Rows.length)=a0.Rows.length+2:=Nat.add_comm _ _
 unfold run fnP
 simp+decide [Tryz.f29,K1,K2,K3,K4,M5_,M5_r,C6]
 rw [Zi (C':=QZ) (e:=(YU a0 ([r2,r3]++a0.Rows) [] 0)) ?_ ?_,L7]
 rotate_left
 ·kernel_rfl
 ·simp+decide [YU]
 simp+decide [Jh]
section
variable(L7:Zl Tryz.prog (tab (n+4)) 0 115 (Za 29) 8 QZ (YU a0 ([r2,r3]++a0.Rows) [] 0)=some (.exit 0,Wc a0 out2_8))(M8:a0.Vars.toNat≤100000000)(C9:0≤a0.Vars)
include L7 M8 C9
theorem Zxx(L10:Zl Tryz.prog (tab (n+4)) 0 115 (Za 29) 16 ZM (Yb a0 out2_8 (List.replicate a0.Vars.toNat false))=some (.ret,Uz a0 out_20)):
  run (n+4) 29 [WR a0]=some (.tup [.lit (.int .i64 0),.agg [.lit (.bool false),.sl 1 [],.sl 1 []]]):=by
 simp only [Zc] at K1
 simp only [Zc] at K2
 have K3:=YD (z:=(-1)) (by omega) (by omega)
 simp only [Zk,Zc] at K4
 have M5_:∀b,b≤10000→ZG (a0.Rows.length+2) b=true:=fun b hb=>Zq M5 hb
 have M5_r:2+(a0.Rows.length)=a0.Rows.length+2:=Nat.add_comm _ _
 have M8_:∀b,b≤10000→ZG (a0.Vars.toNat) b=true:=fun b hb=>Zq M8 hb
 unfold run fnP
 simp+decide [Tryz.f29,K1,K2,K3,K4,M5_,M5_r,C6]
 rw [Zi (C':=QZ) (e:=(YU a0 ([r2,r3]++a0.Rows) [] 0)) ?_ ?_,L7]
 rotate_left
 ·kernel_rfl
 ·simp+decide [YU]
 simp+decide [Wc,M8_,C9]
 rw [Zi (C':=ZM) (e:=(Yb a0 out2_8 (List.replicate a0.Vars.toNat false))) ?_ ?_,L10]
 rotate_left
 ·kernel_rfl
 ·simp+decide [Yb]
 simp+decide [Uz]
theorem Zwf(L10:Zl Tryz.prog (tab (n+4)) 0 115 (Za 29) 16 ZM (Yb a0 out2_8 (List.replicate a0.Vars.toNat false))=some (.ret,UD a0 r58)):
  run (n+4) 29 [WR a0]=some (.tup [.lit (.int .i64 0),.agg [.lit (.bool false),.sl 1 [],.sl 1 []]]):=by
 simp only [Zc] at K1
 simp only [Zc] at K2
 have K3:=YD (z:=(-1)) (by omega) (by omega)
 simp only [Zk,Zc] at K4
 have M5_:∀b,b≤10000→ZG (a0.Rows.length+2) b=true:=fun b hb=>Zq M5 hb
 have M5_r:2+(a0.Rows.length)=a0.Rows.length+2:=Nat.add_comm _ _
 have M8_:∀b,b≤10000→ZG (a0.Vars.toNat) b=true:=fun b hb=>Zq M8 hb
 unfold run fnP
 simp+decide [Tryz.f29,K1,K2,K3,K4,M5_,M5_r,C6]
 rw [Zi (C':=QZ) (e:=(YU a0 ([r2,r3]++a0.Rows) [] 0)) ?_ ?_,L7]
 rotate_left
 ·kernel_rfl
 ·simp+decide [YU]
 simp+decide [Wc,M8_,C9]
 rw [Zi (C':=ZM) (e:=(Yb a0 out2_8 (List.replicate a0.Vars.toNat false))) ?_ ?_,L10]
 rotate_left
 ·kernel_rfl
 ·simp+decide [Yb]
 simp+decide [UD]
theorem Zxm(L10:Zl Tryz.prog (tab (n+4)) 0 115 (Za 29) 16 ZM (Yb a0 out2_8 (List.replicate a0.Vars.toNat false))=some (.exit 2,WT a0 out2_8))(K11:run (n+3) 66 [.sl 2 (out2_8.map Yi),.lit (.int .i64 (a0.Vars))]=some (.tup [.lit (.int .i64 r67),Zk r68])):
  run (n+4) 29 [WR a0]=some (.tup [.lit (.int .i64 r67),Zk r68]):=by
 simp only [Zc] at K1
 simp only [Zc] at K2
 have K3:=YD (z:=(-1)) (by omega) (by omega)
 simp only [Zk,Zc] at K4
 have M5_:∀b,b≤10000→ZG (a0.Rows.length+2) b=true:=fun b hb=>Zq M5 hb
 have M5_r:2+(a0.Rows.length)=a0.Rows.length+2:=Nat.add_comm _ _
 have M8_:∀b,b≤10000→ZG (a0.Vars.toNat) b=true:=fun b hb=>Zq M8 hb
 simp only [Zk] at K11
 unfold run fnP
 simp+decide [Tryz.f29,K1,K2,K3,K4,M5_,M5_r,C6]
 rw [Zi (C':=QZ) (e:=(YU a0 ([r2,r3]++a0.Rows) [] 0)) ?_ ?_,L7]
 rotate_left
 ·kernel_rfl
 ·simp+decide [YU]
 simp+decide [Wc,M8_,C9]
 rw [Zi (C':=ZM) (e:=(Yb a0 out2_8 (List.replicate a0.Vars.toNat false))) ?_ ?_,L10]
 rotate_left
 ·kernel_rfl
 ·simp+decide [Yb]
 simp+decide [WT,K11]
theorem ZvQ(L10:Zl Tryz.prog (tab (n+4)) 0 115 (Za 29) 16 ZM (Yb a0 out2_8 (List.replicate a0.Vars.toNat false))=some (.ret,Ul a0 l_16b)):
  run (n+4) 29 [WR a0]=some (.tup [.lit (.int .i64 0),.agg [.lit (.bool false),.sl 1 [],.sl 1 []]]):=by
 simp only [Zc] at K1
 simp only [Zc] at K2
 have K3:=YD (z:=(-1)) (by omega) (by omega)
 simp only [Zk,Zc] at K4
 have M5_:∀b,b≤10000→ZG (a0.Rows.length+2) b=true:=fun b hb=>Zq M5 hb
 have M5_r:2+(a0.Rows.length)=a0.Rows.length+2:=Nat.add_comm _ _
 have M8_:∀b,b≤10000→ZG (a0.Vars.toNat) b=true:=fun b hb=>Zq M8 hb
 unfold run fnP
 simp+decide [Tryz.f29,K1,K2,K3,K4,M5_,M5_r,C6]
 rw [Zi (C':=QZ) (e:=(YU a0 ([r2,r3]++a0.Rows) [] 0)) ?_ ?_,L7]
 rotate_left
 ·kernel_rfl
 ·simp+decide [YU]
 simp+decide [Wc,M8_,C9]
 rw [Zi (C':=ZM) (e:=(Yb a0 out2_8 (List.replicate a0.Vars.toNat false))) ?_ ?_,L10]
 rotate_left
 ·kernel_rfl
 ·simp+decide [Yb]
 simp+decide [Ul]
theorem ZwH(L10:Zl Tryz.prog (tab (n+4)) 0 115 (Za 29) 16 ZM (Yb a0 out2_8 (List.replicate a0.Vars.toNat false))=some (.ret,Uf a0 r65)):
  run (n+4) 29 [WR a0]=some (.tup [.lit (.int .i64 0),.agg [.lit (.bool false),.sl 1 [],.sl 1 []]]):=by
 simp only [Zc] at K1
 simp only [Zc] at K2
 have K3:=YD (z:=(-1)) (by omega) (by omega)
 simp only [Zk,Zc] at K4
 have M5_:∀b,b≤10000→ZG (a0.Rows.length+2) b=true:=fun b hb=>Zq M5 hb
 have M5_r:2+(a0.Rows.length)=a0.Rows.length+2:=Nat.add_comm _ _
 have M8_:∀b,b≤10000→ZG (a0.Vars.toNat) b=true:=fun b hb=>Zq M8 hb
 unfold run fnP
 simp+decide [Tryz.f29,K1,K2,K3,K4,M5_,M5_r,C6]
 rw [Zi (C':=QZ) (e:=(YU a0 ([r2,r3]++a0.Rows) [] 0)) ?_ ?_,L7]
 rotate_left
 ·kernel_rfl
 ·simp+decide [YU]
 simp+decide [Wc,M8_,C9]
 rw [Zi (C':=ZM) (e:=(Yb a0 out2_8 (List.replicate a0.Vars.toNat false))) ?_ ?_,L10]
 rotate_left
 ·kernel_rfl
 ·simp+decide [Yb]
 simp+decide [Uf]
theorem Zx1(L10:Zl Tryz.prog (tab (n+4)) 0 115 (Za 29) 16 ZM (Yb a0 out2_8 (List.replicate a0.Vars.toNat false))=some (.exit 2,WY a0 l_16b))(K11:run (n+3) 66 [.sl 2 (l_16b.map Yi),.lit (.int .i64 (a0.Vars))]=some (.tup [.lit (.int .i64 r69),Zk r70])):
  run (n+4) 29 [WR a0]=some (.tup [.lit (.int .i64 r69),Zk r70]):=by
 simp only [Zc] at K1
 simp only [Zc] at K2
 have K3:=YD (z:=(-1)) (by omega) (by omega)
 simp only [Zk,Zc] at K4
 have M5_:∀b,b≤10000→ZG (a0.Rows.length+2) b=true:=fun b hb=>Zq M5 hb
 have M5_r:2+(a0.Rows.length)=a0.Rows.length+2:=Nat.add_comm _ _
 have M8_:∀b,b≤10000→ZG (a0.Vars.toNat) b=true:=fun b hb=>Zq M8 hb
 simp only [Zk] at K11
 unfold run fnP
 simp+decide [Tryz.f29,K1,K2,K3,K4,M5_,M5_r,C6]
 rw [Zi (C':=QZ) (e:=(YU a0 ([r2,r3]++a0.Rows) [] 0)) ?_ ?_,L7]
 rotate_left
 ·kernel_rfl
 ·simp+decide [YU]
 simp+decide [Wc,M8_,C9]
 rw [Zi (C':=ZM) (e:=(Yb a0 out2_8 (List.replicate a0.Vars.toNat false))) ?_ ?_,L10]
 rotate_left
 ·kernel_rfl
 ·simp+decide [Yb]
 simp+decide [WY,K11]
end
end
end
noncomputable def JX:Code:=(Zb (ZR Tryz.f95)).getD 0 .skip
def U4(i_2:Int)(i2_2:Int):St:=
 ⟨[(0,.lit (.int .u64 i_2)),(3,.lit (.int .i64 i2_2))],
  [],0⟩
def U1(i2_2:Int):St:=
 ⟨[(3,.lit (.int .i64 i2_2))],
  [],0⟩
section
variable {i_2 : Int} {i2_2 : Int} {n : Nat} {a0 : Int}
theorem Zp6(C1:0<i_2)(W2:InI (i_2.tmod 2))(W3:InI (i2_2+(i_2.tmod 2)))(W4:IntKind.u64.wrap (i_2.tdiv 2)=i_2.tdiv 2):
  Zm 0 (exec Tryz.prog (tab n) 0 14 (Za 95) big JX) (Za 95 2) (U4 i_2 i2_2) (U4 (i_2.tdiv 2) (i2_2+(i_2.tmod 2))):=by
 have W2_:IntKind.i64.wrap (i_2.tmod 2)=i_2.tmod 2:=Zp W2.1 W2.2
 have W3_:IntKind.i64.wrap (i2_2+(i_2.tmod 2))=i2_2+(i_2.tmod 2):=Zp W3.1 W3.2
 apply ZB
 simp+decide [U4,Zb, Tryz.f95,JX,C1,W2_,W3_,W4]
theorem Zhl(C1:¬0<i_2):
  Zj 0 (exec Tryz.prog (tab n) 0 14 (Za 95) big JX) (Za 95 (Zo 2)) (U4 i_2 i2_2) (.exit 0) (U1 i2_2):=by
 apply ZA
 simp+decide [U4,Zb, Tryz.f95,U1,JX,C1]
theorem ZwO(L1:Zl Tryz.prog (tab n) 0 14 (Za 95) 2 JX (U4 a0 0)=some (.exit 0,U1 i2_2)):
  run n 95 [.lit (.int .u64 a0)]=some (.lit (.int .i64 i2_2)):=by
 unfold run fnP
 simp+decide [Tryz.f95]
 rw [Zi (C':=JX) (e:=(U4 a0 0)) ?_ ?_,L1]
 rotate_left
 ·kernel_rfl
 ·simp+decide [U4]
 simp+decide [U1]
end
noncomputable def VM:Code:=(Zb (ZR Tryz.f64)).getD 0 .skip
def XI(a0:List ZI)(a1:Int)(i_3:Nat)(i2_3:Nat)(i3_3:Nat):St:=
 ⟨[(0,.sl 2 (a0.map Yi)),(1,.lit (.int .i64 a1)),(5,.lit (.int .i64 (i_3:Int))),(6,.lit (.int .i64 (i2_3:Int))),(7,.lit (.int .i64 (i3_3:Int)))],
  [],0⟩
def J5(i_3:Nat)(i2_3:Nat):St:=
 ⟨[(5,.lit (.int .i64 (i_3:Int))),(6,.lit (.int .i64 (i2_3:Int)))],
  [],0⟩
section
variable {a1 : Int} {i2_3 : Nat} {i_3 : Nat} {n : Nat} {x6 : Int} {a0 : List ZI} {x5 : ZI} {i3_3 : Nat}
section
variable(C1:(i3_3:Int)<(a0.length:Int))(E2:a0[i3_3]?=some x5)(E3:x5.c[a1.toNat]?=some x6)(Z3:0≤a1)
include C1 E2 E3 Z3
theorem Zri(C4:0<x6)(W5:InI ((i_3:Int)+1))(C6:¬x6<0)(W7:InI ((i3_3:Int)+1)):
  Zm 0 (exec Tryz.prog (tab n) 0 39 (Za 64) big VM) (Za 64 3) (XI a0 a1 i_3 i2_3 i3_3) (XI a0 a1 (i_3+1) i2_3 (i3_3+1)):=by
 have C1_:i3_3<a0.length:=by omega
 obtain ⟨EL2,EG2⟩:=gEi E2
 obtain ⟨EL3,EG3⟩:=gEi E3
 have W5_:IntKind.i64.wrap ((i_3:Int)+1)=(i_3:Int)+1:=Zp W5.1 W5.2
 have W7_:IntKind.i64.wrap ((i3_3:Int)+1)=(i3_3:Int)+1:=Zp W7.1 W7.2
 apply ZB
 simp+decide [XI,Zb, Tryz.f64,VM,C1,C1_,EG2,EL3,EG3,Z3,C4,W5_,C6,W7_]
theorem Zq0(C4:¬0<x6)(C5:x6<0)(W6:InI ((i2_3:Int)+1))(W7:InI ((i3_3:Int)+1)):
  Zm 0 (exec Tryz.prog (tab n) 0 39 (Za 64) big VM) (Za 64 3) (XI a0 a1 i_3 i2_3 i3_3) (XI a0 a1 i_3 (i2_3+1) (i3_3+1)):=by
 have C1_:i3_3<a0.length:=by omega
 obtain ⟨EL2,EG2⟩:=gEi E2
 obtain ⟨EL3,EG3⟩:=gEi E3
 have W6_:IntKind.i64.wrap ((i2_3:Int)+1)=(i2_3:Int)+1:=Zp W6.1 W6.2
 have W7_:IntKind.i64.wrap ((i3_3:Int)+1)=(i3_3:Int)+1:=Zp W7.1 W7.2
 apply ZB
 simp+decide [XI,Zb, Tryz.f64,VM,C1,C1_,EG2,EL3,EG3,Z3,C4,C5,W6_,W7_]
theorem ZpK(C4:¬0<x6)(C5:¬x6<0)(W6:InI ((i3_3:Int)+1)):
  Zm 0 (exec Tryz.prog (tab n) 0 39 (Za 64) big VM) (Za 64 3) (XI a0 a1 i_3 i2_3 i3_3) (XI a0 a1 i_3 i2_3 (i3_3+1)):=by
 have C1_:i3_3<a0.length:=by omega
 obtain ⟨EL2,EG2⟩:=gEi E2
 obtain ⟨EL3,EG3⟩:=gEi E3
 have W6_:IntKind.i64.wrap ((i3_3:Int)+1)=(i3_3:Int)+1:=Zp W6.1 W6.2
 apply ZB
 simp+decide [XI,Zb, Tryz.f64,VM,C1,C1_,EG2,EL3,EG3,Z3,C4,C5,W6_]
end
theorem Zn3(C1:¬(i3_3:Int)<(a0.length:Int)):
  Zj 0 (exec Tryz.prog (tab n) 0 39 (Za 64) big VM) (Za 64 (Zo 3)) (XI a0 a1 i_3 i2_3 i3_3) (.exit 0) (J5 i_3 i2_3):=by
 apply ZA
 simp+decide [XI,Zb, Tryz.f64,J5,VM,C1]
theorem Zv7(L1:Zl Tryz.prog (tab n) 0 39 (Za 64) 3 VM (XI a0 a1 0 0 0)=some (.exit 0,J5 i_3 i2_3))(W2:InI ((i_3:Int)*(i2_3:Int))):
  run n 64 [.sl 2 (a0.map Yi),.lit (.int .i64 a1)]=some (.lit (.int .i64 ((i_3:Int)*(i2_3:Int)))):=by
 have W2_:IntKind.i64.wrap ((i_3:Int)*(i2_3:Int))=(i_3:Int)*(i2_3:Int):=Zp W2.1 W2.2
 unfold run fnP
 simp+decide [Tryz.f64]
 rw [Zi (C':=VM) (e:=(XI a0 a1 0 0 0)) ?_ ?_,L1]
 rotate_left
 ·kernel_rfl
 ·simp+decide [XI]
 simp+decide [J5,W2_]
end
noncomputable def VE:Code:=(Zb (ZR Tryz.f65)).getD 0 .skip
noncomputable def Qs:Code:=(Zb (ZR Tryz.f65)).getD 1 .skip
noncomputable def YJ:Code:=(Zb Qs).getD 0 .skip
noncomputable def Vm:Code:=(Zb YJ).getD 0 .skip
def XB(a0:List ZI)(a1:Int)(a2:Int)(out_3:List ZI)(i_3:Nat):St:=
 ⟨[(0,.sl 2 (a0.map Yi)),(1,.lit (.int .i64 a1)),(2,.lit (.int .i64 a2)),(8,.own 0 out_3.length),(9,.lit (.int .i64 (i_3:Int)))],
  [(0,some (.row 93 2 (out_3.map Yi) 0))],1⟩
def Xx(a0:List ZI)(a1:Int)(a2:Int)(out_11:List ZI)(i_8:Nat)(i_11:Nat)(out_16:List Int)(i_16:Nat):St:=
 ⟨[(0,.sl 2 (a0.map Yi)),(1,.lit (.int .i64 a1)),(2,.lit (.int .i64 a2)),(8,.own 0 out_11.length),(10,.lit (.int .i64 (i_8:Int))),(11,.lit (.int .i64 (i_11:Int))),(12,.own 1 out_16.length),(13,.lit (.int .i64 (i_16:Int)))],
  [(0,some (.row 93 2 (out_11.map Yi) 0)),
   (1,some (.row 3 1 (out_16.map ZK) 0))],2⟩
def Yu(a0:List ZI)(a1:Int)(a2:Int)(out_11:List ZI)(i_8:Nat)(i_11:Nat):St:=
 ⟨[(0,.sl 2 (a0.map Yi)),(1,.lit (.int .i64 a1)),(2,.lit (.int .i64 a2)),(8,.own 0 out_11.length),(10,.lit (.int .i64 (i_8:Int))),(11,.lit (.int .i64 (i_11:Int)))],
  [(0,some (.row 93 2 (out_11.map Yi) 0))],1⟩
def XW(a0:List ZI)(a1:Int)(a2:Int)(out_8:List ZI)(i_8:Nat):St:=
 ⟨[(0,.sl 2 (a0.map Yi)),(1,.lit (.int .i64 a1)),(2,.lit (.int .i64 a2)),(8,.own 0 out_8.length),(10,.lit (.int .i64 (i_8:Int)))],
  [(0,some (.row 93 2 (out_8.map Yi) 0))],1⟩
def UT(a0:List ZI)(a1:Int)(a2:Int)(out_3:List ZI):St:=
 ⟨[(0,.sl 2 (a0.map Yi)),(1,.lit (.int .i64 a1)),(2,.lit (.int .i64 a2)),(8,.own 0 out_3.length)],
  [(0,some (.row 93 2 (out_3.map Yi) 0))],1⟩
def VC(a0:List ZI)(a1:Int)(a2:Int)(out_11:List ZI)(i_8:Nat)(i_11:Nat)(out_16:List Int):St:=
 ⟨[(0,.sl 2 (a0.map Yi)),(1,.lit (.int .i64 a1)),(2,.lit (.int .i64 a2)),(8,.own 0 out_11.length),(10,.lit (.int .i64 (i_8:Int))),(11,.lit (.int .i64 (i_11:Int))),(12,.own 1 out_16.length)],
  [(0,some (.row 93 2 (out_11.map Yi) 0)),
   (1,some (.row 3 1 (out_16.map ZK) 0))],2⟩
def Ut(a0:List ZI)(a1:Int)(a2:Int)(out_11:List ZI)(i_8:Nat):St:=
 ⟨[(0,.sl 2 (a0.map Yi)),(1,.lit (.int .i64 a1)),(2,.lit (.int .i64 a2)),(6,.own 0 0),(7,.lit (.bool false)),(8,.own 1 out_11.length),(10,.lit (.int .i64 (i_8:Int)))],
  [(0,some (.row 93 2 [] 0)),
   (1,some (.row 93 2 (out_11.map Yi) 0))],2⟩
def Uc(a0:List ZI)(a1:Int)(a2:Int)(out_11:List ZI)(i_8:Nat):St:=
 ⟨[(0,.sl 2 (a0.map Yi)),(1,.lit (.int .i64 a1)),(2,.lit (.int .i64 a2)),(6,.any),(7,.any),(8,.own 0 out_11.length),(10,.lit (.int .i64 (i_8:Int)))],
  [(0,some (.row 93 2 (out_11.map Yi) 0))],1⟩
def Zal(out_11:List ZI):St:=
 ⟨[(6,.own 0 0),(7,.lit (.bool false)),(8,.own 1 out_11.length)],
  [(0,some (.row 93 2 [] 0)),
   (1,some (.row 93 2 (out_11.map Yi) 0))],2⟩
def J9(out_8:List ZI):St:=
 ⟨[(6,.any),(7,.any),(8,.own 0 out_8.length)],
  [(0,some (.row 93 2 (out_8.map Yi) 0))],1⟩
section
variable {a1 : Int} {i_3 : Nat} {n : Nat} {a2 : Int} {out_3 : List ZI} {x6 : Int} {a0 : List ZI} {x5 : ZI} {x208 : Int} {x207 : Int} {out_16 : List Int} {i_8 : Nat} {x204 : Int} {x203 : ZI} {i_11 : Nat} {x205 : ZI} {x206 : Int} {out_11 : List ZI} {i_16 : Nat} {x188 : Int} {x187 : ZI} {x190 : Int} {x189 : ZI} {z17 : Int} {r17 : Int} {z18 : Int} {R9 : List Int} {x210 : ZI} {x209 : ZI} {r18 : Bool} {out_8 : List ZI}
theorem Zpg(C1:(i_3:Int)<(a0.length:Int))(E2:a0[i_3]?=some x5)(E3:x5.c[a1.toNat]?=some x6)(Z3:0≤a1)(C4:x6=0)(M5:out_3.length+1≤100000000)(W6:InI ((i_3:Int)+1)):
  Zm 0 (exec Tryz.prog (tab (n+2)) 0 157 (Za 65) big VE) (Za 65 3) (XB a0 a1 a2 out_3 i_3) (XB a0 a1 a2 (out_3++[x5]) (i_3+1)):=by
 have C1_:i_3<a0.length:=by omega
 obtain ⟨EL2,EG2⟩:=gEi E2
 obtain ⟨EL3,EG3⟩:=gEi E3
 have C4_:(x6==0)=true:=by rw [C4];simp
 have M5_:∀b,b≤10000→ZG (out_3.length+1) b=true:=fun b hb=>Zq M5 hb
 have W6_:IntKind.i64.wrap ((i_3:Int)+1)=(i_3:Int)+1:=Zp W6.1 W6.2
 apply ZB
 simp+decide [XB,Zb, Tryz.f65,VE,C1,C1_,EG2,EL3,EG3,Z3,C4_,M5_,W6_]
theorem Zn6(C1:(i_3:Int)<(a0.length:Int))(E2:a0[i_3]?=some x5)(E3:x5.c[a1.toNat]?=some x6)(Z3:0≤a1)(C4:¬x6=0)(W5:InI ((i_3:Int)+1)):
  Zm 0 (exec Tryz.prog (tab (n+2)) 0 157 (Za 65) big VE) (Za 65 3) (XB a0 a1 a2 out_3 i_3) (XB a0 a1 a2 out_3 (i_3+1)):=by
 have C1_:i_3<a0.length:=by omega
 obtain ⟨EL2,EG2⟩:=gEi E2
 obtain ⟨EL3,EG3⟩:=gEi E3
 have C4_:(x6==0)=false:=by simpa using C4
 have W5_:IntKind.i64.wrap ((i_3:Int)+1)=(i_3:Int)+1:=Zp W5.1 W5.2
 apply ZB
 simp+decide [XB,Zb, Tryz.f65,VE,C1,C1_,EG2,EL3,EG3,Z3,C4_,W5_]
theorem Zpr(C1:¬(i_3:Int)<(a0.length:Int)):
  Zj 0 (exec Tryz.prog (tab (n+2)) 0 157 (Za 65) big VE) (Za 65 (Zo 3)) (XB a0 a1 a2 out_3 i_3) (.exit 0) (UT a0 a1 a2 out_3):=by
 apply ZA
 simp+decide [XB,Zb, Tryz.f65,UT,VE,C1]
theorem Zld(C1:(i_16:Int)<(out_16.length:Int))(E2:a0[i_8]?=some x203)(E3:x203.c[i_16]?=some x204)(E4:a0[i_11]?=some x205)(E5:x205.c[a1.toNat]?=some x206)(Z5:0≤a1)(W6:InI ((-x206)))(W7:InI (x204*(-x206)))(E8:x205.c[i_16]?=some x207)(E9:x203.c[a1.toNat]?=some x208)(Z9:0≤a1)(W10:InI (x207*x208))(W11:InI ((x204*(-x206))+(x207*x208)))(G12:i_16<out_16.length)(W14:InI ((i_16:Int)+1)):
  Zm 0 (exec Tryz.prog (tab (n+2)) 0 157 (Za 65) big Vm) (Za 65 16) (Xx a0 a1 a2 out_11 i_8 i_11 out_16 i_16) (Xx a0 a1 a2 out_11 i_8 i_11 (out_16.set i_16 (((x204*(-x206))+(x207*x208)))) (i_16+1)):=by
 have C1_:i_16<out_16.length:=by omega
 obtain ⟨EL2,EG2⟩:=gEi E2
 obtain ⟨EL3,EG3⟩:=gEi E3
 obtain ⟨EL4,EG4⟩:=gEi E4
 obtain ⟨EL5,EG5⟩:=gEi E5
 have W6_:IntKind.i64.wrap ((-x206))=(-x206):=Zp W6.1 W6.2
 have W7_:IntKind.i64.wrap (x204*(-x206))=x204*(-x206):=Zp W7.1 W7.2
 obtain ⟨EL8,EG8⟩:=gEi E8
 obtain ⟨EL9,EG9⟩:=gEi E9
 have W10_:IntKind.i64.wrap (x207*x208)=x207*x208:=Zp W10.1 W10.2
 have W11_:IntKind.i64.wrap ((x204*(-x206))+(x207*x208))=(x204*(-x206))+(x207*x208):=Zp W11.1 W11.2
 have W14_:IntKind.i64.wrap ((i_16:Int)+1)=(i_16:Int)+1:=Zp W14.1 W14.2
 apply ZB
 simp+decide [Xx,Zb, Tryz.f65,Qs,YJ,Vm,C1,C1_,EL2,EG2,EL3,EG3,EL4,EG4,EL5,EG5,Z5,W6_,W7_,EL8,EG8,EL9,EG9,W10_,W11_,W14_]
theorem Zla(C1:¬(i_16:Int)<(out_16.length:Int)):
  Zj 0 (exec Tryz.prog (tab (n+2)) 0 157 (Za 65) big Vm) (Za 65 (Zo 16)) (Xx a0 a1 a2 out_11 i_8 i_11 out_16 i_16) (.exit 6) (VC a0 a1 a2 out_11 i_8 i_11 out_16):=by
 apply ZA
 simp+decide [Xx,Zb, Tryz.f65,VC,Qs,YJ,Vm,C1]
section
variable(C1:(i_11:Int)<(a0.length:Int))(E2:a0[i_8]?=some x187)(E3:x187.c[a1.toNat]?=some x188)(Z3:0≤a1)
include C1 E2 E3 Z3
theorem ZkL(C4:x188≤0)(W5:InI ((i_11:Int)+1)):
  Zm 0 (exec Tryz.prog (tab (n+2)) 0 157 (Za 65) big YJ) (Za 65 11) (Yu a0 a1 a2 out_11 i_8 i_11) (Yu a0 a1 a2 out_11 i_8 (i_11+1)):=by
 obtain ⟨EL2,EG2⟩:=gEi E2
 obtain ⟨EL3,EG3⟩:=gEi E3
 have W5_:IntKind.i64.wrap ((i_11:Int)+1)=(i_11:Int)+1:=Zp W5.1 W5.2
 apply ZB
 simp+decide [Yu,Zb, Tryz.f65,Qs,YJ,C1,EL2,EG2,EL3,EG3,Z3,C4,W5_]
section
variable(C4:¬x188≤0)(E5:a0[i_11]?=some x189)(E6:x189.c[a1.toNat]?=some x190)(Z6:0≤a1)
include C4 E5 E6 Z6
theorem Zl3(C7:0≤x190)(W8:InI ((i_11:Int)+1)):
  Zm 0 (exec Tryz.prog (tab (n+2)) 0 157 (Za 65) big YJ) (Za 65 11) (Yu a0 a1 a2 out_11 i_8 i_11) (Yu a0 a1 a2 out_11 i_8 (i_11+1)):=by
 have C1_:i_11<a0.length:=by omega
 obtain ⟨EL2,EG2⟩:=gEi E2
 obtain ⟨EL3,EG3⟩:=gEi E3
 obtain ⟨EL5,EG5⟩:=gEi E5
 obtain ⟨EL6,EG6⟩:=gEi E6
 have W8_:IntKind.i64.wrap ((i_11:Int)+1)=(i_11:Int)+1:=Zp W8.1 W8.2
 apply ZB
 simp+decide [Yu,Zb, Tryz.f65,Qs,YJ,C1,C1_,EL2,EG2,EL3,EG3,Z3,C4,EG5,EL6,EG6,C7,W8_]
section
variable(C7:¬0≤x190)(D8:IntKind.u64.wrap ((((x187.from_:Int) % 2 ^ IntKind.u64.bits).toNat ||| ((x189.from_:Int) % 2 ^ IntKind.u64.bits).toNat:Nat):Int)=z17)(K9:run (n+1) 95 [.lit (.int .u64 z17)]=some (.lit (.int .i64 r17)))(W10:InI (a2+1))
include C7 D8 K9 W10
theorem Zlr(C11:a2+1<r17)(W12:InI ((i_11:Int)+1)):
  Zm 0 (exec Tryz.prog (tab (n+2)) 0 157 (Za 65) big YJ) (Za 65 11) (Yu a0 a1 a2 out_11 i_8 i_11) (Yu a0 a1 a2 out_11 i_8 (i_11+1)):=by
 have C1_:i_11<a0.length:=by omega
 obtain ⟨EL2,EG2⟩:=gEi E2
 obtain ⟨EL3,EG3⟩:=gEi E3
 obtain ⟨EL5,EG5⟩:=gEi E5
 obtain ⟨EL6,EG6⟩:=gEi E6
 have W10_:IntKind.i64.wrap (a2+1)=a2+1:=Zp W10.1 W10.2
 have W12_:IntKind.i64.wrap ((i_11:Int)+1)=(i_11:Int)+1:=Zp W12.1 W12.2
 apply ZB
 simp+decide [Yu,Zb, Tryz.f65,Qs,YJ,C1,C1_,EL2,EG2,EL3,EG3,Z3,C4,EG5,EL6,EG6,C7,D8,K9,W10_,C11,W12_]
section
variable(C11:¬a2+1<r17)(M12:x187.c.length≤100000000)(L13:Zl Tryz.prog (tab (n+2)) 0 157 (Za 65) 16 Vm (Xx a0 a1 a2 out_11 i_8 i_11 (List.replicate x187.c.length 0) 0)=some (.exit 6,VC a0 a1 a2 out_11 i_8 i_11 out_16))(K14:Zr (n+1) 94 [.own 0 out_16.length] [.row 3 1 (out_16.map ZK) 0]=some (.lit (.bool r18),[(0,.row 3 1 (R9.map ZK) 0)]))(Q14:R9.length=out_16.length)
include C11 M12 L13 K14 Q14
theorem Zmj(C15:r18=true)(E16:a0[i_8]?=some x209)(E17:a0[i_11]?=some x210)(D18:IntKind.u64.wrap ((((x209.from_:Int) % 2 ^ IntKind.u64.bits).toNat ||| ((x210.from_:Int) % 2 ^ IntKind.u64.bits).toNat:Nat):Int)=z18)(M19:out_11.length+1≤100000000)(W20:InI ((i_11:Int)+1)):
  Zm 0 (exec Tryz.prog (tab (n+2)) 0 157 (Za 65) big YJ) (Za 65 11) (Yu a0 a1 a2 out_11 i_8 i_11) (Yu a0 a1 a2 (out_11++[(⟨R9,z18⟩:ZI)]) i_8 (i_11+1)):=by
 have C1_:i_11<a0.length:=by omega
 obtain ⟨EL2,EG2⟩:=gEi E2
 obtain ⟨EL3,EG3⟩:=gEi E3
 obtain ⟨EL5,EG5⟩:=gEi E5
 obtain ⟨EL6,EG6⟩:=gEi E6
 have W10_:IntKind.i64.wrap (a2+1)=a2+1:=Zp W10.1 W10.2
 have M12_:∀b,b≤10000→ZG (x187.c.length) b=true:=fun b hb=>Zq M12 hb
 rw [E2] at E16
 obtain rfl:=Option.some.inj E16
 rw [E5] at E17
 obtain rfl:=Option.some.inj E17
 try obtain rfl:=D8.symm.trans D18
 have M19_:∀b,b≤10000→ZG (out_11.length+1) b=true:=fun b hb=>Zq M19 hb
 have W20_:IntKind.i64.wrap ((i_11:Int)+1)=(i_11:Int)+1:=Zp W20.1 W20.2
 apply ZB
 simp+decide [Yu,Zb, Tryz.f65,Qs,YJ,C1,C1_,EL2,EG2,EL3,EG3,Z3,C4,EG5,EL6,EG6,C7,D8,K9,W10_,C11,M12_]
 rw [Zi (C':=Vm) (e:=(Xx a0 a1 a2 out_11 i_8 i_11 (List.replicate x187.c.length 0) 0)) ?_ ?_,L13]
 rotate_left
 ·kernel_rfl
 ·simp+decide [Xx, Tryz.f65]
 simp+decide [VC, Tryz.f65,C1_,EL2,EG2,EG5,D8,Q14,K14,C15,M19_,W20_]
theorem Zls(C15:r18=false):
  Zj 0 (exec Tryz.prog (tab (n+2)) 0 157 (Za 65) big YJ) (Za 65 (Zo 11)) (Yu a0 a1 a2 out_11 i_8 i_11) (.ret) (Ut a0 a1 a2 out_11 i_8):=by
 have C1_:i_11<a0.length:=by omega
 obtain ⟨EL2,EG2⟩:=gEi E2
 obtain ⟨EL3,EG3⟩:=gEi E3
 obtain ⟨EL5,EG5⟩:=gEi E5
 obtain ⟨EL6,EG6⟩:=gEi E6
 have W10_:IntKind.i64.wrap (a2+1)=a2+1:=Zp W10.1 W10.2
 have M12_:∀b,b≤10000→ZG (x187.c.length) b=true:=fun b hb=>Zq M12 hb
 apply ZA
 simp+decide [Yu,Zb, Tryz.f65,Ut,Qs,YJ,C1,C1_,EL2,EG2,EL3,EG3,Z3,C4,EG5,EL6,EG6,C7,D8,K9,W10_,C11,M12_]
 rw [Zi (C':=Vm) (e:=(Xx a0 a1 a2 out_11 i_8 i_11 (List.replicate x187.c.length 0) 0)) ?_ ?_,L13]
 rotate_left
 ·kernel_rfl
 ·simp+decide [Xx, Tryz.f65]
 simp+decide [VC, Tryz.f65,K14,C15]
end
end
end
end
theorem Zk7(C1:¬(i_11:Int)<(a0.length:Int)):
  Zj 0 (exec Tryz.prog (tab (n+2)) 0 157 (Za 65) big YJ) (Za 65 (Zo 11)) (Yu a0 a1 a2 out_11 i_8 i_11) (.exit 4) (Uc a0 a1 a2 out_11 i_8):=by
 apply ZA
 simp+decide [Yu,Zb, Tryz.f65,Uc,Qs,YJ,C1]
theorem ZpQ(C1:(i_8:Int)<(a0.length:Int))(L2:Zl Tryz.prog (tab (n+2)) 0 157 (Za 65) 11 YJ (Yu a0 a1 a2 out_8 i_8 0)=some (.exit 4,Uc a0 a1 a2 out_11 i_8))(W3:InI ((i_8:Int)+1)):
  Zm 0 (exec Tryz.prog (tab (n+2)) 0 157 (Za 65) big Qs) (Za 65 8) (XW a0 a1 a2 out_8 i_8) (XW a0 a1 a2 out_11 (i_8+1)):=by
 have W3_:IntKind.i64.wrap ((i_8:Int)+1)=(i_8:Int)+1:=Zp W3.1 W3.2
 apply ZB
 simp+decide [XW,Zb, Tryz.f65,Qs,C1]
 rw [Zi (C':=YJ) (e:=(Yu a0 a1 a2 out_8 i_8 0)) ?_ ?_,L2]
 rotate_left
 ·kernel_rfl
 ·simp+decide [Yu, Tryz.f65]
 simp+decide [Uc, Tryz.f65,W3_]
theorem ZoE(C1:(i_8:Int)<(a0.length:Int))(L2:Zl Tryz.prog (tab (n+2)) 0 157 (Za 65) 11 YJ (Yu a0 a1 a2 out_8 i_8 0)=some (.ret,Ut a0 a1 a2 out_11 i_8)):
  Zj 0 (exec Tryz.prog (tab (n+2)) 0 157 (Za 65) big Qs) (Za 65 (Zo 8)) (XW a0 a1 a2 out_8 i_8) (.ret) (Zal out_11):=by
 apply ZA
 simp+decide [XW,Zb, Tryz.f65,Zal,Qs,C1]
 rw [Zi (C':=YJ) (e:=(Yu a0 a1 a2 out_8 i_8 0)) ?_ ?_,L2]
 rotate_left
 ·kernel_rfl
 ·simp+decide [Yu, Tryz.f65]
 simp+decide [Ut, Tryz.f65]
theorem ZoW(C1:¬(i_8:Int)<(a0.length:Int)):
  Zj 0 (exec Tryz.prog (tab (n+2)) 0 157 (Za 65) big Qs) (Za 65 (Zo 8)) (XW a0 a1 a2 out_8 i_8) (.exit 2) (J9 out_8):=by
 apply ZA
 simp+decide [XW,Zb, Tryz.f65,J9,Qs,C1]
section
variable(L1:Zl Tryz.prog (tab (n+2)) 0 157 (Za 65) 3 VE (XB a0 a1 a2 [] 0)=some (.exit 0,UT a0 a1 a2 out_3))
include L1
theorem ZwA(L2:Zl Tryz.prog (tab (n+2)) 0 157 (Za 65) 8 Qs (XW a0 a1 a2 out_3 0)=some (.ret,Zal out_11)):
  run (n+2) 65 [.sl 2 (a0.map Yi),.lit (.int .i64 a1),.lit (.int .i64 a2)]=some (.tup [.sl 2 [],.lit (.bool false)]):=by
 unfold run fnP
 simp+decide [Tryz.f65]
 rw [Zi (C':=VE) (e:=(XB a0 a1 a2 [] 0)) ?_ ?_,L1]
 rotate_left
 ·kernel_rfl
 ·simp+decide [XB]
 simp+decide [UT]
 rw [Zi (C':=Qs) (e:=(XW a0 a1 a2 out_3 0)) ?_ ?_,L2]
 rotate_left
 ·kernel_rfl
 ·simp+decide [XW]
 simp+decide [Zal]
theorem Zx4(L2:Zl Tryz.prog (tab (n+2)) 0 157 (Za 65) 8 Qs (XW a0 a1 a2 out_3 0)=some (.exit 2,J9 out_8)):
  run (n+2) 65 [.sl 2 (a0.map Yi),.lit (.int .i64 a1),.lit (.int .i64 a2)]=some (.tup [.sl 2 (out_8.map Yi),.lit (.bool true)]):=by
 unfold run fnP
 simp+decide [Tryz.f65]
 rw [Zi (C':=VE) (e:=(XB a0 a1 a2 [] 0)) ?_ ?_,L1]
 rotate_left
 ·kernel_rfl
 ·simp+decide [XB]
 simp+decide [UT]
 rw [Zi (C':=Qs) (e:=(XW a0 a1 a2 out_3 0)) ?_ ?_,L2]
 rotate_left
 ·kernel_rfl
 ·simp+decide [XW]
 simp+decide [J9]
end
end
noncomputable def Ym:Code:=(Zb (ZR Tryz.f66)).getD 0 .skip
def ZP(a0:List ZI)(a1:Int)(d_4:Bool)(d2_4:Bool)(i_4:Nat)(s_4:Rat)(s2_4:Rat):St:=
 ⟨[(0,.sl 2 (a0.map Yi)),(1,.lit (.int .i64 a1)),(5,.ptr 0 0),(6,.lit (.bool d_4)),(7,.lit (.bool d2_4)),(8,.ptr 1 0),(9,.ptr 2 0),(10,.lit (.int .i64 (i_4:Int)))],
  [(0,some (.box 26 [.lit (.bool false),.nl 1,.nl 1] false)),
   (1,some (.box 26 [.lit (.bool (Ze s_4).s),Zd (Ze s_4).l1,Zd (Ze s_4).l2] false)),
   (2,some (.box 26 [.lit (.bool (Ze s2_4).s),Zd (Ze s2_4).l1,Zd (Ze s2_4).l2] false))],3⟩
def KO(d_4:Bool)(d2_4:Bool)(s_4:Rat)(s2_4:Rat):St:=
 ⟨[(4,.lit (.int .i64 2)),(5,.ptr 0 0),(6,.lit (.bool d_4)),(7,.lit (.bool d2_4)),(8,.ptr 1 0),(9,.ptr 2 0)],
  [(0,some (.box 26 [.lit (.bool false),.nl 1,.nl 1] false)),
   (1,some (.box 26 [.lit (.bool (Ze s_4).s),Zd (Ze s_4).l1,Zd (Ze s_4).l2] false)),
   (2,some (.box 26 [.lit (.bool (Ze s2_4).s),Zd (Ze s2_4).l1,Zd (Ze s2_4).l2] false))],3⟩
def WZ(d_4:Bool)(d2_4:Bool)(s_4:Rat)(s2_4:Rat):St:=
 ⟨[(4,.any),(5,.ptr 0 0),(6,.lit (.bool d_4)),(7,.lit (.bool d2_4)),(8,.ptr 1 0),(9,.ptr 2 0)],
  [(0,some (.box 26 [.lit (.bool false),.nl 1,.nl 1] false)),
   (1,some (.box 26 [.lit (.bool (Ze s_4).s),Zd (Ze s_4).l1,Zd (Ze s_4).l2] false)),
   (2,some (.box 26 [.lit (.bool (Ze s2_4).s),Zd (Ze s2_4).l1,Zd (Ze s2_4).l2] false))],3⟩
section
variable {a1 : Int} {x7 : ZI} {x9 : Int} {s2_4 : Rat} {d2_4 : Bool} {d_4 : Bool} {s_4 : Rat} {i_4 : Nat} {n : Nat} {a0 : List ZI} {x8 : Int}
section
variable(C1:(i_4:Int)<(a0.length:Int))(E2:a0[i_4]?=some x7)(E3:x7.c[a1.toNat]?=some x8)(Z3:0≤a1)(W4:InI (a1+1))(E5:x7.c[(a1+1).toNat]?=some x9)(Z5:0≤a1+1)
include C1 E2 E3 Z3 W4 E5 Z5
theorem Zle(C6:x8=0)(C7:¬x9<0)(W8:InI ((i_4:Int)+1)):
  Zm 0 (exec Tryz.prog (tab n) 0 85 (Za 66) big Ym) (Za 66 4) (ZP a0 a1 d_4 d2_4 i_4 s_4 s2_4) (ZP a0 a1 d_4 d2_4 (i_4+1) s_4 s2_4):=by
 have C1_:i_4<a0.length:=by omega
 obtain ⟨EL2,EG2⟩:=gEi E2
 obtain ⟨EL3,EG3⟩:=gEi E3
 have W4_:IntKind.i64.wrap (a1+1)=a1+1:=Zp W4.1 W4.2
 obtain ⟨EL5,EG5⟩:=gEi E5
 have C6_:(x8==0)=true:=by rw [C6];simp
 have W8_:IntKind.i64.wrap ((i_4:Int)+1)=(i_4:Int)+1:=Zp W8.1 W8.2
 apply ZB
 simp+decide [ZP,Zb, Tryz.f66,Ym,Zd,C1,C1_,EG2,EL3,EG3,Z3,W4_,EL5,EG5,Z5,C6_,C7,W8_]
section
variable(C6:¬x8=0)(W7:InI ((-x9)))(W8:InI (-x9))(Y8:InI x8)
include C6 W7 W8 Y8
theorem Zl1(C9:0<x8)(C10:d_4=false)(W11:InI ((i_4:Int)+1)):
  Zm 0 (exec Tryz.prog (tab n) 0 85 (Za 66) big Ym) (Za 66 4) (ZP a0 a1 d_4 d2_4 i_4 s_4 s2_4) (ZP a0 a1 true d2_4 (i_4+1) (Y9 (-x9) x8) s2_4):=by
 have C1_:i_4<a0.length:=by omega
 obtain ⟨EL2,EG2⟩:=gEi E2
 obtain ⟨EL3,EG3⟩:=gEi E3
 have W4_:IntKind.i64.wrap (a1+1)=a1+1:=Zp W4.1 W4.2
 obtain ⟨EL5,EG5⟩:=gEi E5
 have C6_:(x8==0)=false:=by simpa using C6
 have W7_:IntKind.i64.wrap ((-x9))=(-x9):=Zp W7.1 W7.2
 have K8:=ZbV (x:=(-x9)) (y:=x8) W8 Y8 (by omega)
 have W11_:IntKind.i64.wrap ((i_4:Int)+1)=(i_4:Int)+1:=Zp W11.1 W11.2
 try simp only [Zd] at K8
 apply ZB
 simp+decide [ZP,Zb, Tryz.f66,Ym,Zd,C1,C1_,EG2,EL3,EG3,Z3,W4_,EL5,EG5,Z5,C6_,W7_,K8,C9,C10,W11_]
theorem ZmO(C9:0<x8)(C10:d_4=true)(B11a:H (Y9 (-x9) x8)≤17179869184)(B11b:H s_4≤17179869184)(C12:0<sgR ((Y9 (-x9) x8)-s_4))(W13:InI ((i_4:Int)+1)):
  Zm 0 (exec Tryz.prog (tab n) 0 85 (Za 66) big Ym) (Za 66 4) (ZP a0 a1 d_4 d2_4 i_4 s_4 s2_4) (ZP a0 a1 true d2_4 (i_4+1) (Y9 (-x9) x8) s2_4):=by
 have C1_:i_4<a0.length:=by omega
 obtain ⟨EL2,EG2⟩:=gEi E2
 obtain ⟨EL3,EG3⟩:=gEi E3
 have W4_:IntKind.i64.wrap (a1+1)=a1+1:=Zp W4.1 W4.2
 obtain ⟨EL5,EG5⟩:=gEi E5
 have C6_:(x8==0)=false:=by simpa using C6
 have W7_:IntKind.i64.wrap ((-x9))=(-x9):=Zp W7.1 W7.2
 have K8:=ZbV (x:=(-x9)) (y:=x8) W8 Y8 (by omega)
 have K11:=QU (p:=Y9 (-x9) x8) (q:=s_4) B11a B11b
 have W13_:IntKind.i64.wrap ((i_4:Int)+1)=(i_4:Int)+1:=Zp W13.1 W13.2
 try simp only [Zd] at K8
 try simp only [Zd] at K11
 apply ZB
 simp+decide [ZP,Zb, Tryz.f66,Ym,Zd,C1,C1_,EG2,EL3,EG3,Z3,W4_,EL5,EG5,Z5,C6_,W7_,K8,C9,C10,K11,C12,W13_]
theorem ZkH(C9:0<x8)(C10:d_4=true)(B11a:H (Y9 (-x9) x8)≤17179869184)(B11b:H s_4≤17179869184)(C12:¬0<sgR ((Y9 (-x9) x8)-s_4))(W13:InI ((i_4:Int)+1)):
  Zm 0 (exec Tryz.prog (tab n) 0 85 (Za 66) big Ym) (Za 66 4) (ZP a0 a1 d_4 d2_4 i_4 s_4 s2_4) (ZP a0 a1 true d2_4 (i_4+1) s_4 s2_4):=by
 have C1_:i_4<a0.length:=by omega
 obtain ⟨EL2,EG2⟩:=gEi E2
 obtain ⟨EL3,EG3⟩:=gEi E3
 have W4_:IntKind.i64.wrap (a1+1)=a1+1:=Zp W4.1 W4.2
 obtain ⟨EL5,EG5⟩:=gEi E5
 have C6_:(x8==0)=false:=by simpa using C6
 have W7_:IntKind.i64.wrap ((-x9))=(-x9):=Zp W7.1 W7.2
 have K8:=ZbV (x:=(-x9)) (y:=x8) W8 Y8 (by omega)
 have K11:=QU (p:=Y9 (-x9) x8) (q:=s_4) B11a B11b
 have W13_:IntKind.i64.wrap ((i_4:Int)+1)=(i_4:Int)+1:=Zp W13.1 W13.2
 try simp only [Zd] at K8
 try simp only [Zd] at K11
 apply ZB
 simp+decide [ZP,Zb, Tryz.f66,Ym,Zd,C1,C1_,EG2,EL3,EG3,Z3,W4_,EL5,EG5,Z5,C6_,W7_,K8,C9,C10,K11,C12,W13_]
theorem Zk4(C9:¬0<x8)(C10:d2_4=false)(W11:InI ((i_4:Int)+1)):
  Zm 0 (exec Tryz.prog (tab n) 0 85 (Za 66) big Ym) (Za 66 4) (ZP a0 a1 d_4 d2_4 i_4 s_4 s2_4) (ZP a0 a1 d_4 true (i_4+1) s_4 (Y9 (-x9) x8)):=by
 have C1_:i_4<a0.length:=by omega
 obtain ⟨EL2,EG2⟩:=gEi E2
 obtain ⟨EL3,EG3⟩:=gEi E3
 have W4_:IntKind.i64.wrap (a1+1)=a1+1:=Zp W4.1 W4.2
 obtain ⟨EL5,EG5⟩:=gEi E5
 have C6_:(x8==0)=false:=by simpa using C6
 have W7_:IntKind.i64.wrap ((-x9))=(-x9):=Zp W7.1 W7.2
 have K8:=ZbV (x:=(-x9)) (y:=x8) W8 Y8 (by omega)
 have W11_:IntKind.i64.wrap ((i_4:Int)+1)=(i_4:Int)+1:=Zp W11.1 W11.2
 try simp only [Zd] at K8
 apply ZB
 simp+decide [ZP,Zb, Tryz.f66,Ym,Zd,C1,C1_,EG2,EL3,EG3,Z3,W4_,EL5,EG5,Z5,C6_,W7_,K8,C9,C10,W11_]
theorem ZkI(C9:¬0<x8)(C10:d2_4=true)(B11a:H (Y9 (-x9) x8)≤17179869184)(B11b:H s2_4≤17179869184)(C12:sgR ((Y9 (-x9) x8)-s2_4)<0)(W13:InI ((i_4:Int)+1)):
  Zm 0 (exec Tryz.prog (tab n) 0 85 (Za 66) big Ym) (Za 66 4) (ZP a0 a1 d_4 d2_4 i_4 s_4 s2_4) (ZP a0 a1 d_4 true (i_4+1) s_4 (Y9 (-x9) x8)):=by
 have C1_:i_4<a0.length:=by omega
 obtain ⟨EL2,EG2⟩:=gEi E2
 obtain ⟨EL3,EG3⟩:=gEi E3
 have W4_:IntKind.i64.wrap (a1+1)=a1+1:=Zp W4.1 W4.2
 obtain ⟨EL5,EG5⟩:=gEi E5
 have C6_:(x8==0)=false:=by simpa using C6
 have W7_:IntKind.i64.wrap ((-x9))=(-x9):=Zp W7.1 W7.2
 have K8:=ZbV (x:=(-x9)) (y:=x8) W8 Y8 (by omega)
 have K11:=QU (p:=Y9 (-x9) x8) (q:=s2_4) B11a B11b
 have W13_:IntKind.i64.wrap ((i_4:Int)+1)=(i_4:Int)+1:=Zp W13.1 W13.2
 try simp only [Zd] at K8
 try simp only [Zd] at K11
 apply ZB
 simp+decide [ZP,Zb, Tryz.f66,Ym,Zd,C1,C1_,EG2,EL3,EG3,Z3,W4_,EL5,EG5,Z5,C6_,W7_,K8,C9,C10,K11,C12,W13_]
theorem ZlU(C9:¬0<x8)(C10:d2_4=true)(B11a:H (Y9 (-x9) x8)≤17179869184)(B11b:H s2_4≤17179869184)(C12:¬sgR ((Y9 (-x9) x8)-s2_4)<0)(W13:InI ((i_4:Int)+1)):
  Zm 0 (exec Tryz.prog (tab n) 0 85 (Za 66) big Ym) (Za 66 4) (ZP a0 a1 d_4 d2_4 i_4 s_4 s2_4) (ZP a0 a1 d_4 true (i_4+1) s_4 s2_4):=by
 have C1_:i_4<a0.length:=by omega
 obtain ⟨EL2,EG2⟩:=gEi E2
 obtain ⟨EL3,EG3⟩:=gEi E3
 have W4_:IntKind.i64.wrap (a1+1)=a1+1:=Zp W4.1 W4.2
 obtain ⟨EL5,EG5⟩:=gEi E5
 have C6_:(x8==0)=false:=by simpa using C6
 have W7_:IntKind.i64.wrap ((-x9))=(-x9):=Zp W7.1 W7.2
 have K8:=ZbV (x:=(-x9)) (y:=x8) W8 Y8 (by omega)
 have K11:=QU (p:=Y9 (-x9) x8) (q:=s2_4) B11a B11b
 have W13_:IntKind.i64.wrap ((i_4:Int)+1)=(i_4:Int)+1:=Zp W13.1 W13.2
 try simp only [Zd] at K8
 try simp only [Zd] at K11
 apply ZB
 simp+decide [ZP,Zb, Tryz.f66,Ym,Zd,C1,C1_,EG2,EL3,EG3,Z3,W4_,EL5,EG5,Z5,C6_,W7_,K8,C9,C10,K11,C12,W13_]
end
theorem Zl8(C6:x8=0)(C7:x9<0):
  Zj 0 (exec Tryz.prog (tab n) 0 85 (Za 66) big Ym) (Za 66 (Zo 4)) (ZP a0 a1 d_4 d2_4 i_4 s_4 s2_4) (.ret) (KO d_4 d2_4 s_4 s2_4):=by
 have C1_:i_4<a0.length:=by omega
 obtain ⟨EL2,EG2⟩:=gEi E2
 obtain ⟨EL3,EG3⟩:=gEi E3
 have W4_:IntKind.i64.wrap (a1+1)=a1+1:=Zp W4.1 W4.2
 obtain ⟨EL5,EG5⟩:=gEi E5
 have C6_:(x8==0)=true:=by rw [C6];simp
 apply ZA
 simp+decide [ZP,Zb, Tryz.f66,KO,Ym,C1,C1_,EG2,EL3,EG3,Z3,W4_,EL5,EG5,Z5,C6_,C7]
end
theorem ZkG(C1:¬(i_4:Int)<(a0.length:Int)):
  Zj 0 (exec Tryz.prog (tab n) 0 85 (Za 66) big Ym) (Za 66 (Zo 4)) (ZP a0 a1 d_4 d2_4 i_4 s_4 s2_4) (.exit 0) (WZ d_4 d2_4 s_4 s2_4):=by
 apply ZA
 simp+decide [ZP,Zb, Tryz.f66,WZ,Ym,C1]
theorem ZtC(L1:Zl Tryz.prog (tab n) 0 85 (Za 66) 4 Ym (ZP a0 a1 false false 0 0 0)=some (.ret,KO d_4 d2_4 s_4 s2_4)):
  run n 66 [.sl 2 (a0.map Yi),.lit (.int .i64 a1)]=some (.tup [.lit (.int .i64 2),.agg [.lit (.bool false),.sl 1 [],.sl 1 []]]):=by
 unfold run fnP
 simp+decide [Tryz.f66]
 rw [Zi (C':=Ym) (e:=(ZP a0 a1 false false 0 0 0)) ?_ ?_,L1]
 rotate_left
 ·kernel_rfl
 ·simp+decide [ZP]
 simp+decide [KO]
section
variable(L1:Zl Tryz.prog (tab n) 0 85 (Za 66) 4 Ym (ZP a0 a1 false false 0 0 0)=some (.exit 0,WZ d_4 d2_4 s_4 s2_4))
include L1
theorem Zt0(C2:d_4=true)(C3:d2_4=true)(B4a:H s2_4≤17179869184)(B4b:H s_4≤17179869184)(C5:sgR (s2_4-s_4)<0):
  run n 66 [.sl 2 (a0.map Yi),.lit (.int .i64 a1)]=some (.tup [.lit (.int .i64 2),.agg [.lit (.bool false),.sl 1 [],.sl 1 []]]):=by
 have K4:=QU (p:=s2_4) (q:=s_4) B4a B4b
 unfold run fnP
 simp+decide [Tryz.f66]
 rw [Zi (C':=Ym) (e:=(ZP a0 a1 false false 0 0 0)) ?_ ?_,L1]
 rotate_left
 ·kernel_rfl
 ·simp+decide [ZP]
 simp+decide [WZ,C2,C3,K4,C5]
theorem Zup(C2:d_4=true)(C3:d2_4=true)(B4a:H s2_4≤17179869184)(B4b:H s_4≤17179869184)(C5:¬sgR (s2_4-s_4)<0):
  run n 66 [.sl 2 (a0.map Yi),.lit (.int .i64 a1)]=some (.tup [.lit (.int .i64 1),Zk s_4]):=by
 have K4:=QU (p:=s2_4) (q:=s_4) B4a B4b
 unfold run fnP
 simp+decide [Tryz.f66]
 rw [Zi (C':=Ym) (e:=(ZP a0 a1 false false 0 0 0)) ?_ ?_,L1]
 rotate_left
 ·kernel_rfl
 ·simp+decide [ZP]
 simp+decide [WZ,C2,C3,K4,C5]
theorem Zs9(C2:d_4=true)(C3:d2_4=false):
  run n 66 [.sl 2 (a0.map Yi),.lit (.int .i64 a1)]=some (.tup [.lit (.int .i64 1),Zk s_4]):=by
 unfold run fnP
 simp+decide [Tryz.f66]
 rw [Zi (C':=Ym) (e:=(ZP a0 a1 false false 0 0 0)) ?_ ?_,L1]
 rotate_left
 ·kernel_rfl
 ·simp+decide [ZP]
 simp+decide [WZ,C2,C3]
theorem Zsy(C2:d_4=false):
  run n 66 [.sl 2 (a0.map Yi),.lit (.int .i64 a1)]=some (.tup [.lit (.int .i64 3),.agg [.lit (.bool false),.sl 1 [],.sl 1 []]]):=by
 unfold run fnP
 simp+decide [Tryz.f66]
 rw [Zi (C':=Ym) (e:=(ZP a0 a1 false false 0 0 0)) ?_ ?_,L1]
 rotate_left
 ·kernel_rfl
 ·simp+decide [ZP]
 simp+decide [WZ,C2]
end
end
section
variable {a0 : List Nat} {n : Nat} {x : Nat}
theorem ZwZ(C1:(a0.length:Int)=0):
  run n 92 [Zd a0]=some (.tup [.lit (.int .i64 0),.lit (.bool true)]):=by
 have C1_:((a0.length:Int)==0)=true:=by rw [C1];simp
 unfold run fnP
 simp+decide [Tryz.f92,Zd,C1_]
theorem ZxD(C1:¬(a0.length:Int)=0)(E2:a0[0]?=some x)(W3:InI ((x:Int)))(C4:(a0.length:Int)=1):
  run n 92 [Zd a0]=some (.tup [.lit (.int .i64 (x:Int)),.lit (.bool (decide ((x:Int)≤1073741824)))]):=by
 have C1_:((a0.length:Int)==0)=false:=by simpa using C1
 obtain ⟨EL2,EG2⟩:=gEi E2
 have W3_:IntKind.i64.wrap ((x:Int))=(x:Int):=Zp W3.1 W3.2
 have C4_:((a0.length:Int)==1)=true:=by rw [C4];simp
 unfold run fnP
 simp+decide [Tryz.f92,Zd,C1_,EL2,EG2,W3_,C4_]
theorem Zwi(C1:¬(a0.length:Int)=0)(E2:a0[0]?=some x)(W3:InI ((x:Int)))(C4:¬(a0.length:Int)=1):
  run n 92 [Zd a0]=some (.tup [.lit (.int .i64 (x:Int)),.lit (.bool false)]):=by
 have C1_:((a0.length:Int)==0)=false:=by simpa using C1
 obtain ⟨EL2,EG2⟩:=gEi E2
 have W3_:IntKind.i64.wrap ((x:Int))=(x:Int):=Zp W3.1 W3.2
 have C4_:((a0.length:Int)==1)=false:=by simpa using C4
 unfold run fnP
 simp+decide [Tryz.f92,Zd,C1_,EL2,EG2,W3_,C4_]
end
noncomputable def Vu:Code:=(Zb (ZR Tryz.f93)).getD 0 .skip
def X7(i_1:Int)(i2_1:Int):St:=
 ⟨[(0,.lit (.int .i64 i_1)),(1,.lit (.int .i64 i2_1))],
  [],0⟩
def WB(i_1:Int):St:=
 ⟨[(0,.lit (.int .i64 i_1))],
  [],0⟩
section
variable {i2_1 : Int} {i_1 : Int} {n : Nat} {a1 : Int} {a0 : Int}
theorem Zix(C1:¬i2_1=0)(N2:i2_1≠0):
  Zm 0 (exec Tryz.prog (tab n) 0 12 (Za 93) big Vu) (Za 93 1) (X7 i_1 i2_1) (X7 i2_1 (i_1.tmod i2_1)):=by
 have C1_n:(i2_1 !=0)=true:=by simpa using C1
 apply ZB
 simp+decide [X7,Zb, Tryz.f93,Vu,C1_n,N2]
theorem ZcG(C1:i2_1=0):
  Zj 0 (exec Tryz.prog (tab n) 0 12 (Za 93) big Vu) (Za 93 (Zo 1)) (X7 i_1 i2_1) (.exit 0) (WB i_1):=by
 have C1_n:(i2_1 !=0)=false:=by rw [C1];simp
 apply ZA
 simp+decide [X7,Zb, Tryz.f93,WB,Vu,C1_n]
theorem Zq2(L1:Zl Tryz.prog (tab n) 0 12 (Za 93) 1 Vu (X7 a0 a1)=some (.exit 0,WB i_1)):
  run n 93 [.lit (.int .i64 a0),.lit (.int .i64 a1)]=some (.lit (.int .i64 i_1)):=by
 unfold run fnP
 simp+decide [Tryz.f93]
 rw [Zi (C':=Vu) (e:=(X7 a0 a1)) ?_ ?_,L1]
 rotate_left
 ·kernel_rfl
 ·simp+decide [X7]
 simp+decide [WB]
end
noncomputable def U8:Code:=(Zb (ZR Tryz.f94)).getD 0 .skip
noncomputable def Ql:Code:=(Zb (ZR Tryz.f94)).getD 1 .skip
def WD(a0:List Int)(i_3:Int)(i2_3:Nat):St:=
 ⟨[(0,.own 0 a0.length),(3,.lit (.int .i64 i_3)),(4,.lit (.int .i64 (i2_3:Int)))],
  [(0,some (.row 3 1 (a0.map ZK) 0))],1⟩
def YM(out_7:List Int)(i_3:Int)(i_7:Nat):St:=
 ⟨[(0,.own 0 out_7.length),(3,.lit (.int .i64 i_3)),(5,.lit (.int .i64 (i_7:Int)))],
  [(0,some (.row 3 1 (out_7.map ZK) 0))],1⟩
def UM(a0:List Int)(i_3:Int):St:=
 ⟨[(0,.own 0 a0.length),(3,.lit (.int .i64 i_3))],
  [(0,some (.row 3 1 (a0.map ZK) 0))],1⟩
def Ki(out_7:List Int)(i_7:Nat)(x10:Int)(i_3:Int):St:=
 ⟨[(2,.lit (.bool false))],
  [(0,some (.row 3 1 ((out_7.set i_7 (x10.tdiv i_3)).map ZK) 0))],1⟩
def UN(out_7:List Int):St:=
 ⟨[(2,.lit (.bool false))],
  [(0,some (.row 3 1 (out_7.map ZK) 0))],1⟩
def ZaS(out_7:List Int):St:=
 ⟨[(2,.any)],
  [(0,some (.row 3 1 (out_7.map ZK) 0))],1⟩
section
variable {x3 : Int} {i2_3 : Nat} {i_3 : Int} {n : Nat} {r3 : Int} {a0 : List Int} {i_7 : Nat} {out_7 : List Int} {x11 : Int} {x10 : Int} {x12 : Int}
theorem ZqW(C1:(i2_3:Int)<(a0.length:Int))(G2:i2_3<a0.length)(E3:a0[i2_3]?=some x3)(W5:InI ((-x3)))(K6:run n 93 [.lit (.int .i64 ((if x3<(-x3) then (-x3) else x3))),.lit (.int .i64 i_3)]=some (.lit (.int .i64 r3)))(W7:InI ((i2_3:Int)+1)):
  Zm 1 (exec Tryz.prog (tab (n+1)) 1 53 (Za 94) big U8) (Za 94 3) (WD a0 i_3 i2_3) (WD a0 r3 (i2_3+1)):=by
 have C1_:i2_3<a0.length:=by omega
 obtain ⟨EL3,EG3⟩:=gEi E3
 have W5_:IntKind.i64.wrap ((-x3))=(-x3):=Zp W5.1 W5.2
 have W7_:IntKind.i64.wrap ((i2_3:Int)+1)=(i2_3:Int)+1:=Zp W7.1 W7.2
 apply ZB
 simp+decide [WD,Zb, Tryz.f94,U8,C1,C1_,EG3,W5_,K6,W7_]
theorem ZnZ(C1:¬(i2_3:Int)<(a0.length:Int)):
  Zj 1 (exec Tryz.prog (tab (n+1)) 1 53 (Za 94) big U8) (Za 94 (Zo 3)) (WD a0 i_3 i2_3) (.exit 0) (UM a0 i_3):=by
 apply ZA
 simp+decide [WD,Zb, Tryz.f94,UM,U8,C1]
section
variable(C1:(i_7:Int)<(out_7.length:Int))
include C1
theorem Zpn(C2:1<i_3)(G3:i_7<out_7.length)(E4:out_7[i_7]?=some x10)(W5:InI (x10.tdiv i_3))(N6:i_3≠0)(E10:(out_7.set i_7 (x10.tdiv i_3))[i_7]?=some x11)(C11:¬1073741824<x11)(C13:¬x11<(-1073741824))(W14:InI ((i_7:Int)+1)):
  Zm 1 (exec Tryz.prog (tab (n+1)) 1 53 (Za 94) big Ql) (Za 94 7) (YM out_7 i_3 i_7) (YM (out_7.set i_7 (x10.tdiv i_3)) i_3 (i_7+1)):=by
 have C1_:i_7<out_7.length:=by omega
 obtain ⟨EL4,EG4⟩:=gEi E4
 have W5_:IntKind.i64.wrap (x10.tdiv i_3)=x10.tdiv i_3:=Zp W5.1 W5.2
 rw [List.getElem?_set_self (by omega)] at E10
 obtain rfl:=Option.some.inj E10
 have W14_:IntKind.i64.wrap ((i_7:Int)+1)=(i_7:Int)+1:=Zp W14.1 W14.2
 apply ZB
 simp+decide [YM,Zb, Tryz.f94,Ql,C1,C1_,C2,EG4,W5_,N6,C11,C13,W14_]
theorem Zor(C2:¬1<i_3)(G3:i_7<out_7.length)(E4:out_7[i_7]?=some x12)(C5:¬1073741824<x12)(C7:¬x12<(-1073741824))(W8:InI ((i_7:Int)+1)):
  Zm 1 (exec Tryz.prog (tab (n+1)) 1 53 (Za 94) big Ql) (Za 94 7) (YM out_7 i_3 i_7) (YM out_7 i_3 (i_7+1)):=by
 have C1_:i_7<out_7.length:=by omega
 obtain ⟨EL4,EG4⟩:=gEi E4
 have W8_:IntKind.i64.wrap ((i_7:Int)+1)=(i_7:Int)+1:=Zp W8.1 W8.2
 apply ZB
 simp+decide [YM,Zb, Tryz.f94,Ql,C1,C1_,C2,EG4,C5,C7,W8_]
section
variable(C2:1<i_3)(G3:i_7<out_7.length)(E4:out_7[i_7]?=some x10)(W5:InI (x10.tdiv i_3))(N6:i_3≠0)(E10:(out_7.set i_7 (x10.tdiv i_3))[i_7]?=some x11)
include C2 G3 E4 W5 N6 E10
theorem ZpG(C11:1073741824<x11):
  Zj 1 (exec Tryz.prog (tab (n+1)) 1 53 (Za 94) big Ql) (Za 94 (Zo 7)) (YM out_7 i_3 i_7) (.ret) (Ki out_7 i_7 x10 i_3):=by
 have C1_:i_7<out_7.length:=by omega
 obtain ⟨EL4,EG4⟩:=gEi E4
 have W5_:IntKind.i64.wrap (x10.tdiv i_3)=x10.tdiv i_3:=Zp W5.1 W5.2
 rw [List.getElem?_set_self (by omega)] at E10
 obtain rfl:=Option.some.inj E10
 apply ZA
 simp+decide [YM,Zb, Tryz.f94,Ki,Ql,C1,C1_,C2,EG4,W5_,N6,C11]
theorem ZqE(C11:¬1073741824<x11)(C13:x11<(-1073741824)):
  Zj 1 (exec Tryz.prog (tab (n+1)) 1 53 (Za 94) big Ql) (Za 94 (Zo 7)) (YM out_7 i_3 i_7) (.ret) (Ki out_7 i_7 x10 i_3):=by
 have C1_:i_7<out_7.length:=by omega
 obtain ⟨EL4,EG4⟩:=gEi E4
 have W5_:IntKind.i64.wrap (x10.tdiv i_3)=x10.tdiv i_3:=Zp W5.1 W5.2
 rw [List.getElem?_set_self (by omega)] at E10
 obtain rfl:=Option.some.inj E10
 apply ZA
 simp+decide [YM,Zb, Tryz.f94,Ki,Ql,C1,C1_,C2,EG4,W5_,N6,C11,C13]
end
theorem ZnJ(C2:¬1<i_3)(G3:i_7<out_7.length)(E4:out_7[i_7]?=some x12)(C5:1073741824<x12):
  Zj 1 (exec Tryz.prog (tab (n+1)) 1 53 (Za 94) big Ql) (Za 94 (Zo 7)) (YM out_7 i_3 i_7) (.ret) (UN out_7):=by
 have C1_:i_7<out_7.length:=by omega
 obtain ⟨EL4,EG4⟩:=gEi E4
 apply ZA
 simp+decide [YM,Zb, Tryz.f94,UN,Ql,C1,C1_,C2,EG4,C5]
theorem Zo7(C2:¬1<i_3)(G3:i_7<out_7.length)(E4:out_7[i_7]?=some x12)(C5:¬1073741824<x12)(C7:x12<(-1073741824)):
  Zj 1 (exec Tryz.prog (tab (n+1)) 1 53 (Za 94) big Ql) (Za 94 (Zo 7)) (YM out_7 i_3 i_7) (.ret) (UN out_7):=by
 have C1_:i_7<out_7.length:=by omega
 obtain ⟨EL4,EG4⟩:=gEi E4
 apply ZA
 simp+decide [YM,Zb, Tryz.f94,UN,Ql,C1,C1_,C2,EG4,C5,C7]
end
theorem ZpZ(C1:¬(i_7:Int)<(out_7.length:Int)):
  Zj 1 (exec Tryz.prog (tab (n+1)) 1 53 (Za 94) big Ql) (Za 94 (Zo 7)) (YM out_7 i_3 i_7) (.exit 2) (ZaS out_7):=by
 apply ZA
 simp+decide [YM,Zb, Tryz.f94,ZaS,Ql,C1]
section
variable(L1:Zl Tryz.prog (tab (n+1)) 1 53 (Za 94) 3 U8 (WD a0 0 0)=some (.exit 0,UM a0 i_3))
include L1
theorem Zw5(L2:Zl Tryz.prog (tab (n+1)) 1 53 (Za 94) 7 Ql (YM a0 i_3 0)=some (.ret,Ki out_7 i_7 x10 i_3)):
  Zr (n+1) 94 [.own 0 a0.length] [.row 3 1 (a0.map ZK) 0]=some (.lit (.bool false),[(0,.row 3 1 ((out_7.set i_7 (x10.tdiv i_3)).map ZK) 0)]):=by
 unfold Zr fnL
 simp+decide [Tryz.f94]
 rw [Zi (C':=U8) (e:=(WD a0 0 0)) ?_ ?_,L1]
 rotate_left
 ·kernel_rfl
 ·simp+decide [WD]
 simp+decide [UM]
 rw [Zi (C':=Ql) (e:=(YM a0 i_3 0)) ?_ ?_,L2]
 rotate_left
 ·kernel_rfl
 ·simp+decide [YM]
 simp+decide [Ki]
theorem ZvO(L2:Zl Tryz.prog (tab (n+1)) 1 53 (Za 94) 7 Ql (YM a0 i_3 0)=some (.ret,UN out_7)):
  Zr (n+1) 94 [.own 0 a0.length] [.row 3 1 (a0.map ZK) 0]=some (.lit (.bool false),[(0,.row 3 1 (out_7.map ZK) 0)]):=by
 unfold Zr fnL
 simp+decide [Tryz.f94]
 rw [Zi (C':=U8) (e:=(WD a0 0 0)) ?_ ?_,L1]
 rotate_left
 ·kernel_rfl
 ·simp+decide [WD]
 simp+decide [UM]
 rw [Zi (C':=Ql) (e:=(YM a0 i_3 0)) ?_ ?_,L2]
 rotate_left
 ·kernel_rfl
 ·simp+decide [YM]
 simp+decide [UN]
theorem Zvf(L2:Zl Tryz.prog (tab (n+1)) 1 53 (Za 94) 7 Ql (YM a0 i_3 0)=some (.exit 2,ZaS out_7)):
  Zr (n+1) 94 [.own 0 a0.length] [.row 3 1 (a0.map ZK) 0]=some (.lit (.bool true),[(0,.row 3 1 (out_7.map ZK) 0)]):=by
 unfold Zr fnL
 simp+decide [Tryz.f94]
 rw [Zi (C':=U8) (e:=(WD a0 0 0)) ?_ ?_,L1]
 rotate_left
 ·kernel_rfl
 ·simp+decide [WD]
 simp+decide [UM]
 rw [Zi (C':=Ql) (e:=(YM a0 i_3 0)) ?_ ?_,L2]
 rotate_left
 ·kernel_rfl
 ·simp+decide [YM]
 simp+decide [ZaS]
end
end
noncomputable def YX:Code:=(Zb (ZR Tryz.f63)).getD 0 .skip
noncomputable def Xu:Code:=(Zb (ZR Tryz.f63)).getD 1 .skip
noncomputable def VS:Code:=(Zb (ZR Tryz.f63)).getD 2 .skip
def Yp(a0:Zf)(a1:Int)(out_4:List Int)(out2_4:List Int)(i_4:Nat):St:=
 ⟨[(1,.lit (.int .i64 a1)),(2,.ptr 0 0),(6,.own 1 out_4.length),(7,.own 2 out2_4.length),(8,.lit (.int .i64 (i_4:Int)))],
  [(0,some (.box 28 [.sl 4 (a0.1.map Zs),.lit (.bool (Ze a0.2).s),Zd (Ze a0.2).l1,Zd (Ze a0.2).l2] false)),
   (1,some (.row 3 1 (out_4.map ZK) 0)),
   (2,some (.row 3 1 (out2_4.map ZK) 0))],3⟩
def QC(a1:Int)(out_4:List Int)(out2_4:List Int)(i_18:Int)(i2_18:Nat):St:=
 ⟨[(1,.lit (.int .i64 a1)),(6,.own 0 out_4.length),(7,.own 1 out2_4.length),(14,.lit (.int .i64 i_18)),(15,.lit (.int .i64 (i2_18:Int)))],
  [(0,some (.row 3 1 (out_4.map ZK) 0)),
   (1,some (.row 3 1 (out2_4.map ZK) 0))],2⟩
def WL(a1:Int)(out_24:List Int)(out2_4:List Int)(i_18:Int)(i_24:Nat):St:=
 ⟨[(1,.lit (.int .i64 a1)),(6,.own 0 out_24.length),(7,.own 1 out2_4.length),(14,.lit (.int .i64 i_18)),(16,.lit (.int .i64 (i_24:Int)))],
  [(0,some (.row 3 1 (out_24.map ZK) 0)),
   (1,some (.row 3 1 (out2_4.map ZK) 0))],2⟩
def Xv(a1:Int)(out_4:List Int)(out2_4:List Int):St:=
 ⟨[(1,.lit (.int .i64 a1)),(4,.own 0 0),(5,.lit (.bool false)),(6,.own 1 out_4.length),(7,.own 2 out2_4.length)],
  [(0,some (.row 3 1 [] 0)),
   (1,some (.row 3 1 (out_4.map ZK) 0)),
   (2,some (.row 3 1 (out2_4.map ZK) 0))],3⟩
def Kj(a1:Int)(out_4:List Int)(out2_4:List Int):St:=
 ⟨[(1,.lit (.int .i64 a1)),(4,.any),(5,.any),(6,.own 0 out_4.length),(7,.own 1 out2_4.length)],
  [(0,some (.row 3 1 (out_4.map ZK) 0)),
   (1,some (.row 3 1 (out2_4.map ZK) 0))],2⟩
def UB(a1:Int)(out_4:List Int)(out2_4:List Int)(i_18:Int)(r30:Int)(x3:Int):St:=
 ⟨[(1,.lit (.int .i64 a1)),(4,.own 0 0),(5,.lit (.bool false)),(6,.own 1 out_4.length),(7,.own 2 out2_4.length),(14,.lit (.int .i64 ((i_18.tdiv r30)*x3)))],
  [(0,some (.row 3 1 [] 0)),
   (1,some (.row 3 1 (out_4.map ZK) 0)),
   (2,some (.row 3 1 (out2_4.map ZK) 0))],3⟩
def Ui(a1:Int)(out_4:List Int)(out2_4:List Int)(i_18:Int):St:=
 ⟨[(1,.lit (.int .i64 a1)),(4,.any),(5,.any),(6,.own 0 out_4.length),(7,.own 1 out2_4.length),(14,.lit (.int .i64 i_18))],
  [(0,some (.row 3 1 (out_4.map ZK) 0)),
   (1,some (.row 3 1 (out2_4.map ZK) 0))],2⟩
def Uk(out_24:List Int):St:=
 ⟨[(6,.own 0 out_24.length)],
  [(0,some (.row 3 1 (out_24.map ZK) 0))],1⟩
section
variable {a1 : Int} {r21 : Bool} {r22 : Int} {out_4 : List Int} {r20 : Int} {r23 : Bool} {r19 : Rat} {i_4 : Nat} {n : Nat} {out2_4 : List Int} {a0 : Zf} {r25 : Bool} {r26 : Int} {r27 : Bool} {r24 : Int} {x3 : Int} {i2_18 : Nat} {r30 : Int} {i_18 : Int} {x9 : Int} {out_24 : List Int} {x8 : Int} {i_24 : Nat} {R : List Int} {r31 : Bool}
section
variable(C1:(i_4:Int)≤a1)
include C1
section
variable(C2:(i_4:Int)<a1)(K3:run (n+1) 22 [Zc a0,.lit (.int .i64 (i_4:Int))]=some (Zk r19))(K4:run (n+1) 92 [Zd (Ze r19).l1]=some (.tup [.lit (.int .i64 r20),.lit (.bool r21)]))(K5:run (n+1) 92 [Zd (Ze r19).l2]=some (.tup [.lit (.int .i64 r22),.lit (.bool r23)]))(C6:r21=true)(C7:r23=true)
include C2 K3 K4 K5 C6 C7
theorem ZqB(C8:(Ze r19).s=true)(W9:InI ((-r20)))(G10:i_4<out_4.length)(G12:i_4<out2_4.length)(W14:InI ((i_4:Int)+1)):
  Zm 0 (exec Tryz.prog (tab (n+2)) 0 109 (Za 63) big YX) (Za 63 4) (Yp a0 a1 out_4 out2_4 i_4) (Yp a0 a1 (out_4.set i_4 (-r20)) (out2_4.set i_4 (if r22<1 then 1 else r22)) (i_4+1)):=by
 simp only [Zk,Zc] at K3
 have W9_:IntKind.i64.wrap ((-r20))=(-r20):=Zp W9.1 W9.2
 have W14_:IntKind.i64.wrap ((i_4:Int)+1)=(i_4:Int)+1:=Zp W14.1 W14.2
 try simp only [C8] at K3
 try simp only [C8] at K4
 try simp only [C8] at K5
 apply ZB
 simp+decide [Yp,Zb, Tryz.f63,YX,C1,C2,K3,K4,K5,C6,C7,W9_,G10,G12,W14_]
theorem ZpA(C8:(Ze r19).s=false)(G9:i_4<out_4.length)(G11:i_4<out2_4.length)(W13:InI ((i_4:Int)+1)):
  Zm 0 (exec Tryz.prog (tab (n+2)) 0 109 (Za 63) big YX) (Za 63 4) (Yp a0 a1 out_4 out2_4 i_4) (Yp a0 a1 (out_4.set i_4 r20) (out2_4.set i_4 (if r22<1 then 1 else r22)) (i_4+1)):=by
 simp only [Zk,Zc] at K3
 have W13_:IntKind.i64.wrap ((i_4:Int)+1)=(i_4:Int)+1:=Zp W13.1 W13.2
 try simp only [C8] at K3
 try simp only [C8] at K4
 try simp only [C8] at K5
 apply ZB
 simp+decide [Yp,Zb, Tryz.f63,YX,C1,C2,K3,K4,K5,C6,C7,G9,G11,W13_]
end
section
variable(C2:¬(i_4:Int)<a1)(K3:run (n+1) 92 [Zd (Ze a0.2).l1]=some (.tup [.lit (.int .i64 r24),.lit (.bool r25)]))(K4:run (n+1) 92 [Zd (Ze a0.2).l2]=some (.tup [.lit (.int .i64 r26),.lit (.bool r27)]))(C5:r25=true)(C6:r27=true)
include C2 K3 K4 C5 C6
theorem Zpc(C7:(Ze a0.2).s=true)(W8:InI ((-r24)))(G9:i_4<out_4.length)(G11:i_4<out2_4.length)(W13:InI ((i_4:Int)+1)):
  Zm 0 (exec Tryz.prog (tab (n+2)) 0 109 (Za 63) big YX) (Za 63 4) (Yp a0 a1 out_4 out2_4 i_4) (Yp a0 a1 (out_4.set i_4 (-r24)) (out2_4.set i_4 (if r26<1 then 1 else r26)) (i_4+1)):=by
 have W8_:IntKind.i64.wrap ((-r24))=(-r24):=Zp W8.1 W8.2
 have W13_:IntKind.i64.wrap ((i_4:Int)+1)=(i_4:Int)+1:=Zp W13.1 W13.2
 try simp only [C7] at K3
 try simp only [C7] at K4
 apply ZB
 simp+decide [Yp,Zb, Tryz.f63,YX,C1,C2,K3,K4,C5,C6,C7,W8_,G9,G11,W13_]
theorem ZqL(C7:(Ze a0.2).s=false)(G8:i_4<out_4.length)(G10:i_4<out2_4.length)(W12:InI ((i_4:Int)+1)):
  Zm 0 (exec Tryz.prog (tab (n+2)) 0 109 (Za 63) big YX) (Za 63 4) (Yp a0 a1 out_4 out2_4 i_4) (Yp a0 a1 (out_4.set i_4 r24) (out2_4.set i_4 (if r26<1 then 1 else r26)) (i_4+1)):=by
 have W12_:IntKind.i64.wrap ((i_4:Int)+1)=(i_4:Int)+1:=Zp W12.1 W12.2
 try simp only [C7] at K3
 try simp only [C7] at K4
 apply ZB
 simp+decide [Yp,Zb, Tryz.f63,YX,C1,C2,K3,K4,C5,C6,C7,G8,G10,W12_]
end
section
variable(C2:(i_4:Int)<a1)(K3:run (n+1) 22 [Zc a0,.lit (.int .i64 (i_4:Int))]=some (Zk r19))(K4:run (n+1) 92 [Zd (Ze r19).l1]=some (.tup [.lit (.int .i64 r20),.lit (.bool r21)]))(K5:run (n+1) 92 [Zd (Ze r19).l2]=some (.tup [.lit (.int .i64 r22),.lit (.bool r23)]))
include C2 K3 K4 K5
theorem ZqH(C6:r21=false):
  Zj 0 (exec Tryz.prog (tab (n+2)) 0 109 (Za 63) big YX) (Za 63 (Zo 4)) (Yp a0 a1 out_4 out2_4 i_4) (.ret) (Xv a1 out_4 out2_4):=by
 simp only [Zk,Zc] at K3
 apply ZA
 simp+decide [Yp,Zb, Tryz.f63,Xv,YX,C1,C2,K3,K4,K5,C6]
theorem ZnY(C6:r21=true)(C7:r23=false):
  Zj 0 (exec Tryz.prog (tab (n+2)) 0 109 (Za 63) big YX) (Za 63 (Zo 4)) (Yp a0 a1 out_4 out2_4 i_4) (.ret) (Xv a1 out_4 out2_4):=by
 simp only [Zk,Zc] at K3
 apply ZA
 simp+decide [Yp,Zb, Tryz.f63,Xv,YX,C1,C2,K3,K4,K5,C6,C7]
end
section
variable(C2:¬(i_4:Int)<a1)(K3:run (n+1) 92 [Zd (Ze a0.2).l1]=some (.tup [.lit (.int .i64 r24),.lit (.bool r25)]))(K4:run (n+1) 92 [Zd (Ze a0.2).l2]=some (.tup [.lit (.int .i64 r26),.lit (.bool r27)]))
include C2 K3 K4
theorem Zou(C5:r25=false):
  Zj 0 (exec Tryz.prog (tab (n+2)) 0 109 (Za 63) big YX) (Za 63 (Zo 4)) (Yp a0 a1 out_4 out2_4 i_4) (.ret) (Xv a1 out_4 out2_4):=by
 apply ZA
 simp+decide [Yp,Zb, Tryz.f63,Xv,YX,C1,C2,K3,K4,C5]
theorem ZoA(C5:r25=true)(C6:r27=false):
  Zj 0 (exec Tryz.prog (tab (n+2)) 0 109 (Za 63) big YX) (Za 63 (Zo 4)) (Yp a0 a1 out_4 out2_4 i_4) (.ret) (Xv a1 out_4 out2_4):=by
 apply ZA
 simp+decide [Yp,Zb, Tryz.f63,Xv,YX,C1,C2,K3,K4,C5,C6]
end
end
theorem Zqs(C1:¬(i_4:Int)≤a1):
  Zj 0 (exec Tryz.prog (tab (n+2)) 0 109 (Za 63) big YX) (Za 63 (Zo 4)) (Yp a0 a1 out_4 out2_4 i_4) (.exit 0) (Kj a1 out_4 out2_4):=by
 apply ZA
 simp+decide [Yp,Zb, Tryz.f63,Kj,YX,C1]
section
variable(C1:(i2_18:Int)≤a1)(G2:i2_18<out2_4.length)(E3:out2_4[i2_18]?=some x3)(K4:run (n+1) 93 [.lit (.int .i64 i_18),.lit (.int .i64 x3)]=some (.lit (.int .i64 r30)))(W5:InI (i_18.tdiv r30))(N6:r30≠0)(W8:InI ((i_18.tdiv r30)*x3))
include C1 G2 E3 K4 W5 N6 W8
theorem Zmf(C9:¬1073741824<(i_18.tdiv r30)*x3)(W10:InI ((i2_18:Int)+1)):
  Zm 0 (exec Tryz.prog (tab (n+2)) 0 109 (Za 63) big Xu) (Za 63 18) (QC a1 out_4 out2_4 i_18 i2_18) (QC a1 out_4 out2_4 ((i_18.tdiv r30)*x3) (i2_18+1)):=by
 obtain ⟨EL3,EG3⟩:=gEi E3
 have W5_:IntKind.i64.wrap (i_18.tdiv r30)=i_18.tdiv r30:=Zp W5.1 W5.2
 have W8_:IntKind.i64.wrap ((i_18.tdiv r30)*x3)=(i_18.tdiv r30)*x3:=Zp W8.1 W8.2
 have W10_:IntKind.i64.wrap ((i2_18:Int)+1)=(i2_18:Int)+1:=Zp W10.1 W10.2
 apply ZB
 simp+decide [QC,Zb, Tryz.f63,Xu,C1,G2,EG3,K4,W5_,N6,W8_,C9,W10_]
theorem Zk8(C9:1073741824<(i_18.tdiv r30)*x3):
  Zj 0 (exec Tryz.prog (tab (n+2)) 0 109 (Za 63) big Xu) (Za 63 (Zo 18)) (QC a1 out_4 out2_4 i_18 i2_18) (.ret) (UB a1 out_4 out2_4 i_18 r30 x3):=by
 obtain ⟨EL3,EG3⟩:=gEi E3
 have W5_:IntKind.i64.wrap (i_18.tdiv r30)=i_18.tdiv r30:=Zp W5.1 W5.2
 have W8_:IntKind.i64.wrap ((i_18.tdiv r30)*x3)=(i_18.tdiv r30)*x3:=Zp W8.1 W8.2
 apply ZA
 simp+decide [QC,Zb, Tryz.f63,UB,Xu,C1,G2,EG3,K4,W5_,N6,W8_,C9]
end
theorem Zlt(C1:¬(i2_18:Int)≤a1):
  Zj 0 (exec Tryz.prog (tab (n+2)) 0 109 (Za 63) big Xu) (Za 63 (Zo 18)) (QC a1 out_4 out2_4 i_18 i2_18) (.exit 2) (Ui a1 out_4 out2_4 i_18):=by
 apply ZA
 simp+decide [QC,Zb, Tryz.f63,Ui,Xu,C1]
theorem ZlC(C1:(i_24:Int)≤a1)(G2:i_24<out_24.length)(E3:out_24[i_24]?=some x8)(G4:i_24<out2_4.length)(E5:out2_4[i_24]?=some x9)(W6:InI (i_18.tdiv x9))(N7:x9≠0)(W8:InI (x8*(i_18.tdiv x9)))(W11:InI ((i_24:Int)+1)):
  Zm 0 (exec Tryz.prog (tab (n+2)) 0 109 (Za 63) big VS) (Za 63 24) (WL a1 out_24 out2_4 i_18 i_24) (WL a1 (out_24.set i_24 ((x8*(i_18.tdiv x9)))) out2_4 i_18 (i_24+1)):=by
 obtain ⟨EL3,EG3⟩:=gEi E3
 obtain ⟨EL5,EG5⟩:=gEi E5
 have W6_:IntKind.i64.wrap (i_18.tdiv x9)=i_18.tdiv x9:=Zp W6.1 W6.2
 have W8_:IntKind.i64.wrap (x8*(i_18.tdiv x9))=x8*(i_18.tdiv x9):=Zp W8.1 W8.2
 have W11_:IntKind.i64.wrap ((i_24:Int)+1)=(i_24:Int)+1:=Zp W11.1 W11.2
 apply ZB
 simp+decide [WL,Zb, Tryz.f63,VS,C1,G2,EG3,G4,EG5,W6_,N7,W8_,W11_]
theorem ZkF(C1:¬(i_24:Int)≤a1):
  Zj 0 (exec Tryz.prog (tab (n+2)) 0 109 (Za 63) big VS) (Za 63 (Zo 24)) (WL a1 out_24 out2_4 i_18 i_24) (.exit 4) (Uk out_24):=by
 apply ZA
 simp+decide [WL,Zb, Tryz.f63,Uk,VS,C1]
section
variable(W1:InI (a1+1))(M2:(a1+1).toNat≤100000000)(C3:0≤a1+1)(C6:0≤a1+1)
include W1 M2 C3 C6
theorem ZvX(L7:Zl Tryz.prog (tab (n+2)) 0 109 (Za 63) 4 YX (Yp a0 a1 (List.replicate ((a1+1).toNat) 0) (List.replicate ((a1+1).toNat) 0) 0)=some (.ret,Xv a1 out_4 out2_4)):
  run (n+2) 63 [Zc a0,.lit (.int .i64 a1)]=some (.tup [.sl 1 [],.lit (.bool false)]):=by
 have W1_:IntKind.i64.wrap (a1+1)=a1+1:=Zp W1.1 W1.2
 have M2_:∀b,b≤10000→ZG ((a1+1).toNat) b=true:=fun b hb=>Zq M2 hb
 unfold run fnP
 simp+decide [Tryz.f63,W1_,M2_,C3]
 rw [Zi (C':=YX) (e:=(Yp a0 a1 (List.replicate ((a1+1).toNat) 0) (List.replicate ((a1+1).toNat) 0) 0)) ?_ ?_,L7]
 rotate_left
 ·kernel_rfl
 ·simp+decide [Yp]
 simp+decide [Xv]
section
variable(L7:Zl Tryz.prog (tab (n+2)) 0 109 (Za 63) 4 YX (Yp a0 a1 (List.replicate ((a1+1).toNat) 0) (List.replicate ((a1+1).toNat) 0) 0)=some (.exit 0,Kj a1 out_4 out2_4))
include L7
theorem Zxn(L8:Zl Tryz.prog (tab (n+2)) 0 109 (Za 63) 18 Xu (QC a1 out_4 out2_4 1 0)=some (.ret,UB a1 out_4 out2_4 i_18 r30 x3)):
  run (n+2) 63 [Zc a0,.lit (.int .i64 a1)]=some (.tup [.sl 1 [],.lit (.bool false)]):=by
 have W1_:IntKind.i64.wrap (a1+1)=a1+1:=Zp W1.1 W1.2
 have M2_:∀b,b≤10000→ZG ((a1+1).toNat) b=true:=fun b hb=>Zq M2 hb
 unfold run fnP
 simp+decide [Tryz.f63,W1_,M2_,C3]
 rw [Zi (C':=YX) (e:=(Yp a0 a1 (List.replicate ((a1+1).toNat) 0) (List.replicate ((a1+1).toNat) 0) 0)) ?_ ?_,L7]
 rotate_left
 ·kernel_rfl
 ·simp+decide [Yp]
 simp+decide [Kj]
 rw [Zi (C':=Xu) (e:=(QC a1 out_4 out2_4 1 0)) ?_ ?_,L8]
 rotate_left
 ·kernel_rfl
 ·simp+decide [QC]
 simp+decide [UB]
theorem ZvV(L8:Zl Tryz.prog (tab (n+2)) 0 109 (Za 63) 18 Xu (QC a1 out_4 out2_4 1 0)=some (.exit 2,Ui a1 out_4 out2_4 i_18))(L9:Zl Tryz.prog (tab (n+2)) 0 109 (Za 63) 24 VS (WL a1 out_4 out2_4 i_18 0)=some (.exit 4,Uk out_24))(K10:Zr (n+1) 94 [.own 0 out_24.length] [.row 3 1 (out_24.map ZK) 0]=some (.lit (.bool r31),[(0,.row 3 1 (R.map ZK) 0)]))(Q10:R.length=out_24.length):
  run (n+2) 63 [Zc a0,.lit (.int .i64 a1)]=some (.tup [.sl 1 (R.map ZK),.lit (.bool r31)]):=by
 have W1_:IntKind.i64.wrap (a1+1)=a1+1:=Zp W1.1 W1.2
 have M2_:∀b,b≤10000→ZG ((a1+1).toNat) b=true:=fun b hb=>Zq M2 hb
 unfold run fnP
 simp+decide [Tryz.f63,W1_,M2_,C3]
 rw [Zi (C':=YX) (e:=(Yp a0 a1 (List.replicate ((a1+1).toNat) 0) (List.replicate ((a1+1).toNat) 0) 0)) ?_ ?_,L7]
 rotate_left
 ·kernel_rfl
 ·simp+decide [Yp]
 simp+decide [Kj]
 rw [Zi (C':=Xu) (e:=(QC a1 out_4 out2_4 1 0)) ?_ ?_,L8]
 rotate_left
 ·kernel_rfl
 ·simp+decide [QC]
 simp+decide [Ui]
 rw [Zi (C':=VS) (e:=(WL a1 out_4 out2_4 i_18 0)) ?_ ?_,L9]
 rotate_left
 ·kernel_rfl
 ·simp+decide [WL]
 simp+decide [Uk,Q10,K10]
end
end
end
section
set_option maxHeartbeats 1600000
attribute [local irreducible] run Zr Zl exec
theorem Zkp{n:Nat}{l:List Nat}(hL:Lim l):∃(z:Nat) (b:Bool),run n 92 [Zd l]=some (.tup [.lit (.int .i64 (z:Int)),.lit (.bool b)])∧z<4294967296∧(b=true→val l=z∧z≤1073741824):=by
 match l,hL with
 | [],_=>exact ⟨0,true,ZwZ rfl,by omega,fun _=>⟨rfl,by omega⟩⟩
 | [x],h=>
   have hx:=h x (by simp)
   refine ⟨x,_,ZxD (a0:=[x]) (by simp) rfl ⟨by omega,by omega⟩ (by simp),hx,fun hb=>⟨by simp [val],?_⟩⟩
   have:=of_decide_eq_true hb
   omega
 | x::y::l,h=>
   have hx:=h x (by simp)
   exact ⟨x,false,Zwi (a0:=x::y::l) (by simp;omega) rfl ⟨by omega,by omega⟩ (by simp;omega),hx,fun h=>by cases h⟩
theorem ZuN{n a b:Nat}(ha:a<4611686018427387904)(hb:b<4611686018427387904):run n 93 [.lit (.int .i64 (a:Int)),.lit (.int .i64 (b:Int))]=some (.lit (.int .i64 ((Nat.gcd a b:Nat):Int))):=by
 obtain ⟨ex,t,h1,h2⟩:=Qr (O:=tab n) (P:= Tryz.prog) (m:=0) (N:=12) (lives:=Za 93) (r:=1) (C:=Vu) (M:=128) (enc:=fun _ (p:Nat × Nat)=>X7 (p.1:Int) (p.2:Int))
  (fun i p=>Nat.gcd p.1 p.2=Nat.gcd a b∧p.1<4611686018427387904∧p.2<4611686018427387904∧(i=0∨p.2<p.1∧p.1*p.2*2 ^ (i-1)<21267647932558653966460912964485513216)) (fun ex t=>ex=.exit 0∧t=WB ((Nat.gcd a b:Nat):Int)) (a,b) ⟨rfl,ha,hb,.inl rfl⟩ (by omega)
  (fun i p _ hI=>by
   obtain ⟨x,y⟩:=p
   obtain ⟨hg,hx,hy,hi⟩:=hI
   dsimp only at hg hx hy hi
   by_cases h0:y=0
   ·right
    subst h0
    rw [Nat.gcd_zero_right] at hg
    exact ⟨.exit 0,WB (x:Int),by simp,ZcG rfl,rfl,by rw [hg]⟩
   ·left
    have hm:=Nat.mod_lt x (show y >0 by omega)
    refine ⟨(y,x % y),?_,?_,hy,by show x % y<_;omega,.inr ⟨hm,?_⟩⟩
    ·have h9:=Zix (n:=n) (i_1:=(x:Int)) (i2_1:=(y:Int)) (by omega) (by omega)
     rw [←Int.ofNat_tmod] at h9
     exact h9
    ·show Nat.gcd y (x % y)=_
     rw [Nat.gcd_comm y,←Nat.gcd_rec,Nat.gcd_comm,hg]
    ·show y*(x % y)*2 ^ (i+1-1)<_
     rw [Nat.add_sub_cancel]
     rcases Nat.eq_zero_or_pos i with rfl|hpos
     ·have h8:y*(x % y)≤4611686018427387903*4611686018427387903:=Nat.mul_le_mul (by omega) (by omega)
      omega
     ·rcases hi with h|⟨h5,h6⟩
      ·omega
      obtain ⟨k,rfl⟩:∃k,i=k+1:=⟨i-1,by omega⟩
      rw [Nat.add_sub_cancel] at h6
      have h7:=Nat.div_add_mod x y
      have h8:y≤y*(x / y):=Nat.le_mul_of_pos_right _ (Nat.div_pos (by omega) (by omega))
      have h9:2*(x % y)≤x:=by omega
      have h10:y*(2*(x % y))*2 ^ k≤y*x*2 ^ k:=Nat.mul_le_mul_right _ (Nat.mul_le_mul_left _ h9)
      have e1:y*(x % y)*2 ^ (k+1)=y*(2*(x % y))*2 ^ k:=by rw [Nat.pow_succ];grind
      have e2:x*y*2 ^ k=y*x*2 ^ k:=by rw [Nat.mul_comm x y]
      omega)
  (fun p hI=>by
   obtain ⟨x,y⟩:=p
   obtain ⟨hg,hx,hy,hi⟩:=hI
   dsimp only at hg hx hy hi
   rcases hi with h|⟨h5,h6⟩
   ·omega
   have e:(2:Nat) ^ (128-1)=170141183460469231731687303715884105728:=rfl
   rw [e] at h6
   have h7:x*y=0:=by
    rcases Nat.eq_zero_or_pos (x*y) with h|h
    ·exact h
    ·omega
   rcases Nat.mul_eq_zero.1 h7 with h|h
   ·omega
   subst h
   rw [Nat.gcd_zero_right] at hg
   exact ⟨.exit 0,WB (x:Int),by simp,ZcG rfl,rfl,by rw [hg]⟩)
 obtain ⟨rfl,rfl⟩:=h2
 exact Zq2 h1
theorem J3{l:List Int}{i j:Nat}{v:Int}(hi:i<l.length):(l.set i v).getD j 0=if j=i then v else l.getD j 0:=by
 rw [List.getD_eq_getElem?_getD,List.getElem?_set,List.getD_eq_getElem?_getD]
 by_cases h:i=j
 ·subst h;simp [hi]
 ·rw [if_neg h,if_neg (fun h2=>h h2.symm)]
theorem ZjV{l:List Int}{i:Nat}{x:Int}(h:l[i]?=some x):l.getD i 0=x:=by rw [List.getD_eq_getElem?_getD,h];rfl
theorem Xi{l:List Int}{i:Nat}(h:i<l.length):l[i]?=some (l.getD i 0):=by rw [List.getD_eq_getElem?_getD,gEt h];rfl
theorem Zir{l:List Int}{i:Nat}(h:l.length≤i):l.getD i 0=0:=by rw [List.getD_eq_getElem?_getD,List.getElem?_eq_none h];rfl
def ZCq(c R:List Int):Prop:=∃d:Int,0<d∧∀i,c.getD i 0=d*R.getD i 0∧-1073741824≤R.getD i 0∧R.getD i 0≤1073741824
theorem ZuZ{n:Nat}{c:List Int}(hc:∀x∈c,-4611686018427387904<x∧x<4611686018427387904)(hl:c.length≤1000000):
  ∃(ok:Bool) (R:List Int),Zr (n+1) 94 [.own 0 c.length] [.row 3 1 (c.map ZK) 0]=some (.lit (.bool ok),[(0,.row 3 1 (R.map ZK) 0)])∧R.length=c.length∧(ok=true→ZCq c R):=by
 obtain ⟨d,L1,hd,hdv⟩:=QV (O:=tab (n+1)) (P:= Tryz.prog) (m:=1) (N:=53) (lives:=Za 94) (r:=3) (C:=U8) (exN:=.exit 0) (M:=c.length) (enc:=fun i (d:Nat)=>WD c (d:Int) i) (out:=fun d=>UM c (d:Int))
  (fun i d=>d<4611686018427387904∧∀j,j<i→(d:Int) ∣ c.getD j 0) 0 ⟨by omega,fun j hj=>absurd hj (by omega)⟩ (by omega) (by simp)
  (fun i d hi hI=>by
   obtain ⟨hd,hv⟩:=hI
   have hx:=Xi hi
   obtain ⟨x,hxx⟩:∃x,c.getD i 0=x:=⟨_,rfl⟩
   rw [hxx] at hx
   have hb:=hc x (gMe hx)
   have e:(if x < -x then -x else x)=((x.natAbs:Nat):Int):=by split <;>omega
   have K:=ZuN (n:=n) (a:=x.natAbs) (b:=d) (by omega) hd
   rw [←e] at K
   refine ⟨Nat.gcd x.natAbs d,ZqW (by omega) hi hx ⟨by omega,by omega⟩ K ⟨by omega,by omega⟩,?_,fun j hj=>?_⟩
   ·rcases Nat.eq_zero_or_pos x.natAbs with h|h
    ·rw [h,Nat.gcd_zero_left];exact hd
    ·have:=Nat.gcd_le_left d h
     omega
   ·by_cases h:j=i
    ·subst h;rw [hxx];exact Int.ofNat_dvd_left.2 (Nat.gcd_dvd_left _ _)
    ·exact Int.dvd_trans (Int.ofNat_dvd.2 (Nat.gcd_dvd_right _ _)) (hv j (by omega)))
  (fun d _=>ZnZ (by omega))
 obtain ⟨ex,t,L2,hQ⟩:=Qr (O:=tab (n+1)) (P:= Tryz.prog) (m:=1) (N:=53) (lives:=Za 94) (r:=7) (C:=Ql) (M:=c.length) (enc:=fun i (out:List Int)=>YM out (d:Int) i)
  (fun i out=>out.length=c.length∧(∀j,j<i→c.getD j 0=(if 1<(d:Int) then (d:Int) else 1)*out.getD j 0∧-1073741824≤out.getD j 0∧out.getD j 0≤1073741824)∧∀j,i≤j→out.getD j 0=c.getD j 0)
  (fun ex t=>(ex=.exit 2∧∃R,t=ZaS R∧R.length=c.length∧∀j,j<c.length→c.getD j 0=(if 1<(d:Int) then (d:Int) else 1)*R.getD j 0∧-1073741824≤R.getD j 0∧R.getD j 0≤1073741824)∨(ex=.ret∧((∃R,t=UN R∧R.length=c.length)∨∃R k x,t=Ki R k x (d:Int)∧R.length=c.length)))
  c ⟨rfl,fun j hj=>absurd hj (by omega),fun _ _=>rfl⟩ (by omega)
  (fun i out hi hI=>by
   obtain ⟨h1,h2,h3⟩:=hI
   have hi2:i<out.length:=by omega
   have hx:=Xi hi2
   obtain ⟨x,hxx⟩:∃x,out.getD i 0=x:=⟨_,rfl⟩
   rw [hxx] at hx
   have hxc:c.getD i 0=x:=by rw [←h3 i (Nat.le_refl _),hxx]
   have hb:=hc x (gMe (by rw [Xi hi,hxc]))
   by_cases h9:1<(d:Int)
   ·obtain ⟨y,hy⟩:=hdv i hi
    rw [hxc] at hy
    have hq:x.tdiv (d:Int)=y:=by rw [hy];exact Int.mul_tdiv_cancel_left _ (by omega)
    have hyb:y.natAbs≤x.natAbs:=by
     rw [hy,Int.natAbs_mul]
     exact Nat.le_mul_of_pos_left _ (by omega)
    have E10:(out.set i (x.tdiv (d:Int)))[i]?=some y:=by rw [List.getElem?_set_self hi2,hq]
    by_cases c1:1073741824<y
    ·exact .inr ⟨.ret,_,by simp,ZpG (by omega) h9 hi2 hx (by rw [hq];exact ⟨by omega,by omega⟩) (by omega) E10 c1,.inr ⟨rfl,.inr ⟨_,_,_,rfl,h1⟩⟩⟩
    by_cases c2:y < -1073741824
    ·exact .inr ⟨.ret,_,by simp,ZqE (by omega) h9 hi2 hx (by rw [hq];exact ⟨by omega,by omega⟩) (by omega) E10 c1 c2,.inr ⟨rfl,.inr ⟨_,_,_,rfl,h1⟩⟩⟩
    refine .inl ⟨out.set i (x.tdiv (d:Int)),Zpn (by omega) h9 hi2 hx (by rw [hq];exact ⟨by omega,by omega⟩) (by omega) E10 c1 c2 ⟨by omega,by omega⟩,by rw [List.length_set];exact h1,fun j hj=>?_,fun j hj=>?_⟩
    ·rw [J3 hi2]
     by_cases hji:j=i
     ·subst hji
      rw [if_pos rfl,if_pos h9,hxc,hq]
      exact ⟨hy,by omega,by omega⟩
     ·rw [if_neg hji];exact h2 j (by omega)
    ·rw [J3 hi2,if_neg (by omega)];exact h3 j (by omega)
   ·by_cases c1:1073741824<x
    ·exact .inr ⟨.ret,_,by simp,ZnJ (by omega) h9 hi2 hx c1,.inr ⟨rfl,.inl ⟨_,rfl,h1⟩⟩⟩
    by_cases c2:x < -1073741824
    ·exact .inr ⟨.ret,_,by simp,Zo7 (by omega) h9 hi2 hx c1 c2,.inr ⟨rfl,.inl ⟨_,rfl,h1⟩⟩⟩
    refine .inl ⟨out,Zor (by omega) h9 hi2 hx c1 c2 ⟨by omega,by omega⟩,h1,fun j hj=>?_,fun j hj=>h3 j (by omega)⟩
    by_cases hji:j=i
    ·subst hji
     rw [if_neg h9,hxc,hxx]
     exact ⟨by omega,by omega,by omega⟩
    ·exact h2 j (by omega))
  (fun out hI=>by
   obtain ⟨h1,h2,h3⟩:=hI
   exact ⟨.exit 2,_,by simp,ZpZ (by omega),.inl ⟨rfl,_,rfl,h1,h2⟩⟩)
 rcases hQ with ⟨rfl,R,rfl,hR,hv⟩|⟨rfl,⟨R,rfl,hR⟩|⟨R,k,x,rfl,hR⟩⟩
 ·refine ⟨true,R,Zvf L1 L2,hR,fun _=>⟨if 1<(d:Int) then (d:Int) else 1,?_,fun i=>?_⟩⟩
  ·split <;>omega
  ·by_cases hi:i<c.length
   ·exact hv i hi
   ·rw [Zir (by omega),Zir (by omega)]
    exact ⟨by simp,by omega,by omega⟩
 ·exact ⟨false,R,ZvO L1 L2,hR,fun h=>by cases h⟩
 ·exact ⟨false,_,Zw5 L1 L2,by rw [List.length_set];exact hR,fun h=>by cases h⟩
end
end Go.Proofs.YtdaonnnlgfhlaaaGreatDoor
