import Derived.Test.YtdaonnnlgfhlaaaGreatDoorGF16
import Derived.Test.YtdaonnnlgfhlaaaGreatDoorGF17
set_option linter.all false
set_option maxHeartbeats 6400000
set_option maxRecDepth 100000
namespace Go.Proofs.YtdaonnnlgfhlaaaGreatDoor
section
open Go.RowKit
section
variable {a0 : List Nat} {n : Nat} {x : Nat}
theorem Zvz(C1:(a0.length:Int)=0):
  run n 92 [Zc a0]=some (.tup [.lit (.int .i64 0),.lit (.bool true)]):=by
 have C1_:((a0.length:Int)==0)=true:=by rw [C1];simp
 unfold run fnP
 simp+decide [Tryz.f92,Zc,C1_]
theorem Zv5(C1:¬(a0.length:Int)=0)(E2:a0[0]?=some x)(W3:InI ((x:Int)))(C4:(a0.length:Int)=1):
  run n 92 [Zc a0]=some (.tup [.lit (.int .i64 (x:Int)),.lit (.bool (decide ((x:Int)≤1073741824)))]):=by
 have C1_:((a0.length:Int)==0)=false:=by simpa using C1
 obtain ⟨EL2,EG2⟩:=List.getElem?_eq_some_iff.1 E2
 have W3_:IntKind.i64.wrap ((x:Int))=(x:Int):=Zq W3.1 W3.2
 have C4_:((a0.length:Int)==1)=true:=by rw [C4];simp
 unfold run fnP
 simp+decide [Tryz.f92,Zc,C1_,EL2,EG2,W3_,C4_]
theorem Zt6(C1:¬(a0.length:Int)=0)(E2:a0[0]?=some x)(W3:InI ((x:Int)))(C4:¬(a0.length:Int)=1):
  run n 92 [Zc a0]=some (.tup [.lit (.int .i64 (x:Int)),.lit (.bool false)]):=by
 have C1_:((a0.length:Int)==0)=false:=by simpa using C1
 obtain ⟨EL2,EG2⟩:=List.getElem?_eq_some_iff.1 E2
 have W3_:IntKind.i64.wrap ((x:Int))=(x:Int):=Zq W3.1 W3.2
 have C4_:((a0.length:Int)==1)=false:=by simpa using C4
 unfold run fnP
 simp+decide [Tryz.f92,Zc,C1_,EL2,EG2,W3_,C4_]
end
noncomputable def Vr:Code:=(Zb (ZP Tryz.f93)).getD 0 .skip
def XG(i_1:Int)(i2_1:Int):St:=
 ⟨[(0,.lit (.int .i64 i_1)),(1,.lit (.int .i64 i2_1))],
  [],0⟩
def Wl(i_1:Int):St:=
 ⟨[(0,.lit (.int .i64 i_1))],
  [],0⟩
section
variable {n : Nat} {i2_1 : Int} {i_1 : Int} {a1 : Int} {a0 : Int}
theorem ZhU(C1:¬i2_1=0)(N2:i2_1≠0):
  Zm 0 (exec Tryz.prog (tab n) 0 12 (Za 93) big Vr) (Za 93 1) (XG i_1 i2_1) (XG i2_1 (i_1.tmod i2_1)):=by
 have C1_n:(i2_1 !=0)=true:=by simpa using C1
 apply ZW
 simp+decide [XG,Zb, Tryz.f93,Vr,C1_n,N2]
theorem ZcR(C1:i2_1=0):
  Zj 0 (exec Tryz.prog (tab n) 0 12 (Za 93) big Vr) (Za 93 (Zo 1)) (XG i_1 i2_1) (.exit 0) (Wl i_1):=by
 have C1_n:(i2_1 !=0)=false:=by rw [C1];simp
 apply ZQ
 simp+decide [XG,Zb, Tryz.f93,Wl,Vr,C1_n]
theorem ZmS(L1:Zk Tryz.prog (tab n) 0 12 (Za 93) 1 Vr (XG a0 a1)=some (.exit 0,Wl i_1)):
  run n 93 [.lit (.int .i64 a0),.lit (.int .i64 a1)]=some (.lit (.int .i64 i_1)):=by
 unfold run fnP
 simp+decide [Tryz.f93]
 rw [Zi (C':=Vr) (e:=(XG a0 a1)) ?_ ?_,L1]
 rotate_left
 ·kernel_rfl
 ·simp+decide [XG]
 simp+decide [Wl]
end
noncomputable def Uz:Code:=(Zb (ZP Tryz.f94)).getD 0 .skip
noncomputable def Y5:Code:=(Zb (ZP Tryz.f94)).getD 1 .skip
def Wk(a0:List Int)(i_3:Int)(i2_3:Nat):St:=
 ⟨[(0,.own 0 a0.length),(3,.lit (.int .i64 i_3)),(4,.lit (.int .i64 (i2_3:Int)))],
  [(0,some (.row 3 1 (a0.map ZG) 0))],1⟩
def YD(out_7:List Int)(i_3:Int)(i_7:Nat):St:=
 ⟨[(0,.own 0 out_7.length),(3,.lit (.int .i64 i_3)),(5,.lit (.int .i64 (i_7:Int)))],
  [(0,some (.row 3 1 (out_7.map ZG) 0))],1⟩
def UC(a0:List Int)(i_3:Int):St:=
 ⟨[(0,.own 0 a0.length),(3,.lit (.int .i64 i_3))],
  [(0,some (.row 3 1 (a0.map ZG) 0))],1⟩
def UV(out_7:List Int)(i_7:Nat)(x10:Int)(i_3:Int):St:=
 ⟨[(2,.lit (.bool false))],
  [(0,some (.row 3 1 ((out_7.set i_7 (x10.tdiv i_3)).map ZG) 0))],1⟩
def UT(out_7:List Int):St:=
 ⟨[(2,.lit (.bool false))],
  [(0,some (.row 3 1 (out_7.map ZG) 0))],1⟩
def J8(out_7:List Int):St:=
 ⟨[(2,.any)],
  [(0,some (.row 3 1 (out_7.map ZG) 0))],1⟩
section
variable {i_3 : Int} {a0 : List Int} {i2_3 : Nat} {r3 : Int} {n : Nat} {x3 : Int} {x10 : Int} {x11 : Int} {i_7 : Nat} {out_7 : List Int} {x12 : Int}
theorem ZnK(C1:(i2_3:Int)<(a0.length:Int))(G2:i2_3<a0.length)(E3:a0[i2_3]?=some x3)(W5:InI ((-x3)))(K6:run n 93 [.lit (.int .i64 ((if x3<(-x3) then (-x3) else x3))),.lit (.int .i64 i_3)]=some (.lit (.int .i64 r3)))(W7:InI ((i2_3:Int)+1)):
  Zm 1 (exec Tryz.prog (tab (n+1)) 1 53 (Za 94) big Uz) (Za 94 3) (Wk a0 i_3 i2_3) (Wk a0 r3 (i2_3+1)):=by
 have C1_:i2_3<a0.length:=by omega
 obtain ⟨EL3,EG3⟩:=List.getElem?_eq_some_iff.1 E3
 have W5_:IntKind.i64.wrap ((-x3))=(-x3):=Zq W5.1 W5.2
 have W7_:IntKind.i64.wrap ((i2_3:Int)+1)=(i2_3:Int)+1:=Zq W7.1 W7.2
 apply ZW
 simp+decide [Wk,Zb, Tryz.f94,Uz,C1,C1_,EG3,W5_,K6,W7_]
theorem ZnS(C1:¬(i2_3:Int)<(a0.length:Int)):
  Zj 1 (exec Tryz.prog (tab (n+1)) 1 53 (Za 94) big Uz) (Za 94 (Zo 3)) (Wk a0 i_3 i2_3) (.exit 0) (UC a0 i_3):=by
 apply ZQ
 simp+decide [Wk,Zb, Tryz.f94,UC,Uz,C1]
section
variable(C1:(i_7:Int)<(out_7.length:Int))
include C1
theorem Zp5(C2:1<i_3)(G3:i_7<out_7.length)(E4:out_7[i_7]?=some x10)(W5:InI (x10.tdiv i_3))(N6:i_3≠0)(E10:(out_7.set i_7 (x10.tdiv i_3))[i_7]?=some x11)(C11:¬1073741824<x11)(C13:¬x11<(-1073741824))(W14:InI ((i_7:Int)+1)):
  Zm 1 (exec Tryz.prog (tab (n+1)) 1 53 (Za 94) big Y5) (Za 94 7) (YD out_7 i_3 i_7) (YD (out_7.set i_7 (x10.tdiv i_3)) i_3 (i_7+1)):=by
 have C1_:i_7<out_7.length:=by omega
 obtain ⟨EL4,EG4⟩:=List.getElem?_eq_some_iff.1 E4
 have W5_:IntKind.i64.wrap (x10.tdiv i_3)=x10.tdiv i_3:=Zq W5.1 W5.2
 rw [List.getElem?_set_self (by omega)] at E10
 obtain rfl:=Option.some.inj E10
 have W14_:IntKind.i64.wrap ((i_7:Int)+1)=(i_7:Int)+1:=Zq W14.1 W14.2
 apply ZW
 simp+decide [YD,Zb, Tryz.f94,Y5,C1,C1_,C2,EG4,W5_,N6,C11,C13,W14_]
theorem ZoS(C2:¬1<i_3)(G3:i_7<out_7.length)(E4:out_7[i_7]?=some x12)(C5:¬1073741824<x12)(C7:¬x12<(-1073741824))(W8:InI ((i_7:Int)+1)):
  Zm 1 (exec Tryz.prog (tab (n+1)) 1 53 (Za 94) big Y5) (Za 94 7) (YD out_7 i_3 i_7) (YD out_7 i_3 (i_7+1)):=by
 have C1_:i_7<out_7.length:=by omega
 obtain ⟨EL4,EG4⟩:=List.getElem?_eq_some_iff.1 E4
 have W8_:IntKind.i64.wrap ((i_7:Int)+1)=(i_7:Int)+1:=Zq W8.1 W8.2
 apply ZW
 simp+decide [YD,Zb, Tryz.f94,Y5,C1,C1_,C2,EG4,C5,C7,W8_]
section
variable(C2:1<i_3)(G3:i_7<out_7.length)(E4:out_7[i_7]?=some x10)(W5:InI (x10.tdiv i_3))(N6:i_3≠0)(E10:(out_7.set i_7 (x10.tdiv i_3))[i_7]?=some x11)
include C2 G3 E4 W5 N6 E10
theorem ZmN(C11:1073741824<x11):
  Zj 1 (exec Tryz.prog (tab (n+1)) 1 53 (Za 94) big Y5) (Za 94 (Zo 7)) (YD out_7 i_3 i_7) (.ret) (UV out_7 i_7 x10 i_3):=by
 have C1_:i_7<out_7.length:=by omega
 obtain ⟨EL4,EG4⟩:=List.getElem?_eq_some_iff.1 E4
 have W5_:IntKind.i64.wrap (x10.tdiv i_3)=x10.tdiv i_3:=Zq W5.1 W5.2
 rw [List.getElem?_set_self (by omega)] at E10
 obtain rfl:=Option.some.inj E10
 apply ZQ
 simp+decide [YD,Zb, Tryz.f94,UV,Y5,C1,C1_,C2,EG4,W5_,N6,C11]
theorem Znp(C11:¬1073741824<x11)(C13:x11<(-1073741824)):
  Zj 1 (exec Tryz.prog (tab (n+1)) 1 53 (Za 94) big Y5) (Za 94 (Zo 7)) (YD out_7 i_3 i_7) (.ret) (UV out_7 i_7 x10 i_3):=by
 have C1_:i_7<out_7.length:=by omega
 obtain ⟨EL4,EG4⟩:=List.getElem?_eq_some_iff.1 E4
 have W5_:IntKind.i64.wrap (x10.tdiv i_3)=x10.tdiv i_3:=Zq W5.1 W5.2
 rw [List.getElem?_set_self (by omega)] at E10
 obtain rfl:=Option.some.inj E10
 apply ZQ
 simp+decide [YD,Zb, Tryz.f94,UV,Y5,C1,C1_,C2,EG4,W5_,N6,C11,C13]
end
theorem ZoM(C2:¬1<i_3)(G3:i_7<out_7.length)(E4:out_7[i_7]?=some x12)(C5:1073741824<x12):
  Zj 1 (exec Tryz.prog (tab (n+1)) 1 53 (Za 94) big Y5) (Za 94 (Zo 7)) (YD out_7 i_3 i_7) (.ret) (UT out_7):=by
 have C1_:i_7<out_7.length:=by omega
 obtain ⟨EL4,EG4⟩:=List.getElem?_eq_some_iff.1 E4
 apply ZQ
 simp+decide [YD,Zb, Tryz.f94,UT,Y5,C1,C1_,C2,EG4,C5]
theorem Zmv(C2:¬1<i_3)(G3:i_7<out_7.length)(E4:out_7[i_7]?=some x12)(C5:¬1073741824<x12)(C7:x12<(-1073741824)):
  Zj 1 (exec Tryz.prog (tab (n+1)) 1 53 (Za 94) big Y5) (Za 94 (Zo 7)) (YD out_7 i_3 i_7) (.ret) (UT out_7):=by
 have C1_:i_7<out_7.length:=by omega
 obtain ⟨EL4,EG4⟩:=List.getElem?_eq_some_iff.1 E4
 apply ZQ
 simp+decide [YD,Zb, Tryz.f94,UT,Y5,C1,C1_,C2,EG4,C5,C7]
end
theorem Zm1(C1:¬(i_7:Int)<(out_7.length:Int)):
  Zj 1 (exec Tryz.prog (tab (n+1)) 1 53 (Za 94) big Y5) (Za 94 (Zo 7)) (YD out_7 i_3 i_7) (.exit 2) (J8 out_7):=by
 apply ZQ
 simp+decide [YD,Zb, Tryz.f94,J8,Y5,C1]
section
variable(L1:Zk Tryz.prog (tab (n+1)) 1 53 (Za 94) 3 Uz (Wk a0 0 0)=some (.exit 0,UC a0 i_3))
include L1
theorem Zuh(L2:Zk Tryz.prog (tab (n+1)) 1 53 (Za 94) 7 Y5 (YD a0 i_3 0)=some (.ret,UV out_7 i_7 x10 i_3)):
  Zp (n+1) 94 [.own 0 a0.length] [.row 3 1 (a0.map ZG) 0]=some (.lit (.bool false),[(0,.row 3 1 ((out_7.set i_7 (x10.tdiv i_3)).map ZG) 0)]):=by
 unfold Zp fnL
 simp+decide [Tryz.f94]
 rw [Zi (C':=Uz) (e:=(Wk a0 0 0)) ?_ ?_,L1]
 rotate_left
 ·kernel_rfl
 ·simp+decide [Wk]
 simp+decide [UC]
 rw [Zi (C':=Y5) (e:=(YD a0 i_3 0)) ?_ ?_,L2]
 rotate_left
 ·kernel_rfl
 ·simp+decide [YD]
 simp+decide [UV]
theorem Zwu(L2:Zk Tryz.prog (tab (n+1)) 1 53 (Za 94) 7 Y5 (YD a0 i_3 0)=some (.ret,UT out_7)):
  Zp (n+1) 94 [.own 0 a0.length] [.row 3 1 (a0.map ZG) 0]=some (.lit (.bool false),[(0,.row 3 1 (out_7.map ZG) 0)]):=by
 unfold Zp fnL
 simp+decide [Tryz.f94]
 rw [Zi (C':=Uz) (e:=(Wk a0 0 0)) ?_ ?_,L1]
 rotate_left
 ·kernel_rfl
 ·simp+decide [Wk]
 simp+decide [UC]
 rw [Zi (C':=Y5) (e:=(YD a0 i_3 0)) ?_ ?_,L2]
 rotate_left
 ·kernel_rfl
 ·simp+decide [YD]
 simp+decide [UT]
theorem Zwm(L2:Zk Tryz.prog (tab (n+1)) 1 53 (Za 94) 7 Y5 (YD a0 i_3 0)=some (.exit 2,J8 out_7)):
  Zp (n+1) 94 [.own 0 a0.length] [.row 3 1 (a0.map ZG) 0]=some (.lit (.bool true),[(0,.row 3 1 (out_7.map ZG) 0)]):=by
 unfold Zp fnL
 simp+decide [Tryz.f94]
 rw [Zi (C':=Uz) (e:=(Wk a0 0 0)) ?_ ?_,L1]
 rotate_left
 ·kernel_rfl
 ·simp+decide [Wk]
 simp+decide [UC]
 rw [Zi (C':=Y5) (e:=(YD a0 i_3 0)) ?_ ?_,L2]
 rotate_left
 ·kernel_rfl
 ·simp+decide [YD]
 simp+decide [J8]
end
end
noncomputable def YN:Code:=(Zb (ZP Tryz.f63)).getD 0 .skip
noncomputable def Xl:Code:=(Zb (ZP Tryz.f63)).getD 1 .skip
noncomputable def VF:Code:=(Zb (ZP Tryz.f63)).getD 2 .skip
def Yj(a0:Zf)(a1:Int)(out_4:List Int)(out2_4:List Int)(i_4:Nat):St:=
 ⟨[(1,.lit (.int .i64 a1)),(2,.ptr 0 0),(6,.own 1 out_4.length),(7,.own 2 out2_4.length),(8,.lit (.int .i64 (i_4:Int)))],
  [(0,some (.box 28 [.sl 4 (a0.1.map Zr),.lit (.bool (Zd a0.2).s),Zc (Zd a0.2).l1,Zc (Zd a0.2).l2] false)),
   (1,some (.row 3 1 (out_4.map ZG) 0)),
   (2,some (.row 3 1 (out2_4.map ZG) 0))],3⟩
def Qr(a1:Int)(out_4:List Int)(out2_4:List Int)(i_18:Int)(i2_18:Nat):St:=
 ⟨[(1,.lit (.int .i64 a1)),(6,.own 0 out_4.length),(7,.own 1 out2_4.length),(14,.lit (.int .i64 i_18)),(15,.lit (.int .i64 (i2_18:Int)))],
  [(0,some (.row 3 1 (out_4.map ZG) 0)),
   (1,some (.row 3 1 (out2_4.map ZG) 0))],2⟩
def Wy(a1:Int)(out_24:List Int)(out2_4:List Int)(i_18:Int)(i_24:Nat):St:=
 ⟨[(1,.lit (.int .i64 a1)),(6,.own 0 out_24.length),(7,.own 1 out2_4.length),(14,.lit (.int .i64 i_18)),(16,.lit (.int .i64 (i_24:Int)))],
  [(0,some (.row 3 1 (out_24.map ZG) 0)),
   (1,some (.row 3 1 (out2_4.map ZG) 0))],2⟩
def Xj(a1:Int)(out_4:List Int)(out2_4:List Int):St:=
 ⟨[(1,.lit (.int .i64 a1)),(4,.own 0 0),(5,.lit (.bool false)),(6,.own 1 out_4.length),(7,.own 2 out2_4.length)],
  [(0,some (.row 3 1 [] 0)),
   (1,some (.row 3 1 (out_4.map ZG) 0)),
   (2,some (.row 3 1 (out2_4.map ZG) 0))],3⟩
def Uu(a1:Int)(out_4:List Int)(out2_4:List Int):St:=
 ⟨[(1,.lit (.int .i64 a1)),(4,.any),(5,.any),(6,.own 0 out_4.length),(7,.own 1 out2_4.length)],
  [(0,some (.row 3 1 (out_4.map ZG) 0)),
   (1,some (.row 3 1 (out2_4.map ZG) 0))],2⟩
def VU(a1:Int)(out_4:List Int)(out2_4:List Int)(i_18:Int)(r30:Int)(x3:Int):St:=
 ⟨[(1,.lit (.int .i64 a1)),(4,.own 0 0),(5,.lit (.bool false)),(6,.own 1 out_4.length),(7,.own 2 out2_4.length),(14,.lit (.int .i64 ((i_18.tdiv r30)*x3)))],
  [(0,some (.row 3 1 [] 0)),
   (1,some (.row 3 1 (out_4.map ZG) 0)),
   (2,some (.row 3 1 (out2_4.map ZG) 0))],3⟩
def VT(a1:Int)(out_4:List Int)(out2_4:List Int)(i_18:Int):St:=
 ⟨[(1,.lit (.int .i64 a1)),(4,.any),(5,.any),(6,.own 0 out_4.length),(7,.own 1 out2_4.length),(14,.lit (.int .i64 i_18))],
  [(0,some (.row 3 1 (out_4.map ZG) 0)),
   (1,some (.row 3 1 (out2_4.map ZG) 0))],2⟩
def V3(out_24:List Int):St:=
 ⟨[(6,.own 0 out_24.length)],
  [(0,some (.row 3 1 (out_24.map ZG) 0))],1⟩
section
variable {i_4 : Nat} {r21 : Bool} {r20 : Int} {a0 : Zf} {a1 : Int} {r23 : Bool} {n : Nat} {out2_4 : List Int} {out_4 : List Int} {r19 : Rat} {r22 : Int} {r27 : Bool} {r26 : Int} {r24 : Int} {r25 : Bool} {i2_18 : Nat} {i_18 : Int} {x3 : Int} {r30 : Int} {out_24 : List Int} {x8 : Int} {i_24 : Nat} {x9 : Int} {R : List Int} {r31 : Bool}
section
variable(C1:(i_4:Int)≤a1)
include C1
section
variable(C2:(i_4:Int)<a1)(K3:run (n+1) 22 [Ze a0,.lit (.int .i64 (i_4:Int))]=some (Zn r19))(K4:run (n+1) 92 [Zc (Zd r19).l1]=some (.tup [.lit (.int .i64 r20),.lit (.bool r21)]))(K5:run (n+1) 92 [Zc (Zd r19).l2]=some (.tup [.lit (.int .i64 r22),.lit (.bool r23)]))(C6:r21=true)(C7:r23=true)
include C2 K3 K4 K5 C6 C7
theorem Zpe(C8:(Zd r19).s=true)(W9:InI ((-r20)))(G10:i_4<out_4.length)(G12:i_4<out2_4.length)(W14:InI ((i_4:Int)+1)):
  Zm 0 (exec Tryz.prog (tab (n+2)) 0 109 (Za 63) big YN) (Za 63 4) (Yj a0 a1 out_4 out2_4 i_4) (Yj a0 a1 (out_4.set i_4 (-r20)) (out2_4.set i_4 (if r22<1 then 1 else r22)) (i_4+1)):=by
 simp only [Zn,Ze] at K3
 have W9_:IntKind.i64.wrap ((-r20))=(-r20):=Zq W9.1 W9.2
 have W14_:IntKind.i64.wrap ((i_4:Int)+1)=(i_4:Int)+1:=Zq W14.1 W14.2
 try simp only [C8] at K3
 try simp only [C8] at K4
 try simp only [C8] at K5
 apply ZW
 simp+decide [Yj,Zb, Tryz.f63,YN,C1,C2,K3,K4,K5,C6,C7,W9_,G10,G12,W14_]
theorem Zmw(C8:(Zd r19).s=false)(G9:i_4<out_4.length)(G11:i_4<out2_4.length)(W13:InI ((i_4:Int)+1)):
  Zm 0 (exec Tryz.prog (tab (n+2)) 0 109 (Za 63) big YN) (Za 63 4) (Yj a0 a1 out_4 out2_4 i_4) (Yj a0 a1 (out_4.set i_4 r20) (out2_4.set i_4 (if r22<1 then 1 else r22)) (i_4+1)):=by
 simp only [Zn,Ze] at K3
 have W13_:IntKind.i64.wrap ((i_4:Int)+1)=(i_4:Int)+1:=Zq W13.1 W13.2
 try simp only [C8] at K3
 try simp only [C8] at K4
 try simp only [C8] at K5
 apply ZW
 simp+decide [Yj,Zb, Tryz.f63,YN,C1,C2,K3,K4,K5,C6,C7,G9,G11,W13_]
end
section
variable(C2:¬(i_4:Int)<a1)(K3:run (n+1) 92 [Zc (Zd a0.2).l1]=some (.tup [.lit (.int .i64 r24),.lit (.bool r25)]))(K4:run (n+1) 92 [Zc (Zd a0.2).l2]=some (.tup [.lit (.int .i64 r26),.lit (.bool r27)]))(C5:r25=true)(C6:r27=true)
include C2 K3 K4 C5 C6
theorem Zof(C7:(Zd a0.2).s=true)(W8:InI ((-r24)))(G9:i_4<out_4.length)(G11:i_4<out2_4.length)(W13:InI ((i_4:Int)+1)):
  Zm 0 (exec Tryz.prog (tab (n+2)) 0 109 (Za 63) big YN) (Za 63 4) (Yj a0 a1 out_4 out2_4 i_4) (Yj a0 a1 (out_4.set i_4 (-r24)) (out2_4.set i_4 (if r26<1 then 1 else r26)) (i_4+1)):=by
 have W8_:IntKind.i64.wrap ((-r24))=(-r24):=Zq W8.1 W8.2
 have W13_:IntKind.i64.wrap ((i_4:Int)+1)=(i_4:Int)+1:=Zq W13.1 W13.2
 try simp only [C7] at K3
 try simp only [C7] at K4
 apply ZW
 simp+decide [Yj,Zb, Tryz.f63,YN,C1,C2,K3,K4,C5,C6,C7,W8_,G9,G11,W13_]
theorem Zqi(C7:(Zd a0.2).s=false)(G8:i_4<out_4.length)(G10:i_4<out2_4.length)(W12:InI ((i_4:Int)+1)):
  Zm 0 (exec Tryz.prog (tab (n+2)) 0 109 (Za 63) big YN) (Za 63 4) (Yj a0 a1 out_4 out2_4 i_4) (Yj a0 a1 (out_4.set i_4 r24) (out2_4.set i_4 (if r26<1 then 1 else r26)) (i_4+1)):=by
 have W12_:IntKind.i64.wrap ((i_4:Int)+1)=(i_4:Int)+1:=Zq W12.1 W12.2
 try simp only [C7] at K3
 try simp only [C7] at K4
 apply ZW
 simp+decide [Yj,Zb, Tryz.f63,YN,C1,C2,K3,K4,C5,C6,C7,G8,G10,W12_]
end
section
variable(C2:(i_4:Int)<a1)(K3:run (n+1) 22 [Ze a0,.lit (.int .i64 (i_4:Int))]=some (Zn r19))(K4:run (n+1) 92 [Zc (Zd r19).l1]=some (.tup [.lit (.int .i64 r20),.lit (.bool r21)]))(K5:run (n+1) 92 [Zc (Zd r19).l2]=some (.tup [.lit (.int .i64 r22),.lit (.bool r23)]))
include C2 K3 K4 K5
theorem ZmY(C6:r21=false):
  Zj 0 (exec Tryz.prog (tab (n+2)) 0 109 (Za 63) big YN) (Za 63 (Zo 4)) (Yj a0 a1 out_4 out2_4 i_4) (.ret) (Xj a1 out_4 out2_4):=by
 simp only [Zn,Ze] at K3
 apply ZQ
 simp+decide [Yj,Zb, Tryz.f63,Xj,YN,C1,C2,K3,K4,K5,C6]
theorem Zl2(C6:r21=true)(C7:r23=false):
  Zj 0 (exec Tryz.prog (tab (n+2)) 0 109 (Za 63) big YN) (Za 63 (Zo 4)) (Yj a0 a1 out_4 out2_4 i_4) (.ret) (Xj a1 out_4 out2_4):=by
 simp only [Zn,Ze] at K3
 apply ZQ
 simp+decide [Yj,Zb, Tryz.f63,Xj,YN,C1,C2,K3,K4,K5,C6,C7]
end
section
variable(C2:¬(i_4:Int)<a1)(K3:run (n+1) 92 [Zc (Zd a0.2).l1]=some (.tup [.lit (.int .i64 r24),.lit (.bool r25)]))(K4:run (n+1) 92 [Zc (Zd a0.2).l2]=some (.tup [.lit (.int .i64 r26),.lit (.bool r27)]))
include C2 K3 K4
theorem Zmu(C5:r25=false):
  Zj 0 (exec Tryz.prog (tab (n+2)) 0 109 (Za 63) big YN) (Za 63 (Zo 4)) (Yj a0 a1 out_4 out2_4 i_4) (.ret) (Xj a1 out_4 out2_4):=by
 apply ZQ
 simp+decide [Yj,Zb, Tryz.f63,Xj,YN,C1,C2,K3,K4,C5]
theorem Zqa(C5:r25=true)(C6:r27=false):
  Zj 0 (exec Tryz.prog (tab (n+2)) 0 109 (Za 63) big YN) (Za 63 (Zo 4)) (Yj a0 a1 out_4 out2_4 i_4) (.ret) (Xj a1 out_4 out2_4):=by
 apply ZQ
 simp+decide [Yj,Zb, Tryz.f63,Xj,YN,C1,C2,K3,K4,C5,C6]
end
end
theorem Zmo(C1:¬(i_4:Int)≤a1):
  Zj 0 (exec Tryz.prog (tab (n+2)) 0 109 (Za 63) big YN) (Za 63 (Zo 4)) (Yj a0 a1 out_4 out2_4 i_4) (.exit 0) (Uu a1 out_4 out2_4):=by
 apply ZQ
 simp+decide [Yj,Zb, Tryz.f63,Uu,YN,C1]
section
variable(C1:(i2_18:Int)≤a1)(G2:i2_18<out2_4.length)(E3:out2_4[i2_18]?=some x3)(K4:run (n+1) 93 [.lit (.int .i64 i_18),.lit (.int .i64 x3)]=some (.lit (.int .i64 r30)))(W5:InI (i_18.tdiv r30))(N6:r30≠0)(W8:InI ((i_18.tdiv r30)*x3))
include C1 G2 E3 K4 W5 N6 W8
theorem Zkz(C9:¬1073741824<(i_18.tdiv r30)*x3)(W10:InI ((i2_18:Int)+1)):
  Zm 0 (exec Tryz.prog (tab (n+2)) 0 109 (Za 63) big Xl) (Za 63 18) (Qr a1 out_4 out2_4 i_18 i2_18) (Qr a1 out_4 out2_4 ((i_18.tdiv r30)*x3) (i2_18+1)):=by
 obtain ⟨EL3,EG3⟩:=List.getElem?_eq_some_iff.1 E3
 have W5_:IntKind.i64.wrap (i_18.tdiv r30)=i_18.tdiv r30:=Zq W5.1 W5.2
 have W8_:IntKind.i64.wrap ((i_18.tdiv r30)*x3)=(i_18.tdiv r30)*x3:=Zq W8.1 W8.2
 have W10_:IntKind.i64.wrap ((i2_18:Int)+1)=(i2_18:Int)+1:=Zq W10.1 W10.2
 apply ZW
 simp+decide [Qr,Zb, Tryz.f63,Xl,C1,G2,EG3,K4,W5_,N6,W8_,C9,W10_]
theorem ZlN(C9:1073741824<(i_18.tdiv r30)*x3):
  Zj 0 (exec Tryz.prog (tab (n+2)) 0 109 (Za 63) big Xl) (Za 63 (Zo 18)) (Qr a1 out_4 out2_4 i_18 i2_18) (.ret) (VU a1 out_4 out2_4 i_18 r30 x3):=by
 obtain ⟨EL3,EG3⟩:=List.getElem?_eq_some_iff.1 E3
 have W5_:IntKind.i64.wrap (i_18.tdiv r30)=i_18.tdiv r30:=Zq W5.1 W5.2
 have W8_:IntKind.i64.wrap ((i_18.tdiv r30)*x3)=(i_18.tdiv r30)*x3:=Zq W8.1 W8.2
 apply ZQ
 simp+decide [Qr,Zb, Tryz.f63,VU,Xl,C1,G2,EG3,K4,W5_,N6,W8_,C9]
end
theorem ZjT(C1:¬(i2_18:Int)≤a1):
  Zj 0 (exec Tryz.prog (tab (n+2)) 0 109 (Za 63) big Xl) (Za 63 (Zo 18)) (Qr a1 out_4 out2_4 i_18 i2_18) (.exit 2) (VT a1 out_4 out2_4 i_18):=by
 apply ZQ
 simp+decide [Qr,Zb, Tryz.f63,VT,Xl,C1]
theorem Zj4(C1:(i_24:Int)≤a1)(G2:i_24<out_24.length)(E3:out_24[i_24]?=some x8)(G4:i_24<out2_4.length)(E5:out2_4[i_24]?=some x9)(W6:InI (i_18.tdiv x9))(N7:x9≠0)(W8:InI (x8*(i_18.tdiv x9)))(W11:InI ((i_24:Int)+1)):
  Zm 0 (exec Tryz.prog (tab (n+2)) 0 109 (Za 63) big VF) (Za 63 24) (Wy a1 out_24 out2_4 i_18 i_24) (Wy a1 (out_24.set i_24 ((x8*(i_18.tdiv x9)))) out2_4 i_18 (i_24+1)):=by
 obtain ⟨EL3,EG3⟩:=List.getElem?_eq_some_iff.1 E3
 obtain ⟨EL5,EG5⟩:=List.getElem?_eq_some_iff.1 E5
 have W6_:IntKind.i64.wrap (i_18.tdiv x9)=i_18.tdiv x9:=Zq W6.1 W6.2
 have W8_:IntKind.i64.wrap (x8*(i_18.tdiv x9))=x8*(i_18.tdiv x9):=Zq W8.1 W8.2
 have W11_:IntKind.i64.wrap ((i_24:Int)+1)=(i_24:Int)+1:=Zq W11.1 W11.2
 apply ZW
 simp+decide [Wy,Zb, Tryz.f63,VF,C1,G2,EG3,G4,EG5,W6_,N7,W8_,W11_]
theorem ZkH(C1:¬(i_24:Int)≤a1):
  Zj 0 (exec Tryz.prog (tab (n+2)) 0 109 (Za 63) big VF) (Za 63 (Zo 24)) (Wy a1 out_24 out2_4 i_18 i_24) (.exit 4) (V3 out_24):=by
 apply ZQ
 simp+decide [Wy,Zb, Tryz.f63,V3,VF,C1]
section
variable(W1:InI (a1+1))(M2:(a1+1).toNat≤100000000)(C3:0≤a1+1)(C6:0≤a1+1)
include W1 M2 C3 C6
theorem ZvB(L7:Zk Tryz.prog (tab (n+2)) 0 109 (Za 63) 4 YN (Yj a0 a1 (List.replicate ((a1+1).toNat) 0) (List.replicate ((a1+1).toNat) 0) 0)=some (.ret,Xj a1 out_4 out2_4)):
  run (n+2) 63 [Ze a0,.lit (.int .i64 a1)]=some (.tup [.sl 1 [],.lit (.bool false)]):=by
 have W1_:IntKind.i64.wrap (a1+1)=a1+1:=Zq W1.1 W1.2
 have M2_:∀b,b≤10000→ZT ((a1+1).toNat) b=true:=fun b hb=>ZD M2 hb
 unfold run fnP
 simp+decide [Tryz.f63,W1_,M2_,C3]
 rw [Zi (C':=YN) (e:=(Yj a0 a1 (List.replicate ((a1+1).toNat) 0) (List.replicate ((a1+1).toNat) 0) 0)) ?_ ?_,L7]
 rotate_left
 ·kernel_rfl
 ·simp+decide [Yj]
 simp+decide [Xj]
section
variable(L7:Zk Tryz.prog (tab (n+2)) 0 109 (Za 63) 4 YN (Yj a0 a1 (List.replicate ((a1+1).toNat) 0) (List.replicate ((a1+1).toNat) 0) 0)=some (.exit 0,Uu a1 out_4 out2_4))
include L7
theorem ZvT(L8:Zk Tryz.prog (tab (n+2)) 0 109 (Za 63) 18 Xl (Qr a1 out_4 out2_4 1 0)=some (.ret,VU a1 out_4 out2_4 i_18 r30 x3)):
  run (n+2) 63 [Ze a0,.lit (.int .i64 a1)]=some (.tup [.sl 1 [],.lit (.bool false)]):=by
 have W1_:IntKind.i64.wrap (a1+1)=a1+1:=Zq W1.1 W1.2
 have M2_:∀b,b≤10000→ZT ((a1+1).toNat) b=true:=fun b hb=>ZD M2 hb
 unfold run fnP
 simp+decide [Tryz.f63,W1_,M2_,C3]
 rw [Zi (C':=YN) (e:=(Yj a0 a1 (List.replicate ((a1+1).toNat) 0) (List.replicate ((a1+1).toNat) 0) 0)) ?_ ?_,L7]
 rotate_left
 ·kernel_rfl
 ·simp+decide [Yj]
 simp+decide [Uu]
 rw [Zi (C':=Xl) (e:=(Qr a1 out_4 out2_4 1 0)) ?_ ?_,L8]
 rotate_left
 ·kernel_rfl
 ·simp+decide [Qr]
 simp+decide [VU]
theorem Zt4(L8:Zk Tryz.prog (tab (n+2)) 0 109 (Za 63) 18 Xl (Qr a1 out_4 out2_4 1 0)=some (.exit 2,VT a1 out_4 out2_4 i_18))(L9:Zk Tryz.prog (tab (n+2)) 0 109 (Za 63) 24 VF (Wy a1 out_4 out2_4 i_18 0)=some (.exit 4,V3 out_24))(K10:Zp (n+1) 94 [.own 0 out_24.length] [.row 3 1 (out_24.map ZG) 0]=some (.lit (.bool r31),[(0,.row 3 1 (R.map ZG) 0)]))(Q10:R.length=out_24.length):
  run (n+2) 63 [Ze a0,.lit (.int .i64 a1)]=some (.tup [.sl 1 (R.map ZG),.lit (.bool r31)]):=by
 have W1_:IntKind.i64.wrap (a1+1)=a1+1:=Zq W1.1 W1.2
 have M2_:∀b,b≤10000→ZT ((a1+1).toNat) b=true:=fun b hb=>ZD M2 hb
 unfold run fnP
 simp+decide [Tryz.f63,W1_,M2_,C3]
 rw [Zi (C':=YN) (e:=(Yj a0 a1 (List.replicate ((a1+1).toNat) 0) (List.replicate ((a1+1).toNat) 0) 0)) ?_ ?_,L7]
 rotate_left
 ·kernel_rfl
 ·simp+decide [Yj]
 simp+decide [Uu]
 rw [Zi (C':=Xl) (e:=(Qr a1 out_4 out2_4 1 0)) ?_ ?_,L8]
 rotate_left
 ·kernel_rfl
 ·simp+decide [Qr]
 simp+decide [VT]
 rw [Zi (C':=VF) (e:=(Wy a1 out_4 out2_4 i_18 0)) ?_ ?_,L9]
 rotate_left
 ·kernel_rfl
 ·simp+decide [Wy]
 simp+decide [V3,Q10,K10]
end
end
end
end
section
open Go.RowKit
theorem Ztz{n:Nat}{a0:Int}:
  run n 62 [.lit (.int .i64 a0)]=some (.agg [.sl 4 [[.lit (.int .i64 a0),.lit (.bool (Zd (ofQ 1)).s),Zc (Zd (ofQ 1)).l1,Zc (Zd (ofQ 1)).l2]],.lit (.bool false),.sl 1 [],.sl 1 []]):=by
 have K1:=WD (z:=1) (by omega) (by omega)
 unfold run fnP
 simp+decide [Tryz.f62,K1]
end
section
open Go.RowKit
noncomputable def XD:Code:=(Zb (ZP Tryz.f86)).getD 0 .skip
def YQ(a0:Zf)(a1:Int)(a2:Rat)(out_4:List (Int × Rat))(d_4:Bool)(i_4:Nat):St:=
 ⟨[(1,.lit (.int .i64 a1)),(3,.ptr 0 0),(5,.ptr 1 0),(6,.ptr 2 0),(7,.own 3 out_4.length),(8,.lit (.bool d_4)),(9,.lit (.int .i64 (i_4:Int)))],
  [(0,some (.box 28 [.sl 4 (a0.1.map Zr),.lit (.bool (Zd a0.2).s),Zc (Zd a0.2).l1,Zc (Zd a0.2).l2] false)),
   (1,some (.box 26 [.lit (.bool (Zd a2).s),Zc (Zd a2).l1,Zc (Zd a2).l2] false)),
   (2,some (.box 28 [.nl 4,.lit (.bool false),.nl 1,.nl 1] false)),
   (3,some (.row 68 4 (out_4.map Zr) 0))],4⟩
def Kt(a0:Zf)(a1:Int)(a2:Rat)(out_4:List (Int × Rat))(d_4:Bool):St:=
 ⟨[(1,.lit (.int .i64 a1)),(3,.ptr 0 0),(5,.ptr 1 0),(6,.ptr 2 0),(7,.own 3 out_4.length),(8,.lit (.bool d_4))],
  [(0,some (.box 28 [.sl 4 (a0.1.map Zr),.lit (.bool (Zd a0.2).s),Zc (Zd a0.2).l1,Zc (Zd a0.2).l2] false)),
   (1,some (.box 26 [.lit (.bool (Zd a2).s),Zc (Zd a2).l1,Zc (Zd a2).l2] false)),
   (2,some (.box 28 [.nl 4,.lit (.bool false),.nl 1,.nl 1] false)),
   (3,some (.row 68 4 (out_4.map Zr) 0))],4⟩
section
variable{i_4:Nat}{q3:Rat}{v3:Int}{a0:Zf}{a1:Int}{n:Nat}{a2:Rat}{d_4:Bool}{out_4:List (Int × Rat)}{R12:List (Int × Rat)}{R14:List (Int × Rat)}{R15:List (Int × Rat)}{R13:List (Int × Rat)}{R16:List (Int × Rat)}{R17:List (Int × Rat)}{R18:List (Int × Rat)}
section
variable(C1:(i_4:Int)<(a0.1.length:Int))(E2:a0.1[i_4]?=some (v3,q3))
include C1 E2
theorem Zs3(C3:v3=a1)(B4a:H q3≤17179869184)(B4b:H a2≤17179869184)(K5:Zp n 81 [.own 0 out_4.length,.agg [.lit (.int .i64 v3),.lit (.bool (Zd (q3+a2)).s),Zc (Zd (q3+a2)).l1,Zc (Zd (q3+a2)).l2]] [.row 68 4 (out_4.map Zr) 0]=some (.own 0 out_4.length,[(0,.row 68 4 (out_4.map Zr) 0)]))(W6:InI ((i_4:Int)+1)):
  Zm 0 (exec Tryz.prog (tab (n+1)) 0 61 (Za 86) big XD) (Za 86 4) (YQ a0 a1 a2 out_4 d_4 i_4) (YQ a0 a1 a2 out_4 true (i_4+1)):=by
 have C1_:i_4<a0.1.length:=by omega
 obtain ⟨EL2,EG2⟩:=List.getElem?_eq_some_iff.1 E2
 have C3_:(v3==a1)=true:=by rw [C3];simp
 have K4:=ZdV (p:=q3) (q:=a2) B4a B4b
 have W6_:IntKind.i64.wrap ((i_4:Int)+1)=(i_4:Int)+1:=Zq W6.1 W6.2
 unfold Zm
 simp+decide [YQ,Zb, Tryz.f86,XD,C1,C1_,EG2,C3_,K4,K5,W6_]
theorem ZsD(C3:v3=a1)(B4a:H q3≤17179869184)(B4b:H a2≤17179869184)(K5:Zp n 81 [.own 0 out_4.length,.agg [.lit (.int .i64 v3),.lit (.bool (Zd (q3+a2)).s),Zc (Zd (q3+a2)).l1,Zc (Zd (q3+a2)).l2]] [.row 68 4 (out_4.map Zr) 0]=some (.own 3 R12.length,[(3,.row 68 4 (R12.map Zr) 0)]))(W6:InI ((i_4:Int)+1)):
  Zm 0 (exec Tryz.prog (tab (n+1)) 0 61 (Za 86) big XD) (Za 86 4) (YQ a0 a1 a2 out_4 d_4 i_4) (YQ a0 a1 a2 R12 true (i_4+1)):=by
 have C1_:i_4<a0.1.length:=by omega
 obtain ⟨EL2,EG2⟩:=List.getElem?_eq_some_iff.1 E2
 have C3_:(v3==a1)=true:=by rw [C3];simp
 have K4:=ZdV (p:=q3) (q:=a2) B4a B4b
 have W6_:IntKind.i64.wrap ((i_4:Int)+1)=(i_4:Int)+1:=Zq W6.1 W6.2
 unfold Zm
 simp+decide [YQ,Zb, Tryz.f86,XD,C1,C1_,EG2,C3_,K4,K5,W6_]
theorem Zs0(C3:¬v3=a1)(C4:d_4=false)(C5:a1<v3)(B6a:H a2≤17179869184)(K7:Zp n 81 [.own 0 out_4.length,.agg [.lit (.int .i64 a1),.lit (.bool (Zd a2).s),Zc (Zd a2).l1,Zc (Zd a2).l2]] [.row 68 4 (out_4.map Zr) 0]=some (.own 0 out_4.length,[(0,.row 68 4 (out_4.map Zr) 0)]))(K8:Zp n 81 [.own 0 out_4.length,.agg [.lit (.int .i64 v3),.lit (.bool (Zd q3).s),Zc (Zd q3).l1,Zc (Zd q3).l2]] [.row 68 4 (out_4.map Zr) 0]=some (.own 3 R14.length,[(3,.row 68 4 (R14.map Zr) 0)]))(W9:InI ((i_4:Int)+1)):
  Zm 0 (exec Tryz.prog (tab (n+1)) 0 61 (Za 86) big XD) (Za 86 4) (YQ a0 a1 a2 out_4 d_4 i_4) (YQ a0 a1 a2 R14 true (i_4+1)):=by
 have C1_:i_4<a0.1.length:=by omega
 obtain ⟨EL2,EG2⟩:=List.getElem?_eq_some_iff.1 E2
 have C3_:(v3==a1)=false:=by simpa using C3
 have K6:=ZaS (p:=a2) B6a
 have W9_:IntKind.i64.wrap ((i_4:Int)+1)=(i_4:Int)+1:=Zq W9.1 W9.2
 unfold Zm
 simp+decide [YQ,Zb, Tryz.f86,XD,C1,C1_,EG2,C3_,C4,C5,K6,K7,K8,W9_]
theorem Zsu(C3:¬v3=a1)(C4:d_4=false)(C5:a1<v3)(B6a:H a2≤17179869184)(K7:Zp n 81 [.own 0 out_4.length,.agg [.lit (.int .i64 a1),.lit (.bool (Zd a2).s),Zc (Zd a2).l1,Zc (Zd a2).l2]] [.row 68 4 (out_4.map Zr) 0]=some (.own 3 R13.length,[(3,.row 68 4 (R13.map Zr) 0)]))(K8:Zp n 81 [.own 0 R13.length,.agg [.lit (.int .i64 v3),.lit (.bool (Zd q3).s),Zc (Zd q3).l1,Zc (Zd q3).l2]] [.row 68 4 (R13.map Zr) 0]=some (.own 3 R15.length,[(3,.row 68 4 (R15.map Zr) 0)]))(W9:InI ((i_4:Int)+1)):
  Zm 0 (exec Tryz.prog (tab (n+1)) 0 61 (Za 86) big XD) (Za 86 4) (YQ a0 a1 a2 out_4 d_4 i_4) (YQ a0 a1 a2 R15 true (i_4+1)):=by
 have C1_:i_4<a0.1.length:=by omega
 obtain ⟨EL2,EG2⟩:=List.getElem?_eq_some_iff.1 E2
 have C3_:(v3==a1)=false:=by simpa using C3
 have K6:=ZaS (p:=a2) B6a
 have W9_:IntKind.i64.wrap ((i_4:Int)+1)=(i_4:Int)+1:=Zq W9.1 W9.2
 unfold Zm
 simp+decide [YQ,Zb, Tryz.f86,XD,C1,C1_,EG2,C3_,C4,C5,K6,K7,K8,W9_]
theorem ZsF(C3:¬v3=a1)(C4:d_4=false)(C5:¬a1<v3)(K6:Zp n 81 [.own 0 out_4.length,.agg [.lit (.int .i64 v3),.lit (.bool (Zd q3).s),Zc (Zd q3).l1,Zc (Zd q3).l2]] [.row 68 4 (out_4.map Zr) 0]=some (.own 3 R16.length,[(3,.row 68 4 (R16.map Zr) 0)]))(W7:InI ((i_4:Int)+1)):
  Zm 0 (exec Tryz.prog (tab (n+1)) 0 61 (Za 86) big XD) (Za 86 4) (YQ a0 a1 a2 out_4 d_4 i_4) (YQ a0 a1 a2 R16 d_4 (i_4+1)):=by
 have C1_:i_4<a0.1.length:=by omega
 obtain ⟨EL2,EG2⟩:=List.getElem?_eq_some_iff.1 E2
 have C3_:(v3==a1)=false:=by simpa using C3
 have W7_:IntKind.i64.wrap ((i_4:Int)+1)=(i_4:Int)+1:=Zq W7.1 W7.2
 unfold Zm
 simp+decide [YQ,Zb, Tryz.f86,XD,C1,C1_,EG2,C3_,C4,C5,K6,W7_]
theorem Zo0(C3:¬v3=a1)(C4:d_4=true)(K5:Zp n 81 [.own 0 out_4.length,.agg [.lit (.int .i64 v3),.lit (.bool (Zd q3).s),Zc (Zd q3).l1,Zc (Zd q3).l2]] [.row 68 4 (out_4.map Zr) 0]=some (.own 3 R17.length,[(3,.row 68 4 (R17.map Zr) 0)]))(W6:InI ((i_4:Int)+1)):
  Zm 0 (exec Tryz.prog (tab (n+1)) 0 61 (Za 86) big XD) (Za 86 4) (YQ a0 a1 a2 out_4 d_4 i_4) (YQ a0 a1 a2 R17 d_4 (i_4+1)):=by
 have C1_:i_4<a0.1.length:=by omega
 obtain ⟨EL2,EG2⟩:=List.getElem?_eq_some_iff.1 E2
 have C3_:(v3==a1)=false:=by simpa using C3
 have W6_:IntKind.i64.wrap ((i_4:Int)+1)=(i_4:Int)+1:=Zq W6.1 W6.2
 unfold Zm
 simp+decide [YQ,Zb, Tryz.f86,XD,C1,C1_,EG2,C3_,C4,K5,W6_]
end
theorem Zq2(C1:¬(i_4:Int)<(a0.1.length:Int)):
  Zj 0 (exec Tryz.prog (tab (n+1)) 0 61 (Za 86) big XD) (Za 86 (Zo 4)) (YQ a0 a1 a2 out_4 d_4 i_4) (.exit 0) (Kt a0 a1 a2 out_4 d_4):=by
 unfold Zj
 simp+decide [YQ,Zb, Tryz.f86,Kt,XD,C1]
section
variable(L1:Zk Tryz.prog (tab (n+1)) 0 61 (Za 86) 4 XD (YQ a0 a1 a2 [] false 0)=some (.exit 0,Kt a0 a1 a2 out_4 d_4))
include L1
theorem ZxW(C2:d_4=false)(B3a:H a2≤17179869184)(K4:Zp n 81 [.own 0 out_4.length,.agg [.lit (.int .i64 a1),.lit (.bool (Zd a2).s),Zc (Zd a2).l1,Zc (Zd a2).l2]] [.row 68 4 (out_4.map Zr) 0]=some (.own 0 out_4.length,[(0,.row 68 4 (out_4.map Zr) 0)])):
  run (n+1) 86 [Ze a0,.lit (.int .i64 a1),Zn a2]=some (Ze (out_4,a0.2)):=by
 have K3:=ZaS (p:=a2) B3a
 unfold run fnP
 simp+decide [Tryz.f86]
 rw [Zi (C':=XD) (e:=(YQ a0 a1 a2 [] false 0)) ?_ ?_,L1]
 rotate_left
 ·kernel_rfl
 ·simp+decide [YQ]
 simp+decide [Kt,C2,K3,K4]
theorem ZxL(C2:d_4=false)(B3a:H a2≤17179869184)(K4:Zp n 81 [.own 0 out_4.length,.agg [.lit (.int .i64 a1),.lit (.bool (Zd a2).s),Zc (Zd a2).l1,Zc (Zd a2).l2]] [.row 68 4 (out_4.map Zr) 0]=some (.own 3 R18.length,[(3,.row 68 4 (R18.map Zr) 0)])):
  run (n+1) 86 [Ze a0,.lit (.int .i64 a1),Zn a2]=some (Ze (R18,a0.2)):=by
 have K3:=ZaS (p:=a2) B3a
 unfold run fnP
 simp+decide [Tryz.f86]
 rw [Zi (C':=XD) (e:=(YQ a0 a1 a2 [] false 0)) ?_ ?_,L1]
 rotate_left
 ·kernel_rfl
 ·simp+decide [YQ]
 simp+decide [Kt,C2,K3,K4]
theorem ZxP(C2:d_4=true):
  run (n+1) 86 [Ze a0,.lit (.int .i64 a1),Zn a2]=some (Ze (out_4,a0.2)):=by
 unfold run fnP
 simp+decide [Tryz.f86]
 rw [Zi (C':=XD) (e:=(YQ a0 a1 a2 [] false 0)) ?_ ?_,L1]
 rotate_left
 ·kernel_rfl
 ·simp+decide [YQ]
 simp+decide [Kt,C2]
end
end
end
section
open Go.RowKit
noncomputable def ZdL:Code:=(Zb (ZP Tryz.f50)).getD 0 .skip
def ZaW(a1:Zf)(i_3:Nat)(l_3:List (Int × Rat))(s_3:Rat):St:=
 ⟨[(3,.ptr 0 0),(4,.ptr 1 0),(5,.ptr 2 0),(6,.lit (.int .i64 (i_3:Int)))],
  [(0,some (.box 28 [.sl 4 (a1.1.map Zr),.lit (.bool (Zd a1.2).s),Zc (Zd a1.2).l1,Zc (Zd a1.2).l2] false)),
   (1,some (.box 28 [.nl 4,.lit (.bool false),.nl 1,.nl 1] false)),
   (2,some (.box 28 [.sl 4 (l_3.map Zr),.lit (.bool (Zd s_3).s),Zc (Zd s_3).l1,Zc (Zd s_3).l2] false))],3⟩
def ZcS(l_3:List (Int × Rat))(s_3:Rat):St:=
 ⟨[(4,.ptr 0 0),(5,.ptr 1 0)],
  [(0,some (.box 28 [.nl 4,.lit (.bool false),.nl 1,.nl 1] false)),
   (1,some (.box 28 [.sl 4 (l_3.map Zr),.lit (.bool (Zd s_3).s),Zc (Zd s_3).l1,Zc (Zd s_3).l2] false))],2⟩
section
variable{q3:Rat}{i_3:Nat}{v3:Int}{l_3:List (Int × Rat)}{r3:Zf}{a1:Zf}{n:Nat}{s_3:Rat}{a0:Zf}
theorem Zq9(C1:(i_3:Int)<(a1.1.length:Int))(E2:a1.1[i_3]?=some (v3,q3))(K3:run (n+1) 86 [Ze (l_3,s_3),.lit (.int .i64 v3),Zn q3]=some (Ze r3))(W4:InI ((i_3:Int)+1)):
  Zm 0 (exec Tryz.prog (tab (n+2)) 0 43 (Za 50) big ZdL) (Za 50 3) (ZaW a1 i_3 l_3 s_3) (ZaW a1 (i_3+1) r3.1 r3.2):=by
 have C1_:i_3<a1.1.length:=by omega
 obtain ⟨EL2,EG2⟩:=List.getElem?_eq_some_iff.1 E2
 simp only [Zn,Ze] at K3
 have W4_:IntKind.i64.wrap ((i_3:Int)+1)=(i_3:Int)+1:=Zq W4.1 W4.2
 unfold Zm
 simp+decide [ZaW,Zb, Tryz.f50,ZdL,C1,C1_,EG2,K3,W4_]
theorem ZsZ(C1:¬(i_3:Int)<(a1.1.length:Int)):
  Zj 0 (exec Tryz.prog (tab (n+2)) 0 43 (Za 50) big ZdL) (Za 50 (Zo 3)) (ZaW a1 i_3 l_3 s_3) (.exit 0) (ZcS l_3 s_3):=by
 unfold Zj
 simp+decide [ZaW,Zb, Tryz.f50,ZcS,ZdL,C1]
theorem Zys(B1a:H a0.2≤17179869184)(B1b:H a1.2≤17179869184)(L2:Zk Tryz.prog (tab (n+2)) 0 43 (Za 50) 3 ZdL (ZaW a1 0 a0.1 (a0.2+a1.2))=some (.exit 0,ZcS l_3 s_3))(M3:l_3.length≤100000000):
  run (n+2) 50 [Ze a0,Ze a1]=some (Ze (l_3,s_3)):=by
 have K1:=ZdV (p:=a0.2) (q:=a1.2) B1a B1b
 have M3_:∀b,b≤10000→ZT (l_3.length) b=true:=fun b hb=>ZD M3 hb
 unfold run fnP
 simp+decide [Tryz.f50,K1]
 rw [Zi (C':=ZdL) (e:=(ZaW a1 0 a0.1 (a0.2+a1.2))) ?_ ?_,L2]
 rotate_left
 ·kernel_rfl
 ·simp+decide [ZaW]
 simp+decide [ZcS,M3_]
end
noncomputable def ZbD:Code:=(Zb (ZP Tryz.f41)).getD 0 .skip
def U0(a0:Zf)(a1:Rat)(i_3:Nat)(out_3:List (Int × Rat)):St:=
 ⟨[(2,.ptr 0 0),(3,.ptr 1 0),(4,.ptr 2 0),(5,.ptr 3 0),(6,.lit (.int .i64 (i_3:Int)))],
  [(0,some (.box 28 [.sl 4 (a0.1.map Zr),.lit (.bool (Zd a0.2).s),Zc (Zd a0.2).l1,Zc (Zd a0.2).l2] false)),
   (1,some (.box 26 [.lit (.bool (Zd a1).s),Zc (Zd a1).l1,Zc (Zd a1).l2] false)),
   (2,some (.box 28 [.nl 4,.lit (.bool false),.nl 1,.nl 1] false)),
   (3,some (.box 28 [.own 4 out_3.length,.lit (.bool (Zd (a0.2*a1)).s),Zc (Zd (a0.2*a1)).l1,Zc (Zd (a0.2*a1)).l2] false)),
   (4,some (.row 68 4 (out_3.map Zr) 0))],5⟩
def ZcA(a0:Zf)(a1:Rat)(out_3:List (Int × Rat)):St:=
 ⟨[(4,.ptr 0 0),(5,.ptr 1 0)],
  [(0,some (.box 28 [.nl 4,.lit (.bool false),.nl 1,.nl 1] false)),
   (1,some (.box 28 [.own 2 out_3.length,.lit (.bool (Zd (a0.2*a1)).s),Zc (Zd (a0.2*a1)).l1,Zc (Zd (a0.2*a1)).l2] false)),
   (2,some (.row 68 4 (out_3.map Zr) 0))],3⟩
section
variable{q3:Rat}{i_3:Nat}{v3:Int}{a0:Zf}{a1:Rat}{n:Nat}{out_3:List (Int × Rat)}{R3:List (Int × Rat)}
section
variable(C1:(i_3:Int)<(a0.1.length:Int))(E2:a0.1[i_3]?=some (v3,q3))(B3a:H q3≤17179869184)(B3b:H a1≤17179869184)
include C1 E2 B3a B3b
theorem ZsS(K4:Zp n 81 [.own 0 out_3.length,.agg [.lit (.int .i64 v3),.lit (.bool (Zd (q3*a1)).s),Zc (Zd (q3*a1)).l1,Zc (Zd (q3*a1)).l2]] [.row 68 4 (out_3.map Zr) 0]=some (.own 0 out_3.length,[(0,.row 68 4 (out_3.map Zr) 0)]))(W5:InI ((i_3:Int)+1)):
  Zm 0 (exec Tryz.prog (tab (n+1)) 0 39 (Za 41) big ZbD) (Za 41 3) (U0 a0 a1 i_3 out_3) (U0 a0 a1 (i_3+1) out_3):=by
 have C1_:i_3<a0.1.length:=by omega
 obtain ⟨EL2,EG2⟩:=List.getElem?_eq_some_iff.1 E2
 have K3:=Jp (p:=q3) (q:=a1) B3a B3b
 have W5_:IntKind.i64.wrap ((i_3:Int)+1)=(i_3:Int)+1:=Zq W5.1 W5.2
 unfold Zm
 simp+decide [U0,Zb, Tryz.f41,ZbD,C1,C1_,EG2,K3,K4,W5_]
theorem Zs7(K4:Zp n 81 [.own 0 out_3.length,.agg [.lit (.int .i64 v3),.lit (.bool (Zd (q3*a1)).s),Zc (Zd (q3*a1)).l1,Zc (Zd (q3*a1)).l2]] [.row 68 4 (out_3.map Zr) 0]=some (.own 3 R3.length,[(3,.row 68 4 (R3.map Zr) 0)]))(W5:InI ((i_3:Int)+1)):
  Zm 0 (exec Tryz.prog (tab (n+1)) 0 39 (Za 41) big ZbD) (Za 41 3) (U0 a0 a1 i_3 out_3) (U0 a0 a1 (i_3+1) R3):=by
 have C1_:i_3<a0.1.length:=by omega
 obtain ⟨EL2,EG2⟩:=List.getElem?_eq_some_iff.1 E2
 have K3:=Jp (p:=q3) (q:=a1) B3a B3b
 have W5_:IntKind.i64.wrap ((i_3:Int)+1)=(i_3:Int)+1:=Zq W5.1 W5.2
 unfold Zm
 simp+decide [U0,Zb, Tryz.f41,ZbD,C1,C1_,EG2,K3,K4,W5_]
end
theorem Zro(C1:¬(i_3:Int)<(a0.1.length:Int)):
  Zj 0 (exec Tryz.prog (tab (n+1)) 0 39 (Za 41) big ZbD) (Za 41 (Zo 3)) (U0 a0 a1 i_3 out_3) (.exit 0) (ZcA a0 a1 out_3):=by
 unfold Zj
 simp+decide [U0,Zb, Tryz.f41,ZcA,ZbD,C1]
theorem Zw7(B1a:H a0.2≤17179869184)(B1b:H a1≤17179869184)(L2:Zk Tryz.prog (tab (n+1)) 0 39 (Za 41) 3 ZbD (U0 a0 a1 0 [])=some (.exit 0,ZcA a0 a1 out_3)):
  run (n+1) 41 [Ze a0,Zn a1]=some (Ze (out_3,a0.2*a1)):=by
 have K1:=Jp (p:=a0.2) (q:=a1) B1a B1b
 unfold run fnP
 simp+decide [Tryz.f41,K1]
 rw [Zi (C':=ZbD) (e:=(U0 a0 a1 0 [])) ?_ ?_,L2]
 rotate_left
 ·kernel_rfl
 ·simp+decide [U0]
 simp+decide [ZcA]
end
end
section
open Go.RowKit
theorem Zb3{n:Nat}{F:List (Int × Rat)}{v:Int}{q:Rat}(hq:H q≤17179869184)(h0:q=0):
  Zp n 81 [.own 0 F.length,.agg [.lit (.int .i64 v),.lit (.bool (Zd q).s),Zc (Zd q).l1,Zc (Zd q).l2]] [.row 68 4 (F.map Zr) 0]=some (.own 0 F.length,[(0,.row 68 4 (F.map Zr) 0)]):=by
 unfold Zp fnL
 have hs:=Yy (p:=q) hq
 have e2:(sgR q==0)=true:=by rw [Yi.2 h0];rfl
 simp+decide [Tryz.f81,hs,e2]
theorem Kh{n:Nat}{F:List (Int × Rat)}{v:Int}{q:Rat}(hq:H q≤17179869184)(h0:q≠0)(hF:F.length≤10000000):
  Zp n 81 [.own 0 F.length,.agg [.lit (.int .i64 v),.lit (.bool (Zd q).s),Zc (Zd q).l1,Zc (Zd q).l2]] [.row 68 4 (F.map Zr) 0]=some (.own 3 (F++[(v,q)]).length,[(3,.row 68 4 ((F++[(v,q)]).map Zr) 0)]):=by
 unfold Zp fnL
 have hs:=Yy (p:=q) hq
 have e2:(sgR q==0)=false:=by simpa using fun h=>h0 (Yi.1 h)
 have hr:∀b,b≤10000→ZT (F.length+1) b=true:=fun b hb=>ZD (by omega) hb
 simp+decide [Tryz.f81,hs,e2,hr]
def plF(v:Int)(c:Rat)(i:Nat)(b:List (Int × Rat) × Bool)(t:Int × Rat):List (Int × Rat) × Bool:=
 if t.1=v then (b.1++Z4 t.1 (t.2+c),true) else if b.2=false∧v<t.1 then (b.1++(Z4 v c++Z4 t.1 t.2),true) else (b.1++Z4 t.1 t.2,b.2)
theorem Zad(v:Int)(c:Rat):∀(R:List (Int × Rat)) (i:Nat) (out:List (Int × Rat)) (d:Bool),VL (plF v c) i (out,d) R=(out++plO d R v c,plD d R v)
 | [],i,out,d=>by simp [VL,plO,plD]
 | t::R,i,out,d=>by
   rw [VL,plO,plD,plF]
   split
   ·rw [Zad];simp [List.append_assoc]
   ·split
    ·rw [Zad];simp [List.append_assoc]
    ·rw [Zad];simp [List.append_assoc]
theorem Zsj{n:Nat}{f:Zf}{v:Int}{c:Rat}(hT:TmB 1000000 f.1)(hF:f.1.length≤400000)(hc:H c≤1000000){i:Nat}{t:Int × Rat}{b:List (Int × Rat) × Bool}(hi:f.1[i]?=some t)(hb:b.1.length≤2*i):
  Zm 0 (exec Tryz.prog (tab (n+1)) 0 61 (Za 86) big XD) (Za 86 4) (YQ f v c b.1 b.2 i) (YQ f v c (plF v c i b t).1 (plF v c i b t).2 (i+1)):=by
 obtain ⟨u,q⟩:=t
 obtain ⟨out,d⟩:=b
 have hlt:=(List.getElem?_eq_some_iff.1 hi).1
 have ht:=hT _ (List.mem_of_getElem? hi)
 have hq:H q≤1000000:=ht.2
 have hq0:q≠0:=ht.1
 have hH:=Zd2 q c
 have C1:(i:Int)<(f.1.length:Int):=by omega
 have W:InI ((i:Int)+1):=⟨by omega,by omega⟩
 have hb:out.length≤2*i:=hb
 have e3:Z4 u q=[(u,q)]:=if_neg hq0
 unfold plF
 dsimp only
 split
 ·rename_i e
  by_cases h0:q+c=0
  ·have e4:Z4 u (q+c)=[]:=if_pos h0
   rw [e4,List.append_nil]
   exact Zs3 C1 hi e (by omega) (by omega) (Zb3 (by omega) h0) W
  ·have e4:Z4 u (q+c)=[(u,q+c)]:=if_neg h0
   rw [e4]
   exact ZsD C1 hi e (by omega) (by omega) (Kh (by omega) h0 (by omega)) W
 ·rename_i e
  split
  ·rename_i e2
   obtain ⟨e2,e5⟩:=e2
   rw [e3]
   by_cases h0:c=0
   ·have e4:Z4 v c=[]:=if_pos h0
    rw [e4,List.nil_append]
    exact Zs0 C1 hi e e2 e5 (by omega) (Zb3 (by omega) h0) (Kh (by omega) hq0 (by omega)) W
   ·have e4:Z4 v c=[(v,c)]:=if_neg h0
    rw [e4,←List.append_assoc]
    exact Zsu C1 hi e e2 e5 (by omega) (Kh (by omega) h0 (by omega)) (Kh (by omega) hq0 (by rw [List.length_append];simp;omega)) W
  ·rename_i e2
   rw [e3]
   cases d with
   | true=>exact Zo0 C1 hi e rfl (Kh (by omega) hq0 (by omega)) W
   | false=>exact ZsF C1 hi e rfl (fun h=>e2 ⟨rfl,h⟩) (Kh (by omega) hq0 (by omega)) W
theorem ZsX(v:Int)(c:Rat)(i:Nat)(b:List (Int × Rat) × Bool)(t:Int × Rat):(plF v c i b t).1.length≤b.1.length+2:=by
 have h1:=YT t.1 (t.2+c)
 have h2:=YT v c
 have h3:=YT t.1 t.2
 unfold plF
 split
 ·rw [List.length_append];omega
 ·split
  ·rw [List.length_append,List.length_append];omega
  ·rw [List.length_append];omega
theorem ZvF{n:Nat}{f:Zf}{v:Int}{c:Rat}(hT:TmB 1000000 f.1)(hF:f.1.length≤400000)(hc:H c≤1000000):
  run (n+1) 86 [Ze f,.lit (.int .i64 v),Zn c]=some (Ze (ZZ false f.1 v c,f.2)):=by
 have L:Zk Tryz.prog (tab (n+1)) 0 61 (Za 86) 4 XD (YQ f v c [] false 0)=some (.exit 0,Kt f v c (plO false f.1 v c) (plD false f.1 v)):=by
  have h:=(XM (O:=tab (n+1)) (exN:=.exit 0) (L:=f.1) (enc:=fun i b=>YQ f v c b.1 b.2 i) (f:=plF v c) (Inv:=fun i b=>b.1.length≤2*i) (out:=fun b=>Kt f v c b.1 b.2) ([],false) (by simp) (by omega) (by simp)
   (fun i t b hi hI=>⟨Zsj hT hF hc hi hI,by have:=ZsX v c i b t;omega⟩) (fun b hI=>Zq2 (by omega))).1
  rw [Zad] at h
  exact h
 have hl:=ZeN v c false f.1
 rw [Jf]
 cases hd:plD false f.1 v with
 | true=>
   rw [hd] at L
   rw [if_pos rfl,List.append_nil]
   exact ZxP L rfl
 | false=>
   rw [hd] at L
   rw [if_neg (by simp)]
   by_cases h0:c=0
   ·have e:Z4 v c=[]:=if_pos h0
    rw [e,List.append_nil]
    exact ZxW L rfl (by omega) (Zb3 (by omega) h0)
   ·have e:Z4 v c=[(v,c)]:=if_neg h0
    rw [e]
    exact ZxL L rfl (by omega) (Kh (by omega) h0 (by omega))
theorem Zay{n:Nat}{f:Zf}{c:Rat}(hT:TmB 1000000 f.1)(hF:f.1.length≤400000)(hk:H f.2≤1000000)(hc:H c≤1000000):
  run (n+1) 41 [Ze f,Zn c]=some (Ze (Yf f.1 c,f.2*c)):=by
 have key:∀(R:List (Int × Rat)) (i:Nat) (o:List (Int × Rat)),VL (fun _ b (t:Int × Rat)=>b++Z4 t.1 (t.2*c)) i o R=o++Yf R c:=fun R=>by
  induction R with
  | nil=>intro i o;simp [VL,Yf]
  | cons t R ih=>intro i o;rw [VL,ih];simp [Yf,List.append_assoc]
 refine Zw7 (by omega) (by omega) ?_
 have h:=(XM (O:=tab (n+1)) (exN:=.exit 0) (L:=f.1) (enc:=fun i b=>U0 f c i b) (f:=fun _ b (t:Int × Rat)=>b++Z4 t.1 (t.2*c)) (Inv:=fun i b=>b.length≤i) (out:=fun b=>ZcA f c b) [] (by simp) (by omega) (by simp)
  (fun i t b hi hI=>by
   obtain ⟨u,q⟩:=t
   have hlt:=(List.getElem?_eq_some_iff.1 hi).1
   have hq:H q≤1000000:=(hT _ (List.mem_of_getElem? hi)).2
   have hm:=UX q c
   have C1:(i:Int)<(f.1.length:Int):=by omega
   have W:InI ((i:Int)+1):=⟨by omega,by omega⟩
   have hl:=YT u (q*c)
   refine ⟨?_,by rw [List.length_append];dsimp only;omega⟩
   dsimp only
   by_cases h0:q*c=0
   ·have e:Z4 u (q*c)=[]:=if_pos h0
    rw [e,List.append_nil]
    exact ZsS C1 hi (by omega) (by omega) (Zb3 (by omega) h0) W
   ·have e:Z4 u (q*c)=[(u,q*c)]:=if_neg h0
    rw [e]
    exact Zs7 C1 hi (by omega) (by omega) (Kh (by omega) h0 (by omega)) W) (fun b hI=>Zro (by omega))).1
 rw [key,List.nil_append] at h
 exact h
theorem ZtI{n:Nat}{f g:Zf}{m b:Nat}(hT:TmB b g.1)(hG:g.1.length≤200000)(hF:TmB m f.1)(hl:f.1.length≤200000)(hm:m+(b+1)*(g.1.length+1)≤1000000)(h1:H f.2≤1000000)(h2:H g.2≤1000000):
  run (n+2) 50 [Ze f,Ze g]=some (Ze (X7 f.1 g.1,f.2+g.2)):=by
 have key:∀(R:List (Int × Rat)) (i:Nat) (o:List (Int × Rat)),VL (fun _ b (t:Int × Rat)=>ZZ false b t.1 t.2) i o R=X7 o R:=fun R=>by
  induction R with
  | nil=>intro i o;rfl
  | cons t R ih=>intro i o;rw [VL,ih];rfl
 have hlen:∀(R o:List (Int × Rat)),(X7 o R).length≤o.length+R.length:=fun R=>by
  induction R with
  | nil=>intro o;simp [X7]
  | cons t R ih=>
    intro o
    have h1:=ih (ZZ false o t.1 t.2)
    have h2:=Uj false o t.1 t.2
    show (X7 (ZZ false o t.1 t.2) R).length≤_
    rw [List.length_cons];omega
 refine Zys (by omega) (by omega) ?_ (by have:=hlen g.1 f.1;omega)
 have h:=(XM (O:=tab (n+2)) (exN:=.exit 0) (L:=g.1) (enc:=fun i o=>ZaW g i o (f.2+g.2)) (f:=fun _ o (t:Int × Rat)=>ZZ false o t.1 t.2) (Inv:=fun i o=>o.length≤f.1.length+i∧TmB (m+(b+1)*i) o∧i≤g.1.length) (out:=fun o=>ZcS o (f.2+g.2)) f.1 ⟨by omega,by simpa using hF,by omega⟩ (by omega) (by simp)
  (fun i t o hi hI=>by
   obtain ⟨u,q⟩:=t
   obtain ⟨hI1,hI2,hI3⟩:=hI
   have hlt:=(List.getElem?_eq_some_iff.1 hi).1
   have hq:H q≤b:=(hT _ (List.mem_of_getElem? hi)).2
   have C1:(i:Int)<(g.1.length:Int):=by omega
   have W:InI ((i:Int)+1):=⟨by omega,by omega⟩
   have hl2:=Uj false o u q
   have hmi:(b+1)*i≤(b+1)*(g.1.length+1):=Nat.mul_le_mul_left _ (by omega)
   have hb1:b+1≤(b+1)*(g.1.length+1):=Nat.le_mul_of_pos_right _ (by omega)
   have e:m+(b+1)*(i+1)=m+(b+1)*i+b+1:=by rw [Nat.mul_succ];omega
   refine ⟨Zq9 (r3:=(ZZ false o u q,f.2+g.2)) C1 hi (ZvF (f:=(o,f.2+g.2)) (hI2.mono (by omega)) (by dsimp only;omega) (by omega)) W,by dsimp only;omega,?_,hlt⟩
   rw [e]
   exact hI2.plus hq) (fun b hI=>ZsZ (by omega))).1
 rw [key] at h
 exact h
end
section
open Go.RowKit
noncomputable def Xh:Code:=(Zb (ZP Tryz.f21)).getD 0 .skip
def QB(a0:Zf)(a1:Int)(i_2:Nat):St:=
 ⟨[(1,.lit (.int .i64 a1)),(2,.ptr 0 0),(5,.lit (.int .i64 (i_2:Int)))],
  [(0,some (.box 28 [.sl 4 (a0.1.map Zr),.lit (.bool (Zd a0.2).s),Zc (Zd a0.2).l1,Zc (Zd a0.2).l2] false))],1⟩
def Wo(a0:Zf):St:=
 ⟨[(2,.ptr 0 0),(4,.lit (.bool false))],
  [(0,some (.box 28 [.sl 4 (a0.1.map Zr),.lit (.bool (Zd a0.2).s),Zc (Zd a0.2).l1,Zc (Zd a0.2).l2] false))],1⟩
def Zci(a0:Zf):St:=
 ⟨[(2,.ptr 0 0),(4,.any)],
  [(0,some (.box 28 [.sl 4 (a0.1.map Zr),.lit (.bool (Zd a0.2).s),Zc (Zd a0.2).l1,Zc (Zd a0.2).l2] false))],1⟩
section
variable {q5 : Rat} {v5 : Int} {a0 : Zf} {q4 : Rat} {a1 : Int} {i_2 : Nat} {n : Nat} {v4 : Int}
section
variable(C1:(i_2:Int)<(a0.1.length:Int))(E2:a0.1[i_2]?=some (v4,q4))
include C1 E2
theorem Zsc(C3:¬v4<0)(C4:¬a1≤v4)(C5:0<(i_2:Int))(W6:InI ((i_2:Int)-1))(E7:a0.1[i_2-1]?=some (v5,q5))(Z7:1≤i_2)(C8:¬v4≤v5)(B9a:H q4≤17179869184)(C10:¬sgR q4=0)(W12:InI ((i_2:Int)+1)):
  Zm 0 (exec Tryz.prog (tab n) 0 59 (Za 21) big Xh) (Za 21 2) (QB a0 a1 i_2) (QB a0 a1 (i_2+1)):=by
 have C1_:i_2<a0.1.length:=by omega
 obtain ⟨EL2,EG2⟩:=List.getElem?_eq_some_iff.1 E2
 have C5_:0<i_2:=by omega
 have W6_:IntKind.i64.wrap ((i_2:Int)-1)=(i_2:Int)-1:=Zq W6.1 W6.2
 obtain ⟨EL7,EG7⟩:=List.getElem?_eq_some_iff.1 E7
 have Z7_0:(1:Int)≤(i_2:Int):=by omega
 have K9:=Yy (p:=q4) B9a
 have C10_:(sgR q4==0)=false:=by simpa using C10
 have K11:=Ji (p:=q4) B9a
 have W12_:IntKind.i64.wrap ((i_2:Int)+1)=(i_2:Int)+1:=Zq W12.1 W12.2
 unfold Zm
 simp+decide [QB,Zb, Tryz.f21,Xh,C1,C1_,EG2,C3,C4,C5_,W6_,EL7,EG7,Z7_0,C8,K9,C10_,K11,W12_]
theorem ZrL(C3:¬v4<0)(C4:¬a1≤v4)(C5:¬0<(i_2:Int))(B6a:H q4≤17179869184)(C7:¬sgR q4=0)(W9:InI ((i_2:Int)+1)):
  Zm 0 (exec Tryz.prog (tab n) 0 59 (Za 21) big Xh) (Za 21 2) (QB a0 a1 i_2) (QB a0 a1 (i_2+1)):=by
 have C1_:i_2<a0.1.length:=by omega
 obtain ⟨EL2,EG2⟩:=List.getElem?_eq_some_iff.1 E2
 have C5_:¬0<i_2:=by omega
 have K6:=Yy (p:=q4) B6a
 have C7_:(sgR q4==0)=false:=by simpa using C7
 have K8:=Ji (p:=q4) B6a
 have W9_:IntKind.i64.wrap ((i_2:Int)+1)=(i_2:Int)+1:=Zq W9.1 W9.2
 unfold Zm
 simp+decide [QB,Zb, Tryz.f21,Xh,C1,C1_,EG2,C3,C4,C5_,K6,C7_,K8,W9_]
theorem ZiO(C3:v4<0):
  Zj 0 (exec Tryz.prog (tab n) 0 59 (Za 21) big Xh) (Za 21 (Zo 2)) (QB a0 a1 i_2) (.ret) (Wo a0):=by
 have C1_:i_2<a0.1.length:=by omega
 obtain ⟨EL2,EG2⟩:=List.getElem?_eq_some_iff.1 E2
 unfold Zj
 simp+decide [QB,Zb, Tryz.f21,Wo,Xh,C1,C1_,EG2,C3]
theorem Zir(C3:¬v4<0)(C4:a1≤v4):
  Zj 0 (exec Tryz.prog (tab n) 0 59 (Za 21) big Xh) (Za 21 (Zo 2)) (QB a0 a1 i_2) (.ret) (Wo a0):=by
 have C1_:i_2<a0.1.length:=by omega
 obtain ⟨EL2,EG2⟩:=List.getElem?_eq_some_iff.1 E2
 unfold Zj
 simp+decide [QB,Zb, Tryz.f21,Wo,Xh,C1,C1_,EG2,C3,C4]
theorem ZrZ(C3:¬v4<0)(C4:¬a1≤v4)(C5:0<(i_2:Int))(W6:InI ((i_2:Int)-1))(E7:a0.1[i_2-1]?=some (v5,q5))(Z7:1≤i_2)(C8:v4≤v5):
  Zj 0 (exec Tryz.prog (tab n) 0 59 (Za 21) big Xh) (Za 21 (Zo 2)) (QB a0 a1 i_2) (.ret) (Wo a0):=by
 have C1_:i_2<a0.1.length:=by omega
 obtain ⟨EL2,EG2⟩:=List.getElem?_eq_some_iff.1 E2
 have C5_:0<i_2:=by omega
 have W6_:IntKind.i64.wrap ((i_2:Int)-1)=(i_2:Int)-1:=Zq W6.1 W6.2
 obtain ⟨EL7,EG7⟩:=List.getElem?_eq_some_iff.1 E7
 have Z7_0:(1:Int)≤(i_2:Int):=by omega
 unfold Zj
 simp+decide [QB,Zb, Tryz.f21,Wo,Xh,C1,C1_,EG2,C3,C4,C5_,W6_,EL7,EG7,Z7_0,C8]
theorem ZrE(C3:¬v4<0)(C4:¬a1≤v4)(C5:0<(i_2:Int))(W6:InI ((i_2:Int)-1))(E7:a0.1[i_2-1]?=some (v5,q5))(Z7:1≤i_2)(C8:¬v4≤v5)(B9a:H q4≤17179869184)(C10:sgR q4=0):
  Zj 0 (exec Tryz.prog (tab n) 0 59 (Za 21) big Xh) (Za 21 (Zo 2)) (QB a0 a1 i_2) (.ret) (Wo a0):=by
 have C1_:i_2<a0.1.length:=by omega
 obtain ⟨EL2,EG2⟩:=List.getElem?_eq_some_iff.1 E2
 have C5_:0<i_2:=by omega
 have W6_:IntKind.i64.wrap ((i_2:Int)-1)=(i_2:Int)-1:=Zq W6.1 W6.2
 obtain ⟨EL7,EG7⟩:=List.getElem?_eq_some_iff.1 E7
 have Z7_0:(1:Int)≤(i_2:Int):=by omega
 have K9:=Yy (p:=q4) B9a
 have C10_:(sgR q4==0)=true:=by rw [C10];simp
 unfold Zj
 simp+decide [QB,Zb, Tryz.f21,Wo,Xh,C1,C1_,EG2,C3,C4,C5_,W6_,EL7,EG7,Z7_0,C8,K9,C10_]
theorem Zrd(C3:¬v4<0)(C4:¬a1≤v4)(C5:¬0<(i_2:Int))(B6a:H q4≤17179869184)(C7:sgR q4=0):
  Zj 0 (exec Tryz.prog (tab n) 0 59 (Za 21) big Xh) (Za 21 (Zo 2)) (QB a0 a1 i_2) (.ret) (Wo a0):=by
 have C1_:i_2<a0.1.length:=by omega
 obtain ⟨EL2,EG2⟩:=List.getElem?_eq_some_iff.1 E2
 have C5_:¬0<i_2:=by omega
 have K6:=Yy (p:=q4) B6a
 have C7_:(sgR q4==0)=true:=by rw [C7];simp
 unfold Zj
 simp+decide [QB,Zb, Tryz.f21,Wo,Xh,C1,C1_,EG2,C3,C4,C5_,K6,C7_]
end
theorem Ztm(C1:¬(i_2:Int)<(a0.1.length:Int)):
  Zj 0 (exec Tryz.prog (tab n) 0 59 (Za 21) big Xh) (Za 21 (Zo 2)) (QB a0 a1 i_2) (.exit 0) (Zci a0):=by
 unfold Zj
 simp+decide [QB,Zb, Tryz.f21,Zci,Xh,C1]
theorem ZyU(L1:Zk Tryz.prog (tab n) 0 59 (Za 21) 2 Xh (QB a0 a1 0)=some (.ret,Wo a0)):
  run n 21 [Ze a0,.lit (.int .i64 a1)]=some (.lit (.bool false)):=by
 unfold run fnP
 simp+decide [Tryz.f21]
 rw [Zi (C':=Xh) (e:=(QB a0 a1 0)) ?_ ?_,L1]
 rotate_left
 ·kernel_rfl
 ·simp+decide [QB]
 simp+decide [Wo]
theorem ZxB(L1:Zk Tryz.prog (tab n) 0 59 (Za 21) 2 Xh (QB a0 a1 0)=some (.exit 0,Zci a0))(B2a:H a0.2≤17179869184):
  run n 21 [Ze a0,.lit (.int .i64 a1)]=some (.lit (.bool true)):=by
 have K2:=Ji (p:=a0.2) B2a
 unfold run fnP
 simp+decide [Tryz.f21]
 rw [Zi (C':=Xh) (e:=(QB a0 a1 0)) ?_ ?_,L1]
 rotate_left
 ·kernel_rfl
 ·simp+decide [QB]
 simp+decide [Zci,K2]
end
end
end Go.Proofs.YtdaonnnlgfhlaaaGreatDoor
