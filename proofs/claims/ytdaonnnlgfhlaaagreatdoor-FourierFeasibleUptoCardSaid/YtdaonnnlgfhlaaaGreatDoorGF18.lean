import Derived.Test.YtdaonnnlgfhlaaaGreatDoorGF16
import Derived.Test.YtdaonnnlgfhlaaaGreatDoorGF17
set_option linter.all false
set_option maxHeartbeats 6400000
set_option maxRecDepth 100000
namespace Go.Proofs.YtdaonnnlgfhlaaaGreatDoor
section
open Go.RowKit
section
variable {a0 : List Nat} {n : Nat} {x : Nat}
theorem lsm_f1(C1:(a0.length:Int)=0):
  run n 92 [natA a0]=some (.tup [.lit (.int .i64 0),.lit (.bool true)]):=by
 have C1_:((a0.length:Int)==0)=true:=by rw [C1];simp
 unfold run fnP
 simp+decide [Tryz.f92,natA,C1_]
theorem lsm_f2(C1:¬(a0.length:Int)=0)(E2:a0[0]?=some x)(W3:InI ((x:Int)))(C4:(a0.length:Int)=1):
  run n 92 [natA a0]=some (.tup [.lit (.int .i64 (x:Int)),.lit (.bool (decide ((x:Int)≤1073741824)))]):=by
 have C1_:((a0.length:Int)==0)=false:=by simpa using C1
 obtain ⟨EL2,EG2⟩:=List.getElem?_eq_some_iff.1 E2
 have W3_:IntKind.i64.wrap ((x:Int))=(x:Int):=wr64 W3.1 W3.2
 have C4_:((a0.length:Int)==1)=true:=by rw [C4];simp
 unfold run fnP
 simp+decide [Tryz.f92,natA,C1_,EL2,EG2,W3_,C4_]
theorem lsm_f3(C1:¬(a0.length:Int)=0)(E2:a0[0]?=some x)(W3:InI ((x:Int)))(C4:¬(a0.length:Int)=1):
  run n 92 [natA a0]=some (.tup [.lit (.int .i64 (x:Int)),.lit (.bool false)]):=by
 have C1_:((a0.length:Int)==0)=false:=by simpa using C1
 obtain ⟨EL2,EG2⟩:=List.getElem?_eq_some_iff.1 E2
 have W3_:IntKind.i64.wrap ((x:Int))=(x:Int):=wr64 W3.1 W3.2
 have C4_:((a0.length:Int)==1)=false:=by simpa using C4
 unfold run fnP
 simp+decide [Tryz.f92,natA,C1_,EL2,EG2,W3_,C4_]
end
noncomputable def gcd27_C1:Code:=(loopsOf (bodyOf Tryz.f93)).getD 0 .skip
def gcd27_h1(i_1:Int)(i2_1:Int):St:=
 ⟨[(0,.lit (.int .i64 i_1)),(1,.lit (.int .i64 i2_1))],
  [],0⟩
def gcd27_o1a(i_1:Int):St:=
 ⟨[(0,.lit (.int .i64 i_1))],
  [],0⟩
section
variable {i_1 : Int} {i2_1 : Int} {n : Nat} {a0 : Int} {a1 : Int}
theorem gcd27_r1_1(C1:¬i2_1=0)(N2:i2_1≠0):
  Cont 0 (exec Tryz.prog (tab n) 0 12 (livesOf 93) big gcd27_C1) (livesOf 93 1) (gcd27_h1 i_1 i2_1) (gcd27_h1 i2_1 (i_1.tmod i2_1)):=by
 have C1_n:(i2_1 !=0)=true:=by simpa using C1
 apply Cont_m
 simp+decide [gcd27_h1,loopsOf, Tryz.f93,gcd27_C1,C1_n,N2]
theorem gcd27_x1_1(C1:i2_1=0):
  Leave 0 (exec Tryz.prog (tab n) 0 12 (livesOf 93) big gcd27_C1) (livesOf 93 (outOf 1)) (gcd27_h1 i_1 i2_1) (.exit 0) (gcd27_o1a i_1):=by
 have C1_n:(i2_1 !=0)=false:=by rw [C1];simp
 apply Leave_m
 simp+decide [gcd27_h1,loopsOf, Tryz.f93,gcd27_o1a,gcd27_C1,C1_n]
theorem gcd27_f1(L1:loopG Tryz.prog (tab n) 0 12 (livesOf 93) 1 gcd27_C1 (gcd27_h1 a0 a1)=some (.exit 0,gcd27_o1a i_1)):
  run n 93 [.lit (.int .i64 a0),.lit (.int .i64 a1)]=some (.lit (.int .i64 i_1)):=by
 unfold run fnP
 simp+decide [Tryz.f93]
 rw [loopX_G (C':=gcd27_C1) (e:=(gcd27_h1 a0 a1)) ?_ ?_,L1]
 rotate_left
 ·kernel_rfl
 ·simp+decide [gcd27_h1]
 simp+decide [gcd27_o1a]
end
noncomputable def red_C3:Code:=(loopsOf (bodyOf Tryz.f94)).getD 0 .skip
noncomputable def red_C7:Code:=(loopsOf (bodyOf Tryz.f94)).getD 1 .skip
def red_h3(a0:List Int)(i_3:Int)(i2_3:Nat):St:=
 ⟨[(0,.own 0 a0.length),(3,.lit (.int .i64 i_3)),(4,.lit (.int .i64 (i2_3:Int)))],
  [(0,some (.row 3 1 (a0.map intI64C) 0))],1⟩
def red_h7(out_7:List Int)(i_3:Int)(i_7:Nat):St:=
 ⟨[(0,.own 0 out_7.length),(3,.lit (.int .i64 i_3)),(5,.lit (.int .i64 (i_7:Int)))],
  [(0,some (.row 3 1 (out_7.map intI64C) 0))],1⟩
def red_o3a(a0:List Int)(i_3:Int):St:=
 ⟨[(0,.own 0 a0.length),(3,.lit (.int .i64 i_3))],
  [(0,some (.row 3 1 (a0.map intI64C) 0))],1⟩
def red_o7a(out_7:List Int)(i_7:Nat)(x10:Int)(i_3:Int):St:=
 ⟨[(2,.lit (.bool false))],
  [(0,some (.row 3 1 ((out_7.set i_7 (x10.tdiv i_3)).map intI64C) 0))],1⟩
def red_o7b(out_7:List Int):St:=
 ⟨[(2,.lit (.bool false))],
  [(0,some (.row 3 1 (out_7.map intI64C) 0))],1⟩
def red_o7c(out_7:List Int):St:=
 ⟨[(2,.any)],
  [(0,some (.row 3 1 (out_7.map intI64C) 0))],1⟩
section
variable {a0 : List Int} {i_3 : Int} {i2_3 : Nat} {x3 : Int} {r3 : Int} {n : Nat} {out_7 : List Int} {i_7 : Nat} {x10 : Int} {x11 : Int} {x12 : Int}
theorem red_r3_1(C1:(i2_3:Int)<(a0.length:Int))(G2:i2_3<a0.length)(E3:a0[i2_3]?=some x3)(W5:InI ((-x3)))(K6:run n 93 [.lit (.int .i64 ((if x3<(-x3) then (-x3) else x3))),.lit (.int .i64 i_3)]=some (.lit (.int .i64 r3)))(W7:InI ((i2_3:Int)+1)):
  Cont 1 (exec Tryz.prog (tab (n+1)) 1 53 (livesOf 94) big red_C3) (livesOf 94 3) (red_h3 a0 i_3 i2_3) (red_h3 a0 r3 (i2_3+1)):=by
 have C1_:i2_3<a0.length:=by omega
 obtain ⟨EL3,EG3⟩:=List.getElem?_eq_some_iff.1 E3
 have W5_:IntKind.i64.wrap ((-x3))=(-x3):=wr64 W5.1 W5.2
 have W7_:IntKind.i64.wrap ((i2_3:Int)+1)=(i2_3:Int)+1:=wr64 W7.1 W7.2
 apply Cont_m
 simp+decide [red_h3,loopsOf, Tryz.f94,red_C3,C1,C1_,EG3,W5_,K6,W7_]
theorem red_x3_1(C1:¬(i2_3:Int)<(a0.length:Int)):
  Leave 1 (exec Tryz.prog (tab (n+1)) 1 53 (livesOf 94) big red_C3) (livesOf 94 (outOf 3)) (red_h3 a0 i_3 i2_3) (.exit 0) (red_o3a a0 i_3):=by
 apply Leave_m
 simp+decide [red_h3,loopsOf, Tryz.f94,red_o3a,red_C3,C1]
section
variable(C1:(i_7:Int)<(out_7.length:Int))
include C1
theorem red_r7_1(C2:1<i_3)(G3:i_7<out_7.length)(E4:out_7[i_7]?=some x10)(W5:InI (x10.tdiv i_3))(N6:i_3≠0)(E10:(out_7.set i_7 (x10.tdiv i_3))[i_7]?=some x11)(C11:¬1073741824<x11)(C13:¬x11<(-1073741824))(W14:InI ((i_7:Int)+1)):
  Cont 1 (exec Tryz.prog (tab (n+1)) 1 53 (livesOf 94) big red_C7) (livesOf 94 7) (red_h7 out_7 i_3 i_7) (red_h7 (out_7.set i_7 (x10.tdiv i_3)) i_3 (i_7+1)):=by
 have C1_:i_7<out_7.length:=by omega
 obtain ⟨EL4,EG4⟩:=List.getElem?_eq_some_iff.1 E4
 have W5_:IntKind.i64.wrap (x10.tdiv i_3)=x10.tdiv i_3:=wr64 W5.1 W5.2
 rw [List.getElem?_set_self (by omega)] at E10
 obtain rfl:=Option.some.inj E10
 have W14_:IntKind.i64.wrap ((i_7:Int)+1)=(i_7:Int)+1:=wr64 W14.1 W14.2
 apply Cont_m
 simp+decide [red_h7,loopsOf, Tryz.f94,red_C7,C1,C1_,C2,EG4,W5_,N6,C11,C13,W14_]
theorem red_r7_2(C2:¬1<i_3)(G3:i_7<out_7.length)(E4:out_7[i_7]?=some x12)(C5:¬1073741824<x12)(C7:¬x12<(-1073741824))(W8:InI ((i_7:Int)+1)):
  Cont 1 (exec Tryz.prog (tab (n+1)) 1 53 (livesOf 94) big red_C7) (livesOf 94 7) (red_h7 out_7 i_3 i_7) (red_h7 out_7 i_3 (i_7+1)):=by
 have C1_:i_7<out_7.length:=by omega
 obtain ⟨EL4,EG4⟩:=List.getElem?_eq_some_iff.1 E4
 have W8_:IntKind.i64.wrap ((i_7:Int)+1)=(i_7:Int)+1:=wr64 W8.1 W8.2
 apply Cont_m
 simp+decide [red_h7,loopsOf, Tryz.f94,red_C7,C1,C1_,C2,EG4,C5,C7,W8_]
section
variable(C2:1<i_3)(G3:i_7<out_7.length)(E4:out_7[i_7]?=some x10)(W5:InI (x10.tdiv i_3))(N6:i_3≠0)(E10:(out_7.set i_7 (x10.tdiv i_3))[i_7]?=some x11)
include C2 G3 E4 W5 N6 E10
theorem red_x7_1(C11:1073741824<x11):
  Leave 1 (exec Tryz.prog (tab (n+1)) 1 53 (livesOf 94) big red_C7) (livesOf 94 (outOf 7)) (red_h7 out_7 i_3 i_7) (.ret) (red_o7a out_7 i_7 x10 i_3):=by
 have C1_:i_7<out_7.length:=by omega
 obtain ⟨EL4,EG4⟩:=List.getElem?_eq_some_iff.1 E4
 have W5_:IntKind.i64.wrap (x10.tdiv i_3)=x10.tdiv i_3:=wr64 W5.1 W5.2
 rw [List.getElem?_set_self (by omega)] at E10
 obtain rfl:=Option.some.inj E10
 apply Leave_m
 simp+decide [red_h7,loopsOf, Tryz.f94,red_o7a,red_C7,C1,C1_,C2,EG4,W5_,N6,C11]
theorem red_x7_2(C11:¬1073741824<x11)(C13:x11<(-1073741824)):
  Leave 1 (exec Tryz.prog (tab (n+1)) 1 53 (livesOf 94) big red_C7) (livesOf 94 (outOf 7)) (red_h7 out_7 i_3 i_7) (.ret) (red_o7a out_7 i_7 x10 i_3):=by
 have C1_:i_7<out_7.length:=by omega
 obtain ⟨EL4,EG4⟩:=List.getElem?_eq_some_iff.1 E4
 have W5_:IntKind.i64.wrap (x10.tdiv i_3)=x10.tdiv i_3:=wr64 W5.1 W5.2
 rw [List.getElem?_set_self (by omega)] at E10
 obtain rfl:=Option.some.inj E10
 apply Leave_m
 simp+decide [red_h7,loopsOf, Tryz.f94,red_o7a,red_C7,C1,C1_,C2,EG4,W5_,N6,C11,C13]
end
theorem red_x7_3(C2:¬1<i_3)(G3:i_7<out_7.length)(E4:out_7[i_7]?=some x12)(C5:1073741824<x12):
  Leave 1 (exec Tryz.prog (tab (n+1)) 1 53 (livesOf 94) big red_C7) (livesOf 94 (outOf 7)) (red_h7 out_7 i_3 i_7) (.ret) (red_o7b out_7):=by
 have C1_:i_7<out_7.length:=by omega
 obtain ⟨EL4,EG4⟩:=List.getElem?_eq_some_iff.1 E4
 apply Leave_m
 simp+decide [red_h7,loopsOf, Tryz.f94,red_o7b,red_C7,C1,C1_,C2,EG4,C5]
theorem red_x7_4(C2:¬1<i_3)(G3:i_7<out_7.length)(E4:out_7[i_7]?=some x12)(C5:¬1073741824<x12)(C7:x12<(-1073741824)):
  Leave 1 (exec Tryz.prog (tab (n+1)) 1 53 (livesOf 94) big red_C7) (livesOf 94 (outOf 7)) (red_h7 out_7 i_3 i_7) (.ret) (red_o7b out_7):=by
 have C1_:i_7<out_7.length:=by omega
 obtain ⟨EL4,EG4⟩:=List.getElem?_eq_some_iff.1 E4
 apply Leave_m
 simp+decide [red_h7,loopsOf, Tryz.f94,red_o7b,red_C7,C1,C1_,C2,EG4,C5,C7]
end
theorem red_x7_5(C1:¬(i_7:Int)<(out_7.length:Int)):
  Leave 1 (exec Tryz.prog (tab (n+1)) 1 53 (livesOf 94) big red_C7) (livesOf 94 (outOf 7)) (red_h7 out_7 i_3 i_7) (.exit 2) (red_o7c out_7):=by
 apply Leave_m
 simp+decide [red_h7,loopsOf, Tryz.f94,red_o7c,red_C7,C1]
section
variable(L1:loopG Tryz.prog (tab (n+1)) 1 53 (livesOf 94) 3 red_C3 (red_h3 a0 0 0)=some (.exit 0,red_o3a a0 i_3))
include L1
theorem red_f1(L2:loopG Tryz.prog (tab (n+1)) 1 53 (livesOf 94) 7 red_C7 (red_h7 a0 i_3 0)=some (.ret,red_o7a out_7 i_7 x10 i_3)):
  runL (n+1) 94 [.own 0 a0.length] [.row 3 1 (a0.map intI64C) 0]=some (.lit (.bool false),[(0,.row 3 1 ((out_7.set i_7 (x10.tdiv i_3)).map intI64C) 0)]):=by
 unfold runL fnL
 simp+decide [Tryz.f94]
 rw [loopX_G (C':=red_C3) (e:=(red_h3 a0 0 0)) ?_ ?_,L1]
 rotate_left
 ·kernel_rfl
 ·simp+decide [red_h3]
 simp+decide [red_o3a]
 rw [loopX_G (C':=red_C7) (e:=(red_h7 a0 i_3 0)) ?_ ?_,L2]
 rotate_left
 ·kernel_rfl
 ·simp+decide [red_h7]
 simp+decide [red_o7a]
theorem red_f2(L2:loopG Tryz.prog (tab (n+1)) 1 53 (livesOf 94) 7 red_C7 (red_h7 a0 i_3 0)=some (.ret,red_o7b out_7)):
  runL (n+1) 94 [.own 0 a0.length] [.row 3 1 (a0.map intI64C) 0]=some (.lit (.bool false),[(0,.row 3 1 (out_7.map intI64C) 0)]):=by
 unfold runL fnL
 simp+decide [Tryz.f94]
 rw [loopX_G (C':=red_C3) (e:=(red_h3 a0 0 0)) ?_ ?_,L1]
 rotate_left
 ·kernel_rfl
 ·simp+decide [red_h3]
 simp+decide [red_o3a]
 rw [loopX_G (C':=red_C7) (e:=(red_h7 a0 i_3 0)) ?_ ?_,L2]
 rotate_left
 ·kernel_rfl
 ·simp+decide [red_h7]
 simp+decide [red_o7b]
theorem red_f3(L2:loopG Tryz.prog (tab (n+1)) 1 53 (livesOf 94) 7 red_C7 (red_h7 a0 i_3 0)=some (.exit 2,red_o7c out_7)):
  runL (n+1) 94 [.own 0 a0.length] [.row 3 1 (a0.map intI64C) 0]=some (.lit (.bool true),[(0,.row 3 1 (out_7.map intI64C) 0)]):=by
 unfold runL fnL
 simp+decide [Tryz.f94]
 rw [loopX_G (C':=red_C3) (e:=(red_h3 a0 0 0)) ?_ ?_,L1]
 rotate_left
 ·kernel_rfl
 ·simp+decide [red_h3]
 simp+decide [red_o3a]
 rw [loopX_G (C':=red_C7) (e:=(red_h7 a0 i_3 0)) ?_ ?_,L2]
 rotate_left
 ·kernel_rfl
 ·simp+decide [red_h7]
 simp+decide [red_o7c]
end
end
noncomputable def dns_C4:Code:=(loopsOf (bodyOf Tryz.f63)).getD 0 .skip
noncomputable def dns_C18:Code:=(loopsOf (bodyOf Tryz.f63)).getD 1 .skip
noncomputable def dns_C24:Code:=(loopsOf (bodyOf Tryz.f63)).getD 2 .skip
def dns_h4(a0:Form)(a1:Int)(out_4:List Int)(out2_4:List Int)(i_4:Nat):St:=
 ⟨[(1,.lit (.int .i64 a1)),(2,.ptr 0 0),(6,.own 1 out_4.length),(7,.own 2 out2_4.length),(8,.lit (.int .i64 (i_4:Int)))],
  [(0,some (.box 28 [.sl 4 (a0.1.map termC),.lit (.bool (rawQ a0.2).s),natA (rawQ a0.2).l1,natA (rawQ a0.2).l2] false)),
   (1,some (.row 3 1 (out_4.map intI64C) 0)),
   (2,some (.row 3 1 (out2_4.map intI64C) 0))],3⟩
def dns_h18(a1:Int)(out_4:List Int)(out2_4:List Int)(i_18:Int)(i2_18:Nat):St:=
 ⟨[(1,.lit (.int .i64 a1)),(6,.own 0 out_4.length),(7,.own 1 out2_4.length),(14,.lit (.int .i64 i_18)),(15,.lit (.int .i64 (i2_18:Int)))],
  [(0,some (.row 3 1 (out_4.map intI64C) 0)),
   (1,some (.row 3 1 (out2_4.map intI64C) 0))],2⟩
def dns_h24(a1:Int)(out_24:List Int)(out2_4:List Int)(i_18:Int)(i_24:Nat):St:=
 ⟨[(1,.lit (.int .i64 a1)),(6,.own 0 out_24.length),(7,.own 1 out2_4.length),(14,.lit (.int .i64 i_18)),(16,.lit (.int .i64 (i_24:Int)))],
  [(0,some (.row 3 1 (out_24.map intI64C) 0)),
   (1,some (.row 3 1 (out2_4.map intI64C) 0))],2⟩
def dns_o4a(a1:Int)(out_4:List Int)(out2_4:List Int):St:=
 ⟨[(1,.lit (.int .i64 a1)),(4,.own 0 0),(5,.lit (.bool false)),(6,.own 1 out_4.length),(7,.own 2 out2_4.length)],
  [(0,some (.row 3 1 [] 0)),
   (1,some (.row 3 1 (out_4.map intI64C) 0)),
   (2,some (.row 3 1 (out2_4.map intI64C) 0))],3⟩
def dns_o4b(a1:Int)(out_4:List Int)(out2_4:List Int):St:=
 ⟨[(1,.lit (.int .i64 a1)),(4,.any),(5,.any),(6,.own 0 out_4.length),(7,.own 1 out2_4.length)],
  [(0,some (.row 3 1 (out_4.map intI64C) 0)),
   (1,some (.row 3 1 (out2_4.map intI64C) 0))],2⟩
def dns_o18a(a1:Int)(out_4:List Int)(out2_4:List Int)(i_18:Int)(r30:Int)(x3:Int):St:=
 ⟨[(1,.lit (.int .i64 a1)),(4,.own 0 0),(5,.lit (.bool false)),(6,.own 1 out_4.length),(7,.own 2 out2_4.length),(14,.lit (.int .i64 ((i_18.tdiv r30)*x3)))],
  [(0,some (.row 3 1 [] 0)),
   (1,some (.row 3 1 (out_4.map intI64C) 0)),
   (2,some (.row 3 1 (out2_4.map intI64C) 0))],3⟩
def dns_o18b(a1:Int)(out_4:List Int)(out2_4:List Int)(i_18:Int):St:=
 ⟨[(1,.lit (.int .i64 a1)),(4,.any),(5,.any),(6,.own 0 out_4.length),(7,.own 1 out2_4.length),(14,.lit (.int .i64 i_18))],
  [(0,some (.row 3 1 (out_4.map intI64C) 0)),
   (1,some (.row 3 1 (out2_4.map intI64C) 0))],2⟩
def dns_o24a(out_24:List Int):St:=
 ⟨[(6,.own 0 out_24.length)],
  [(0,some (.row 3 1 (out_24.map intI64C) 0))],1⟩
section
variable {r21 : Bool} {a0 : Form} {a1 : Int} {r23 : Bool} {i_4 : Nat} {out2_4 : List Int} {r22 : Int} {r19 : Rat} {out_4 : List Int} {n : Nat} {r20 : Int} {r24 : Int} {r25 : Bool} {r27 : Bool} {r26 : Int} {i2_18 : Nat} {x3 : Int} {r30 : Int} {i_18 : Int} {x9 : Int} {i_24 : Nat} {out_24 : List Int} {x8 : Int} {R : List Int} {r31 : Bool}
section
variable(C1:(i_4:Int)≤a1)
include C1
section
variable(C2:(i_4:Int)<a1)(K3:run (n+1) 22 [formV a0,.lit (.int .i64 (i_4:Int))]=some (ratV r19))(K4:run (n+1) 92 [natA (rawQ r19).l1]=some (.tup [.lit (.int .i64 r20),.lit (.bool r21)]))(K5:run (n+1) 92 [natA (rawQ r19).l2]=some (.tup [.lit (.int .i64 r22),.lit (.bool r23)]))(C6:r21=true)(C7:r23=true)
include C2 K3 K4 K5 C6 C7
theorem dns_r4_1(C8:(rawQ r19).s=true)(W9:InI ((-r20)))(G10:i_4<out_4.length)(G12:i_4<out2_4.length)(W14:InI ((i_4:Int)+1)):
  Cont 0 (exec Tryz.prog (tab (n+2)) 0 109 (livesOf 63) big dns_C4) (livesOf 63 4) (dns_h4 a0 a1 out_4 out2_4 i_4) (dns_h4 a0 a1 (out_4.set i_4 (-r20)) (out2_4.set i_4 (if r22<1 then 1 else r22)) (i_4+1)):=by
 simp only [ratV,formV] at K3
 have W9_:IntKind.i64.wrap ((-r20))=(-r20):=wr64 W9.1 W9.2
 have W14_:IntKind.i64.wrap ((i_4:Int)+1)=(i_4:Int)+1:=wr64 W14.1 W14.2
 try simp only [C8] at K3
 try simp only [C8] at K4
 try simp only [C8] at K5
 apply Cont_m
 simp+decide [dns_h4,loopsOf, Tryz.f63,dns_C4,C1,C2,K3,K4,K5,C6,C7,W9_,G10,G12,W14_]
theorem dns_r4_2(C8:(rawQ r19).s=false)(G9:i_4<out_4.length)(G11:i_4<out2_4.length)(W13:InI ((i_4:Int)+1)):
  Cont 0 (exec Tryz.prog (tab (n+2)) 0 109 (livesOf 63) big dns_C4) (livesOf 63 4) (dns_h4 a0 a1 out_4 out2_4 i_4) (dns_h4 a0 a1 (out_4.set i_4 r20) (out2_4.set i_4 (if r22<1 then 1 else r22)) (i_4+1)):=by
 simp only [ratV,formV] at K3
 have W13_:IntKind.i64.wrap ((i_4:Int)+1)=(i_4:Int)+1:=wr64 W13.1 W13.2
 try simp only [C8] at K3
 try simp only [C8] at K4
 try simp only [C8] at K5
 apply Cont_m
 simp+decide [dns_h4,loopsOf, Tryz.f63,dns_C4,C1,C2,K3,K4,K5,C6,C7,G9,G11,W13_]
end
section
variable(C2:¬(i_4:Int)<a1)(K3:run (n+1) 92 [natA (rawQ a0.2).l1]=some (.tup [.lit (.int .i64 r24),.lit (.bool r25)]))(K4:run (n+1) 92 [natA (rawQ a0.2).l2]=some (.tup [.lit (.int .i64 r26),.lit (.bool r27)]))(C5:r25=true)(C6:r27=true)
include C2 K3 K4 C5 C6
theorem dns_r4_3(C7:(rawQ a0.2).s=true)(W8:InI ((-r24)))(G9:i_4<out_4.length)(G11:i_4<out2_4.length)(W13:InI ((i_4:Int)+1)):
  Cont 0 (exec Tryz.prog (tab (n+2)) 0 109 (livesOf 63) big dns_C4) (livesOf 63 4) (dns_h4 a0 a1 out_4 out2_4 i_4) (dns_h4 a0 a1 (out_4.set i_4 (-r24)) (out2_4.set i_4 (if r26<1 then 1 else r26)) (i_4+1)):=by
 have W8_:IntKind.i64.wrap ((-r24))=(-r24):=wr64 W8.1 W8.2
 have W13_:IntKind.i64.wrap ((i_4:Int)+1)=(i_4:Int)+1:=wr64 W13.1 W13.2
 try simp only [C7] at K3
 try simp only [C7] at K4
 apply Cont_m
 simp+decide [dns_h4,loopsOf, Tryz.f63,dns_C4,C1,C2,K3,K4,C5,C6,C7,W8_,G9,G11,W13_]
theorem dns_r4_4(C7:(rawQ a0.2).s=false)(G8:i_4<out_4.length)(G10:i_4<out2_4.length)(W12:InI ((i_4:Int)+1)):
  Cont 0 (exec Tryz.prog (tab (n+2)) 0 109 (livesOf 63) big dns_C4) (livesOf 63 4) (dns_h4 a0 a1 out_4 out2_4 i_4) (dns_h4 a0 a1 (out_4.set i_4 r24) (out2_4.set i_4 (if r26<1 then 1 else r26)) (i_4+1)):=by
 have W12_:IntKind.i64.wrap ((i_4:Int)+1)=(i_4:Int)+1:=wr64 W12.1 W12.2
 try simp only [C7] at K3
 try simp only [C7] at K4
 apply Cont_m
 simp+decide [dns_h4,loopsOf, Tryz.f63,dns_C4,C1,C2,K3,K4,C5,C6,C7,G8,G10,W12_]
end
section
variable(C2:(i_4:Int)<a1)(K3:run (n+1) 22 [formV a0,.lit (.int .i64 (i_4:Int))]=some (ratV r19))(K4:run (n+1) 92 [natA (rawQ r19).l1]=some (.tup [.lit (.int .i64 r20),.lit (.bool r21)]))(K5:run (n+1) 92 [natA (rawQ r19).l2]=some (.tup [.lit (.int .i64 r22),.lit (.bool r23)]))
include C2 K3 K4 K5
theorem dns_x4_1(C6:r21=false):
  Leave 0 (exec Tryz.prog (tab (n+2)) 0 109 (livesOf 63) big dns_C4) (livesOf 63 (outOf 4)) (dns_h4 a0 a1 out_4 out2_4 i_4) (.ret) (dns_o4a a1 out_4 out2_4):=by
 simp only [ratV,formV] at K3
 apply Leave_m
 simp+decide [dns_h4,loopsOf, Tryz.f63,dns_o4a,dns_C4,C1,C2,K3,K4,K5,C6]
theorem dns_x4_2(C6:r21=true)(C7:r23=false):
  Leave 0 (exec Tryz.prog (tab (n+2)) 0 109 (livesOf 63) big dns_C4) (livesOf 63 (outOf 4)) (dns_h4 a0 a1 out_4 out2_4 i_4) (.ret) (dns_o4a a1 out_4 out2_4):=by
 simp only [ratV,formV] at K3
 apply Leave_m
 simp+decide [dns_h4,loopsOf, Tryz.f63,dns_o4a,dns_C4,C1,C2,K3,K4,K5,C6,C7]
end
section
variable(C2:¬(i_4:Int)<a1)(K3:run (n+1) 92 [natA (rawQ a0.2).l1]=some (.tup [.lit (.int .i64 r24),.lit (.bool r25)]))(K4:run (n+1) 92 [natA (rawQ a0.2).l2]=some (.tup [.lit (.int .i64 r26),.lit (.bool r27)]))
include C2 K3 K4
theorem dns_x4_3(C5:r25=false):
  Leave 0 (exec Tryz.prog (tab (n+2)) 0 109 (livesOf 63) big dns_C4) (livesOf 63 (outOf 4)) (dns_h4 a0 a1 out_4 out2_4 i_4) (.ret) (dns_o4a a1 out_4 out2_4):=by
 apply Leave_m
 simp+decide [dns_h4,loopsOf, Tryz.f63,dns_o4a,dns_C4,C1,C2,K3,K4,C5]
theorem dns_x4_4(C5:r25=true)(C6:r27=false):
  Leave 0 (exec Tryz.prog (tab (n+2)) 0 109 (livesOf 63) big dns_C4) (livesOf 63 (outOf 4)) (dns_h4 a0 a1 out_4 out2_4 i_4) (.ret) (dns_o4a a1 out_4 out2_4):=by
 apply Leave_m
 simp+decide [dns_h4,loopsOf, Tryz.f63,dns_o4a,dns_C4,C1,C2,K3,K4,C5,C6]
end
end
theorem dns_x4_5(C1:¬(i_4:Int)≤a1):
  Leave 0 (exec Tryz.prog (tab (n+2)) 0 109 (livesOf 63) big dns_C4) (livesOf 63 (outOf 4)) (dns_h4 a0 a1 out_4 out2_4 i_4) (.exit 0) (dns_o4b a1 out_4 out2_4):=by
 apply Leave_m
 simp+decide [dns_h4,loopsOf, Tryz.f63,dns_o4b,dns_C4,C1]
section
variable(C1:(i2_18:Int)≤a1)(G2:i2_18<out2_4.length)(E3:out2_4[i2_18]?=some x3)(K4:run (n+1) 93 [.lit (.int .i64 i_18),.lit (.int .i64 x3)]=some (.lit (.int .i64 r30)))(W5:InI (i_18.tdiv r30))(N6:r30≠0)(W8:InI ((i_18.tdiv r30)*x3))
include C1 G2 E3 K4 W5 N6 W8
theorem dns_r18_1(C9:¬1073741824<(i_18.tdiv r30)*x3)(W10:InI ((i2_18:Int)+1)):
  Cont 0 (exec Tryz.prog (tab (n+2)) 0 109 (livesOf 63) big dns_C18) (livesOf 63 18) (dns_h18 a1 out_4 out2_4 i_18 i2_18) (dns_h18 a1 out_4 out2_4 ((i_18.tdiv r30)*x3) (i2_18+1)):=by
 obtain ⟨EL3,EG3⟩:=List.getElem?_eq_some_iff.1 E3
 have W5_:IntKind.i64.wrap (i_18.tdiv r30)=i_18.tdiv r30:=wr64 W5.1 W5.2
 have W8_:IntKind.i64.wrap ((i_18.tdiv r30)*x3)=(i_18.tdiv r30)*x3:=wr64 W8.1 W8.2
 have W10_:IntKind.i64.wrap ((i2_18:Int)+1)=(i2_18:Int)+1:=wr64 W10.1 W10.2
 apply Cont_m
 simp+decide [dns_h18,loopsOf, Tryz.f63,dns_C18,C1,G2,EG3,K4,W5_,N6,W8_,C9,W10_]
theorem dns_x18_1(C9:1073741824<(i_18.tdiv r30)*x3):
  Leave 0 (exec Tryz.prog (tab (n+2)) 0 109 (livesOf 63) big dns_C18) (livesOf 63 (outOf 18)) (dns_h18 a1 out_4 out2_4 i_18 i2_18) (.ret) (dns_o18a a1 out_4 out2_4 i_18 r30 x3):=by
 obtain ⟨EL3,EG3⟩:=List.getElem?_eq_some_iff.1 E3
 have W5_:IntKind.i64.wrap (i_18.tdiv r30)=i_18.tdiv r30:=wr64 W5.1 W5.2
 have W8_:IntKind.i64.wrap ((i_18.tdiv r30)*x3)=(i_18.tdiv r30)*x3:=wr64 W8.1 W8.2
 apply Leave_m
 simp+decide [dns_h18,loopsOf, Tryz.f63,dns_o18a,dns_C18,C1,G2,EG3,K4,W5_,N6,W8_,C9]
end
theorem dns_x18_2(C1:¬(i2_18:Int)≤a1):
  Leave 0 (exec Tryz.prog (tab (n+2)) 0 109 (livesOf 63) big dns_C18) (livesOf 63 (outOf 18)) (dns_h18 a1 out_4 out2_4 i_18 i2_18) (.exit 2) (dns_o18b a1 out_4 out2_4 i_18):=by
 apply Leave_m
 simp+decide [dns_h18,loopsOf, Tryz.f63,dns_o18b,dns_C18,C1]
theorem dns_r24_1(C1:(i_24:Int)≤a1)(G2:i_24<out_24.length)(E3:out_24[i_24]?=some x8)(G4:i_24<out2_4.length)(E5:out2_4[i_24]?=some x9)(W6:InI (i_18.tdiv x9))(N7:x9≠0)(W8:InI (x8*(i_18.tdiv x9)))(W11:InI ((i_24:Int)+1)):
  Cont 0 (exec Tryz.prog (tab (n+2)) 0 109 (livesOf 63) big dns_C24) (livesOf 63 24) (dns_h24 a1 out_24 out2_4 i_18 i_24) (dns_h24 a1 (out_24.set i_24 ((x8*(i_18.tdiv x9)))) out2_4 i_18 (i_24+1)):=by
 obtain ⟨EL3,EG3⟩:=List.getElem?_eq_some_iff.1 E3
 obtain ⟨EL5,EG5⟩:=List.getElem?_eq_some_iff.1 E5
 have W6_:IntKind.i64.wrap (i_18.tdiv x9)=i_18.tdiv x9:=wr64 W6.1 W6.2
 have W8_:IntKind.i64.wrap (x8*(i_18.tdiv x9))=x8*(i_18.tdiv x9):=wr64 W8.1 W8.2
 have W11_:IntKind.i64.wrap ((i_24:Int)+1)=(i_24:Int)+1:=wr64 W11.1 W11.2
 apply Cont_m
 simp+decide [dns_h24,loopsOf, Tryz.f63,dns_C24,C1,G2,EG3,G4,EG5,W6_,N7,W8_,W11_]
theorem dns_x24_1(C1:¬(i_24:Int)≤a1):
  Leave 0 (exec Tryz.prog (tab (n+2)) 0 109 (livesOf 63) big dns_C24) (livesOf 63 (outOf 24)) (dns_h24 a1 out_24 out2_4 i_18 i_24) (.exit 4) (dns_o24a out_24):=by
 apply Leave_m
 simp+decide [dns_h24,loopsOf, Tryz.f63,dns_o24a,dns_C24,C1]
section
variable(W1:InI (a1+1))(M2:(a1+1).toNat≤100000000)(C3:0≤a1+1)(C6:0≤a1+1)
include W1 M2 C3 C6
theorem dns_f1(L7:loopG Tryz.prog (tab (n+2)) 0 109 (livesOf 63) 4 dns_C4 (dns_h4 a0 a1 (List.replicate ((a1+1).toNat) 0) (List.replicate ((a1+1).toNat) 0) 0)=some (.ret,dns_o4a a1 out_4 out2_4)):
  run (n+2) 63 [formV a0,.lit (.int .i64 a1)]=some (.tup [.sl 1 [],.lit (.bool false)]):=by
 have W1_:IntKind.i64.wrap (a1+1)=a1+1:=wr64 W1.1 W1.2
 have M2_:∀b,b≤10000→roomy ((a1+1).toNat) b=true:=fun b hb=>roomy_s M2 hb
 unfold run fnP
 simp+decide [Tryz.f63,W1_,M2_,C3]
 rw [loopX_G (C':=dns_C4) (e:=(dns_h4 a0 a1 (List.replicate ((a1+1).toNat) 0) (List.replicate ((a1+1).toNat) 0) 0)) ?_ ?_,L7]
 rotate_left
 ·kernel_rfl
 ·simp+decide [dns_h4]
 simp+decide [dns_o4a]
section
variable(L7:loopG Tryz.prog (tab (n+2)) 0 109 (livesOf 63) 4 dns_C4 (dns_h4 a0 a1 (List.replicate ((a1+1).toNat) 0) (List.replicate ((a1+1).toNat) 0) 0)=some (.exit 0,dns_o4b a1 out_4 out2_4))
include L7
theorem dns_f2(L8:loopG Tryz.prog (tab (n+2)) 0 109 (livesOf 63) 18 dns_C18 (dns_h18 a1 out_4 out2_4 1 0)=some (.ret,dns_o18a a1 out_4 out2_4 i_18 r30 x3)):
  run (n+2) 63 [formV a0,.lit (.int .i64 a1)]=some (.tup [.sl 1 [],.lit (.bool false)]):=by
 have W1_:IntKind.i64.wrap (a1+1)=a1+1:=wr64 W1.1 W1.2
 have M2_:∀b,b≤10000→roomy ((a1+1).toNat) b=true:=fun b hb=>roomy_s M2 hb
 unfold run fnP
 simp+decide [Tryz.f63,W1_,M2_,C3]
 rw [loopX_G (C':=dns_C4) (e:=(dns_h4 a0 a1 (List.replicate ((a1+1).toNat) 0) (List.replicate ((a1+1).toNat) 0) 0)) ?_ ?_,L7]
 rotate_left
 ·kernel_rfl
 ·simp+decide [dns_h4]
 simp+decide [dns_o4b]
 rw [loopX_G (C':=dns_C18) (e:=(dns_h18 a1 out_4 out2_4 1 0)) ?_ ?_,L8]
 rotate_left
 ·kernel_rfl
 ·simp+decide [dns_h18]
 simp+decide [dns_o18a]
theorem dns_f3(L8:loopG Tryz.prog (tab (n+2)) 0 109 (livesOf 63) 18 dns_C18 (dns_h18 a1 out_4 out2_4 1 0)=some (.exit 2,dns_o18b a1 out_4 out2_4 i_18))(L9:loopG Tryz.prog (tab (n+2)) 0 109 (livesOf 63) 24 dns_C24 (dns_h24 a1 out_4 out2_4 i_18 0)=some (.exit 4,dns_o24a out_24))(K10:runL (n+1) 94 [.own 0 out_24.length] [.row 3 1 (out_24.map intI64C) 0]=some (.lit (.bool r31),[(0,.row 3 1 (R.map intI64C) 0)]))(Q10:R.length=out_24.length):
  run (n+2) 63 [formV a0,.lit (.int .i64 a1)]=some (.tup [.sl 1 (R.map intI64C),.lit (.bool r31)]):=by
 have W1_:IntKind.i64.wrap (a1+1)=a1+1:=wr64 W1.1 W1.2
 have M2_:∀b,b≤10000→roomy ((a1+1).toNat) b=true:=fun b hb=>roomy_s M2 hb
 unfold run fnP
 simp+decide [Tryz.f63,W1_,M2_,C3]
 rw [loopX_G (C':=dns_C4) (e:=(dns_h4 a0 a1 (List.replicate ((a1+1).toNat) 0) (List.replicate ((a1+1).toNat) 0) 0)) ?_ ?_,L7]
 rotate_left
 ·kernel_rfl
 ·simp+decide [dns_h4]
 simp+decide [dns_o4b]
 rw [loopX_G (C':=dns_C18) (e:=(dns_h18 a1 out_4 out2_4 1 0)) ?_ ?_,L8]
 rotate_left
 ·kernel_rfl
 ·simp+decide [dns_h18]
 simp+decide [dns_o18b]
 rw [loopX_G (C':=dns_C24) (e:=(dns_h24 a1 out_4 out2_4 i_18 0)) ?_ ?_,L9]
 rotate_left
 ·kernel_rfl
 ·simp+decide [dns_h24]
 simp+decide [dns_o24a,Q10,K10]
end
end
end
end
section
open Go.RowKit
theorem vr_f1{n:Nat}{a0:Int}:
  run n 62 [.lit (.int .i64 a0)]=some (.agg [.sl 4 [[.lit (.int .i64 a0),.lit (.bool (rawQ (ofQ 1)).s),natA (rawQ (ofQ 1)).l1,natA (rawQ (ofQ 1)).l2]],.lit (.bool false),.sl 1 [],.sl 1 []]):=by
 have K1:=r_ofq (z:=1) (by omega) (by omega)
 unfold run fnP
 simp+decide [Tryz.f62,K1]
end
section
open Go.RowKit
noncomputable def pl_C4:Code:=(loopsOf (bodyOf Tryz.f86)).getD 0 .skip
def pl_h4(a0:Form)(a1:Int)(a2:Rat)(out_4:List (Int × Rat))(d_4:Bool)(i_4:Nat):St:=
 ⟨[(1,.lit (.int .i64 a1)),(3,.ptr 0 0),(5,.ptr 1 0),(6,.ptr 2 0),(7,.own 3 out_4.length),(8,.lit (.bool d_4)),(9,.lit (.int .i64 (i_4:Int)))],
  [(0,some (.box 28 [.sl 4 (a0.1.map termC),.lit (.bool (rawQ a0.2).s),natA (rawQ a0.2).l1,natA (rawQ a0.2).l2] false)),
   (1,some (.box 26 [.lit (.bool (rawQ a2).s),natA (rawQ a2).l1,natA (rawQ a2).l2] false)),
   (2,some (.box 28 [.nl 4,.lit (.bool false),.nl 1,.nl 1] false)),
   (3,some (.row 68 4 (out_4.map termC) 0))],4⟩
def pl_o4a(a0:Form)(a1:Int)(a2:Rat)(out_4:List (Int × Rat))(d_4:Bool):St:=
 ⟨[(1,.lit (.int .i64 a1)),(3,.ptr 0 0),(5,.ptr 1 0),(6,.ptr 2 0),(7,.own 3 out_4.length),(8,.lit (.bool d_4))],
  [(0,some (.box 28 [.sl 4 (a0.1.map termC),.lit (.bool (rawQ a0.2).s),natA (rawQ a0.2).l1,natA (rawQ a0.2).l2] false)),
   (1,some (.box 26 [.lit (.bool (rawQ a2).s),natA (rawQ a2).l1,natA (rawQ a2).l2] false)),
   (2,some (.box 28 [.nl 4,.lit (.bool false),.nl 1,.nl 1] false)),
   (3,some (.row 68 4 (out_4.map termC) 0))],4⟩
section
variable{a0:Form}{a2:Rat}{a1:Int}{i_4:Nat}{q3:Rat}{d_4:Bool}{v3:Int}{out_4:List (Int × Rat)}{n:Nat}{R12:List (Int × Rat)}{R14:List (Int × Rat)}{R15:List (Int × Rat)}{R13:List (Int × Rat)}{R16:List (Int × Rat)}{R17:List (Int × Rat)}{R18:List (Int × Rat)}
section
variable(C1:(i_4:Int)<(a0.1.length:Int))(E2:a0.1[i_4]?=some (v3,q3))
include C1 E2
theorem pl_r4_1(C3:v3=a1)(B4a:H q3≤17179869184)(B4b:H a2≤17179869184)(K5:runL n 81 [.own 0 out_4.length,.agg [.lit (.int .i64 v3),.lit (.bool (rawQ (q3+a2)).s),natA (rawQ (q3+a2)).l1,natA (rawQ (q3+a2)).l2]] [.row 68 4 (out_4.map termC) 0]=some (.own 0 out_4.length,[(0,.row 68 4 (out_4.map termC) 0)]))(W6:InI ((i_4:Int)+1)):
  Cont 0 (exec Tryz.prog (tab (n+1)) 0 61 (livesOf 86) big pl_C4) (livesOf 86 4) (pl_h4 a0 a1 a2 out_4 d_4 i_4) (pl_h4 a0 a1 a2 out_4 true (i_4+1)):=by
 have C1_:i_4<a0.1.length:=by omega
 obtain ⟨EL2,EG2⟩:=List.getElem?_eq_some_iff.1 E2
 have C3_:(v3==a1)=true:=by rw [C3];simp
 have K4:=r_add (p:=q3) (q:=a2) B4a B4b
 have W6_:IntKind.i64.wrap ((i_4:Int)+1)=(i_4:Int)+1:=wr64 W6.1 W6.2
 unfold Cont
 simp+decide [pl_h4,loopsOf, Tryz.f86,pl_C4,C1,C1_,EG2,C3_,K4,K5,W6_]
theorem pl_r4_2(C3:v3=a1)(B4a:H q3≤17179869184)(B4b:H a2≤17179869184)(K5:runL n 81 [.own 0 out_4.length,.agg [.lit (.int .i64 v3),.lit (.bool (rawQ (q3+a2)).s),natA (rawQ (q3+a2)).l1,natA (rawQ (q3+a2)).l2]] [.row 68 4 (out_4.map termC) 0]=some (.own 3 R12.length,[(3,.row 68 4 (R12.map termC) 0)]))(W6:InI ((i_4:Int)+1)):
  Cont 0 (exec Tryz.prog (tab (n+1)) 0 61 (livesOf 86) big pl_C4) (livesOf 86 4) (pl_h4 a0 a1 a2 out_4 d_4 i_4) (pl_h4 a0 a1 a2 R12 true (i_4+1)):=by
 have C1_:i_4<a0.1.length:=by omega
 obtain ⟨EL2,EG2⟩:=List.getElem?_eq_some_iff.1 E2
 have C3_:(v3==a1)=true:=by rw [C3];simp
 have K4:=r_add (p:=q3) (q:=a2) B4a B4b
 have W6_:IntKind.i64.wrap ((i_4:Int)+1)=(i_4:Int)+1:=wr64 W6.1 W6.2
 unfold Cont
 simp+decide [pl_h4,loopsOf, Tryz.f86,pl_C4,C1,C1_,EG2,C3_,K4,K5,W6_]
theorem pl_r4_4(C3:¬v3=a1)(C4:d_4=false)(C5:a1<v3)(B6a:H a2≤17179869184)(K7:runL n 81 [.own 0 out_4.length,.agg [.lit (.int .i64 a1),.lit (.bool (rawQ a2).s),natA (rawQ a2).l1,natA (rawQ a2).l2]] [.row 68 4 (out_4.map termC) 0]=some (.own 0 out_4.length,[(0,.row 68 4 (out_4.map termC) 0)]))(K8:runL n 81 [.own 0 out_4.length,.agg [.lit (.int .i64 v3),.lit (.bool (rawQ q3).s),natA (rawQ q3).l1,natA (rawQ q3).l2]] [.row 68 4 (out_4.map termC) 0]=some (.own 3 R14.length,[(3,.row 68 4 (R14.map termC) 0)]))(W9:InI ((i_4:Int)+1)):
  Cont 0 (exec Tryz.prog (tab (n+1)) 0 61 (livesOf 86) big pl_C4) (livesOf 86 4) (pl_h4 a0 a1 a2 out_4 d_4 i_4) (pl_h4 a0 a1 a2 R14 true (i_4+1)):=by
 have C1_:i_4<a0.1.length:=by omega
 obtain ⟨EL2,EG2⟩:=List.getElem?_eq_some_iff.1 E2
 have C3_:(v3==a1)=false:=by simpa using C3
 have K6:=r_canon (p:=a2) B6a
 have W9_:IntKind.i64.wrap ((i_4:Int)+1)=(i_4:Int)+1:=wr64 W9.1 W9.2
 unfold Cont
 simp+decide [pl_h4,loopsOf, Tryz.f86,pl_C4,C1,C1_,EG2,C3_,C4,C5,K6,K7,K8,W9_]
theorem pl_r4_6(C3:¬v3=a1)(C4:d_4=false)(C5:a1<v3)(B6a:H a2≤17179869184)(K7:runL n 81 [.own 0 out_4.length,.agg [.lit (.int .i64 a1),.lit (.bool (rawQ a2).s),natA (rawQ a2).l1,natA (rawQ a2).l2]] [.row 68 4 (out_4.map termC) 0]=some (.own 3 R13.length,[(3,.row 68 4 (R13.map termC) 0)]))(K8:runL n 81 [.own 0 R13.length,.agg [.lit (.int .i64 v3),.lit (.bool (rawQ q3).s),natA (rawQ q3).l1,natA (rawQ q3).l2]] [.row 68 4 (R13.map termC) 0]=some (.own 3 R15.length,[(3,.row 68 4 (R15.map termC) 0)]))(W9:InI ((i_4:Int)+1)):
  Cont 0 (exec Tryz.prog (tab (n+1)) 0 61 (livesOf 86) big pl_C4) (livesOf 86 4) (pl_h4 a0 a1 a2 out_4 d_4 i_4) (pl_h4 a0 a1 a2 R15 true (i_4+1)):=by
 have C1_:i_4<a0.1.length:=by omega
 obtain ⟨EL2,EG2⟩:=List.getElem?_eq_some_iff.1 E2
 have C3_:(v3==a1)=false:=by simpa using C3
 have K6:=r_canon (p:=a2) B6a
 have W9_:IntKind.i64.wrap ((i_4:Int)+1)=(i_4:Int)+1:=wr64 W9.1 W9.2
 unfold Cont
 simp+decide [pl_h4,loopsOf, Tryz.f86,pl_C4,C1,C1_,EG2,C3_,C4,C5,K6,K7,K8,W9_]
theorem pl_r4_8(C3:¬v3=a1)(C4:d_4=false)(C5:¬a1<v3)(K6:runL n 81 [.own 0 out_4.length,.agg [.lit (.int .i64 v3),.lit (.bool (rawQ q3).s),natA (rawQ q3).l1,natA (rawQ q3).l2]] [.row 68 4 (out_4.map termC) 0]=some (.own 3 R16.length,[(3,.row 68 4 (R16.map termC) 0)]))(W7:InI ((i_4:Int)+1)):
  Cont 0 (exec Tryz.prog (tab (n+1)) 0 61 (livesOf 86) big pl_C4) (livesOf 86 4) (pl_h4 a0 a1 a2 out_4 d_4 i_4) (pl_h4 a0 a1 a2 R16 d_4 (i_4+1)):=by
 have C1_:i_4<a0.1.length:=by omega
 obtain ⟨EL2,EG2⟩:=List.getElem?_eq_some_iff.1 E2
 have C3_:(v3==a1)=false:=by simpa using C3
 have W7_:IntKind.i64.wrap ((i_4:Int)+1)=(i_4:Int)+1:=wr64 W7.1 W7.2
 unfold Cont
 simp+decide [pl_h4,loopsOf, Tryz.f86,pl_C4,C1,C1_,EG2,C3_,C4,C5,K6,W7_]
theorem pl_r4_10(C3:¬v3=a1)(C4:d_4=true)(K5:runL n 81 [.own 0 out_4.length,.agg [.lit (.int .i64 v3),.lit (.bool (rawQ q3).s),natA (rawQ q3).l1,natA (rawQ q3).l2]] [.row 68 4 (out_4.map termC) 0]=some (.own 3 R17.length,[(3,.row 68 4 (R17.map termC) 0)]))(W6:InI ((i_4:Int)+1)):
  Cont 0 (exec Tryz.prog (tab (n+1)) 0 61 (livesOf 86) big pl_C4) (livesOf 86 4) (pl_h4 a0 a1 a2 out_4 d_4 i_4) (pl_h4 a0 a1 a2 R17 d_4 (i_4+1)):=by
 have C1_:i_4<a0.1.length:=by omega
 obtain ⟨EL2,EG2⟩:=List.getElem?_eq_some_iff.1 E2
 have C3_:(v3==a1)=false:=by simpa using C3
 have W6_:IntKind.i64.wrap ((i_4:Int)+1)=(i_4:Int)+1:=wr64 W6.1 W6.2
 unfold Cont
 simp+decide [pl_h4,loopsOf, Tryz.f86,pl_C4,C1,C1_,EG2,C3_,C4,K5,W6_]
end
theorem pl_x4_1(C1:¬(i_4:Int)<(a0.1.length:Int)):
  Leave 0 (exec Tryz.prog (tab (n+1)) 0 61 (livesOf 86) big pl_C4) (livesOf 86 (outOf 4)) (pl_h4 a0 a1 a2 out_4 d_4 i_4) (.exit 0) (pl_o4a a0 a1 a2 out_4 d_4):=by
 unfold Leave
 simp+decide [pl_h4,loopsOf, Tryz.f86,pl_o4a,pl_C4,C1]
section
variable(L1:loopG Tryz.prog (tab (n+1)) 0 61 (livesOf 86) 4 pl_C4 (pl_h4 a0 a1 a2 [] false 0)=some (.exit 0,pl_o4a a0 a1 a2 out_4 d_4))
include L1
theorem pl_f1(C2:d_4=false)(B3a:H a2≤17179869184)(K4:runL n 81 [.own 0 out_4.length,.agg [.lit (.int .i64 a1),.lit (.bool (rawQ a2).s),natA (rawQ a2).l1,natA (rawQ a2).l2]] [.row 68 4 (out_4.map termC) 0]=some (.own 0 out_4.length,[(0,.row 68 4 (out_4.map termC) 0)])):
  run (n+1) 86 [formV a0,.lit (.int .i64 a1),ratV a2]=some (formV (out_4,a0.2)):=by
 have K3:=r_canon (p:=a2) B3a
 unfold run fnP
 simp+decide [Tryz.f86]
 rw [loopX_G (C':=pl_C4) (e:=(pl_h4 a0 a1 a2 [] false 0)) ?_ ?_,L1]
 rotate_left
 ·kernel_rfl
 ·simp+decide [pl_h4]
 simp+decide [pl_o4a,C2,K3,K4]
theorem pl_f2(C2:d_4=false)(B3a:H a2≤17179869184)(K4:runL n 81 [.own 0 out_4.length,.agg [.lit (.int .i64 a1),.lit (.bool (rawQ a2).s),natA (rawQ a2).l1,natA (rawQ a2).l2]] [.row 68 4 (out_4.map termC) 0]=some (.own 3 R18.length,[(3,.row 68 4 (R18.map termC) 0)])):
  run (n+1) 86 [formV a0,.lit (.int .i64 a1),ratV a2]=some (formV (R18,a0.2)):=by
 have K3:=r_canon (p:=a2) B3a
 unfold run fnP
 simp+decide [Tryz.f86]
 rw [loopX_G (C':=pl_C4) (e:=(pl_h4 a0 a1 a2 [] false 0)) ?_ ?_,L1]
 rotate_left
 ·kernel_rfl
 ·simp+decide [pl_h4]
 simp+decide [pl_o4a,C2,K3,K4]
theorem pl_f3(C2:d_4=true):
  run (n+1) 86 [formV a0,.lit (.int .i64 a1),ratV a2]=some (formV (out_4,a0.2)):=by
 unfold run fnP
 simp+decide [Tryz.f86]
 rw [loopX_G (C':=pl_C4) (e:=(pl_h4 a0 a1 a2 [] false 0)) ?_ ?_,L1]
 rotate_left
 ·kernel_rfl
 ·simp+decide [pl_h4]
 simp+decide [pl_o4a,C2]
end
end
end
section
open Go.RowKit
noncomputable def ad_C3:Code:=(loopsOf (bodyOf Tryz.f50)).getD 0 .skip
def ad_h3(a1:Form)(i_3:Nat)(l_3:List (Int × Rat))(s_3:Rat):St:=
 ⟨[(3,.ptr 0 0),(4,.ptr 1 0),(5,.ptr 2 0),(6,.lit (.int .i64 (i_3:Int)))],
  [(0,some (.box 28 [.sl 4 (a1.1.map termC),.lit (.bool (rawQ a1.2).s),natA (rawQ a1.2).l1,natA (rawQ a1.2).l2] false)),
   (1,some (.box 28 [.nl 4,.lit (.bool false),.nl 1,.nl 1] false)),
   (2,some (.box 28 [.sl 4 (l_3.map termC),.lit (.bool (rawQ s_3).s),natA (rawQ s_3).l1,natA (rawQ s_3).l2] false))],3⟩
def ad_o3a(l_3:List (Int × Rat))(s_3:Rat):St:=
 ⟨[(4,.ptr 0 0),(5,.ptr 1 0)],
  [(0,some (.box 28 [.nl 4,.lit (.bool false),.nl 1,.nl 1] false)),
   (1,some (.box 28 [.sl 4 (l_3.map termC),.lit (.bool (rawQ s_3).s),natA (rawQ s_3).l1,natA (rawQ s_3).l2] false))],2⟩
section
variable{s_3:Rat}{i_3:Nat}{a1:Form}{r3:Form}{l_3:List (Int × Rat)}{q3:Rat}{v3:Int}{n:Nat}{a0:Form}
theorem ad_r3_1(C1:(i_3:Int)<(a1.1.length:Int))(E2:a1.1[i_3]?=some (v3,q3))(K3:run (n+1) 86 [formV (l_3,s_3),.lit (.int .i64 v3),ratV q3]=some (formV r3))(W4:InI ((i_3:Int)+1)):
  Cont 0 (exec Tryz.prog (tab (n+2)) 0 43 (livesOf 50) big ad_C3) (livesOf 50 3) (ad_h3 a1 i_3 l_3 s_3) (ad_h3 a1 (i_3+1) r3.1 r3.2):=by
 have C1_:i_3<a1.1.length:=by omega
 obtain ⟨EL2,EG2⟩:=List.getElem?_eq_some_iff.1 E2
 simp only [ratV,formV] at K3
 have W4_:IntKind.i64.wrap ((i_3:Int)+1)=(i_3:Int)+1:=wr64 W4.1 W4.2
 unfold Cont
 simp+decide [ad_h3,loopsOf, Tryz.f50,ad_C3,C1,C1_,EG2,K3,W4_]
theorem ad_x3_1(C1:¬(i_3:Int)<(a1.1.length:Int)):
  Leave 0 (exec Tryz.prog (tab (n+2)) 0 43 (livesOf 50) big ad_C3) (livesOf 50 (outOf 3)) (ad_h3 a1 i_3 l_3 s_3) (.exit 0) (ad_o3a l_3 s_3):=by
 unfold Leave
 simp+decide [ad_h3,loopsOf, Tryz.f50,ad_o3a,ad_C3,C1]
theorem ad_f1(B1a:H a0.2≤17179869184)(B1b:H a1.2≤17179869184)(L2:loopG Tryz.prog (tab (n+2)) 0 43 (livesOf 50) 3 ad_C3 (ad_h3 a1 0 a0.1 (a0.2+a1.2))=some (.exit 0,ad_o3a l_3 s_3))(M3:l_3.length≤100000000):
  run (n+2) 50 [formV a0,formV a1]=some (formV (l_3,s_3)):=by
 have K1:=r_add (p:=a0.2) (q:=a1.2) B1a B1b
 have M3_:∀b,b≤10000→roomy (l_3.length) b=true:=fun b hb=>roomy_s M3 hb
 unfold run fnP
 simp+decide [Tryz.f50,K1]
 rw [loopX_G (C':=ad_C3) (e:=(ad_h3 a1 0 a0.1 (a0.2+a1.2))) ?_ ?_,L2]
 rotate_left
 ·kernel_rfl
 ·simp+decide [ad_h3]
 simp+decide [ad_o3a,M3_]
end
noncomputable def sc_C3:Code:=(loopsOf (bodyOf Tryz.f41)).getD 0 .skip
def sc_h3(a0:Form)(a1:Rat)(i_3:Nat)(out_3:List (Int × Rat)):St:=
 ⟨[(2,.ptr 0 0),(3,.ptr 1 0),(4,.ptr 2 0),(5,.ptr 3 0),(6,.lit (.int .i64 (i_3:Int)))],
  [(0,some (.box 28 [.sl 4 (a0.1.map termC),.lit (.bool (rawQ a0.2).s),natA (rawQ a0.2).l1,natA (rawQ a0.2).l2] false)),
   (1,some (.box 26 [.lit (.bool (rawQ a1).s),natA (rawQ a1).l1,natA (rawQ a1).l2] false)),
   (2,some (.box 28 [.nl 4,.lit (.bool false),.nl 1,.nl 1] false)),
   (3,some (.box 28 [.own 4 out_3.length,.lit (.bool (rawQ (a0.2*a1)).s),natA (rawQ (a0.2*a1)).l1,natA (rawQ (a0.2*a1)).l2] false)),
   (4,some (.row 68 4 (out_3.map termC) 0))],5⟩
def sc_o3a(a0:Form)(a1:Rat)(out_3:List (Int × Rat)):St:=
 ⟨[(4,.ptr 0 0),(5,.ptr 1 0)],
  [(0,some (.box 28 [.nl 4,.lit (.bool false),.nl 1,.nl 1] false)),
   (1,some (.box 28 [.own 2 out_3.length,.lit (.bool (rawQ (a0.2*a1)).s),natA (rawQ (a0.2*a1)).l1,natA (rawQ (a0.2*a1)).l2] false)),
   (2,some (.row 68 4 (out_3.map termC) 0))],3⟩
section
variable{a0:Form}{i_3:Nat}{a1:Rat}{out_3:List (Int × Rat)}{q3:Rat}{v3:Int}{n:Nat}{R3:List (Int × Rat)}
section
variable(C1:(i_3:Int)<(a0.1.length:Int))(E2:a0.1[i_3]?=some (v3,q3))(B3a:H q3≤17179869184)(B3b:H a1≤17179869184)
include C1 E2 B3a B3b
theorem sc_r3_1(K4:runL n 81 [.own 0 out_3.length,.agg [.lit (.int .i64 v3),.lit (.bool (rawQ (q3*a1)).s),natA (rawQ (q3*a1)).l1,natA (rawQ (q3*a1)).l2]] [.row 68 4 (out_3.map termC) 0]=some (.own 0 out_3.length,[(0,.row 68 4 (out_3.map termC) 0)]))(W5:InI ((i_3:Int)+1)):
  Cont 0 (exec Tryz.prog (tab (n+1)) 0 39 (livesOf 41) big sc_C3) (livesOf 41 3) (sc_h3 a0 a1 i_3 out_3) (sc_h3 a0 a1 (i_3+1) out_3):=by
 have C1_:i_3<a0.1.length:=by omega
 obtain ⟨EL2,EG2⟩:=List.getElem?_eq_some_iff.1 E2
 have K3:=r_mul (p:=q3) (q:=a1) B3a B3b
 have W5_:IntKind.i64.wrap ((i_3:Int)+1)=(i_3:Int)+1:=wr64 W5.1 W5.2
 unfold Cont
 simp+decide [sc_h3,loopsOf, Tryz.f41,sc_C3,C1,C1_,EG2,K3,K4,W5_]
theorem sc_r3_2(K4:runL n 81 [.own 0 out_3.length,.agg [.lit (.int .i64 v3),.lit (.bool (rawQ (q3*a1)).s),natA (rawQ (q3*a1)).l1,natA (rawQ (q3*a1)).l2]] [.row 68 4 (out_3.map termC) 0]=some (.own 3 R3.length,[(3,.row 68 4 (R3.map termC) 0)]))(W5:InI ((i_3:Int)+1)):
  Cont 0 (exec Tryz.prog (tab (n+1)) 0 39 (livesOf 41) big sc_C3) (livesOf 41 3) (sc_h3 a0 a1 i_3 out_3) (sc_h3 a0 a1 (i_3+1) R3):=by
 have C1_:i_3<a0.1.length:=by omega
 obtain ⟨EL2,EG2⟩:=List.getElem?_eq_some_iff.1 E2
 have K3:=r_mul (p:=q3) (q:=a1) B3a B3b
 have W5_:IntKind.i64.wrap ((i_3:Int)+1)=(i_3:Int)+1:=wr64 W5.1 W5.2
 unfold Cont
 simp+decide [sc_h3,loopsOf, Tryz.f41,sc_C3,C1,C1_,EG2,K3,K4,W5_]
end
theorem sc_x3_1(C1:¬(i_3:Int)<(a0.1.length:Int)):
  Leave 0 (exec Tryz.prog (tab (n+1)) 0 39 (livesOf 41) big sc_C3) (livesOf 41 (outOf 3)) (sc_h3 a0 a1 i_3 out_3) (.exit 0) (sc_o3a a0 a1 out_3):=by
 unfold Leave
 simp+decide [sc_h3,loopsOf, Tryz.f41,sc_o3a,sc_C3,C1]
theorem sc_f1(B1a:H a0.2≤17179869184)(B1b:H a1≤17179869184)(L2:loopG Tryz.prog (tab (n+1)) 0 39 (livesOf 41) 3 sc_C3 (sc_h3 a0 a1 0 [])=some (.exit 0,sc_o3a a0 a1 out_3)):
  run (n+1) 41 [formV a0,ratV a1]=some (formV (out_3,a0.2*a1)):=by
 have K1:=r_mul (p:=a0.2) (q:=a1) B1a B1b
 unfold run fnP
 simp+decide [Tryz.f41,K1]
 rw [loopX_G (C':=sc_C3) (e:=(sc_h3 a0 a1 0 [])) ?_ ?_,L2]
 rotate_left
 ·kernel_rfl
 ·simp+decide [sc_h3]
 simp+decide [sc_o3a]
end
end
section
open Go.RowKit
theorem nz_same{n:Nat}{F:List (Int × Rat)}{v:Int}{q:Rat}(hq:H q≤17179869184)(h0:q=0):
  runL n 81 [.own 0 F.length,.agg [.lit (.int .i64 v),.lit (.bool (rawQ q).s),natA (rawQ q).l1,natA (rawQ q).l2]] [.row 68 4 (F.map termC) 0]=some (.own 0 F.length,[(0,.row 68 4 (F.map termC) 0)]):=by
 unfold runL fnL
 have hs:=r_sign (p:=q) hq
 have e2:(sgR q==0)=true:=by rw [sgR_eq_zero.2 h0];rfl
 simp+decide [Tryz.f81,hs,e2]
theorem nz_new{n:Nat}{F:List (Int × Rat)}{v:Int}{q:Rat}(hq:H q≤17179869184)(h0:q≠0)(hF:F.length≤10000000):
  runL n 81 [.own 0 F.length,.agg [.lit (.int .i64 v),.lit (.bool (rawQ q).s),natA (rawQ q).l1,natA (rawQ q).l2]] [.row 68 4 (F.map termC) 0]=some (.own 3 (F++[(v,q)]).length,[(3,.row 68 4 ((F++[(v,q)]).map termC) 0)]):=by
 unfold runL fnL
 have hs:=r_sign (p:=q) hq
 have e2:(sgR q==0)=false:=by simpa using fun h=>h0 (sgR_eq_zero.1 h)
 have hr:∀b,b≤10000→roomy (F.length+1) b=true:=fun b hb=>roomy_s (by omega) hb
 simp+decide [Tryz.f81,hs,e2,hr]
def plF(v:Int)(c:Rat)(i:Nat)(b:List (Int × Rat) × Bool)(t:Int × Rat):List (Int × Rat) × Bool:=
 if t.1=v then (b.1++put1 t.1 (t.2+c),true) else if b.2=false∧v<t.1 then (b.1++(put1 v c++put1 t.1 t.2),true) else (b.1++put1 t.1 t.2,b.2)
theorem plF_fold(v:Int)(c:Rat):∀(R:List (Int × Rat)) (i:Nat) (out:List (Int × Rat)) (d:Bool),foldI (plF v c) i (out,d) R=(out++plO d R v c,plD d R v)
 | [],i,out,d=>by simp [foldI,plO,plD]
 | t::R,i,out,d=>by
   rw [foldI,plO,plD,plF]
   split
   ·rw [plF_fold];simp [List.append_assoc]
   ·split
    ·rw [plF_fold];simp [List.append_assoc]
    ·rw [plF_fold];simp [List.append_assoc]
theorem pl_step{n:Nat}{f:Form}{v:Int}{c:Rat}(hT:TmB 1000000 f.1)(hF:f.1.length≤400000)(hc:H c≤1000000){i:Nat}{t:Int × Rat}{b:List (Int × Rat) × Bool}(hi:f.1[i]?=some t)(hb:b.1.length≤2*i):
  Cont 0 (exec Tryz.prog (tab (n+1)) 0 61 (livesOf 86) big pl_C4) (livesOf 86 4) (pl_h4 f v c b.1 b.2 i) (pl_h4 f v c (plF v c i b t).1 (plF v c i b t).2 (i+1)):=by
 obtain ⟨u,q⟩:=t
 obtain ⟨out,d⟩:=b
 have hlt:=(List.getElem?_eq_some_iff.1 hi).1
 have ht:=hT _ (List.mem_of_getElem? hi)
 have hq:H q≤1000000:=ht.2
 have hq0:q≠0:=ht.1
 have hH:=H_add q c
 have C1:(i:Int)<(f.1.length:Int):=by omega
 have W:InI ((i:Int)+1):=⟨by omega,by omega⟩
 have hb:out.length≤2*i:=hb
 have e3:put1 u q=[(u,q)]:=if_neg hq0
 unfold plF
 dsimp only
 split
 ·rename_i e
  by_cases h0:q+c=0
  ·have e4:put1 u (q+c)=[]:=if_pos h0
   rw [e4,List.append_nil]
   exact pl_r4_1 C1 hi e (by omega) (by omega) (nz_same (by omega) h0) W
  ·have e4:put1 u (q+c)=[(u,q+c)]:=if_neg h0
   rw [e4]
   exact pl_r4_2 C1 hi e (by omega) (by omega) (nz_new (by omega) h0 (by omega)) W
 ·rename_i e
  split
  ·rename_i e2
   obtain ⟨e2,e5⟩:=e2
   rw [e3]
   by_cases h0:c=0
   ·have e4:put1 v c=[]:=if_pos h0
    rw [e4,List.nil_append]
    exact pl_r4_4 C1 hi e e2 e5 (by omega) (nz_same (by omega) h0) (nz_new (by omega) hq0 (by omega)) W
   ·have e4:put1 v c=[(v,c)]:=if_neg h0
    rw [e4,←List.append_assoc]
    exact pl_r4_6 C1 hi e e2 e5 (by omega) (nz_new (by omega) h0 (by omega)) (nz_new (by omega) hq0 (by rw [List.length_append];simp;omega)) W
  ·rename_i e2
   rw [e3]
   cases d with
   | true=>exact pl_r4_10 C1 hi e rfl (nz_new (by omega) hq0 (by omega)) W
   | false=>exact pl_r4_8 C1 hi e rfl (fun h=>e2 ⟨rfl,h⟩) (nz_new (by omega) hq0 (by omega)) W
theorem plF_len(v:Int)(c:Rat)(i:Nat)(b:List (Int × Rat) × Bool)(t:Int × Rat):(plF v c i b t).1.length≤b.1.length+2:=by
 have h1:=put1_len t.1 (t.2+c)
 have h2:=put1_len v c
 have h3:=put1_len t.1 t.2
 unfold plF
 split
 ·rw [List.length_append];omega
 ·split
  ·rw [List.length_append,List.length_append];omega
  ·rw [List.length_append];omega
theorem plus_c{n:Nat}{f:Form}{v:Int}{c:Rat}(hT:TmB 1000000 f.1)(hF:f.1.length≤400000)(hc:H c≤1000000):
  run (n+1) 86 [formV f,.lit (.int .i64 v),ratV c]=some (formV (plusV false f.1 v c,f.2)):=by
 have L:loopG Tryz.prog (tab (n+1)) 0 61 (livesOf 86) 4 pl_C4 (pl_h4 f v c [] false 0)=some (.exit 0,pl_o4a f v c (plO false f.1 v c) (plD false f.1 v)):=by
  have h:=(loopG_I (O:=tab (n+1)) (exN:=.exit 0) (L:=f.1) (enc:=fun i b=>pl_h4 f v c b.1 b.2 i) (f:=plF v c) (Inv:=fun i b=>b.1.length≤2*i) (out:=fun b=>pl_o4a f v c b.1 b.2) ([],false) (by simp) (by omega) (by simp)
   (fun i t b hi hI=>⟨pl_step hT hF hc hi hI,by have:=plF_len v c i b t;omega⟩) (fun b hI=>pl_x4_1 (by omega))).1
  rw [plF_fold] at h
  exact h
 have hl:=plO_len v c false f.1
 rw [plusV_plO]
 cases hd:plD false f.1 v with
 | true=>
   rw [hd] at L
   rw [if_pos rfl,List.append_nil]
   exact pl_f3 L rfl
 | false=>
   rw [hd] at L
   rw [if_neg (by simp)]
   by_cases h0:c=0
   ·have e:put1 v c=[]:=if_pos h0
    rw [e,List.append_nil]
    exact pl_f1 L rfl (by omega) (nz_same (by omega) h0)
   ·have e:put1 v c=[(v,c)]:=if_neg h0
    rw [e]
    exact pl_f2 L rfl (by omega) (nz_new (by omega) h0 (by omega))
theorem scale_c{n:Nat}{f:Form}{c:Rat}(hT:TmB 1000000 f.1)(hF:f.1.length≤400000)(hk:H f.2≤1000000)(hc:H c≤1000000):
  run (n+1) 41 [formV f,ratV c]=some (formV (sclV f.1 c,f.2*c)):=by
 have key:∀(R:List (Int × Rat)) (i:Nat) (o:List (Int × Rat)),foldI (fun _ b (t:Int × Rat)=>b++put1 t.1 (t.2*c)) i o R=o++sclV R c:=fun R=>by
  induction R with
  | nil=>intro i o;simp [foldI,sclV]
  | cons t R ih=>intro i o;rw [foldI,ih];simp [sclV,List.append_assoc]
 refine sc_f1 (by omega) (by omega) ?_
 have h:=(loopG_I (O:=tab (n+1)) (exN:=.exit 0) (L:=f.1) (enc:=fun i b=>sc_h3 f c i b) (f:=fun _ b (t:Int × Rat)=>b++put1 t.1 (t.2*c)) (Inv:=fun i b=>b.length≤i) (out:=fun b=>sc_o3a f c b) [] (by simp) (by omega) (by simp)
  (fun i t b hi hI=>by
   obtain ⟨u,q⟩:=t
   have hlt:=(List.getElem?_eq_some_iff.1 hi).1
   have hq:H q≤1000000:=(hT _ (List.mem_of_getElem? hi)).2
   have hm:=H_mul q c
   have C1:(i:Int)<(f.1.length:Int):=by omega
   have W:InI ((i:Int)+1):=⟨by omega,by omega⟩
   have hl:=put1_len u (q*c)
   refine ⟨?_,by rw [List.length_append];dsimp only;omega⟩
   dsimp only
   by_cases h0:q*c=0
   ·have e:put1 u (q*c)=[]:=if_pos h0
    rw [e,List.append_nil]
    exact sc_r3_1 C1 hi (by omega) (by omega) (nz_same (by omega) h0) W
   ·have e:put1 u (q*c)=[(u,q*c)]:=if_neg h0
    rw [e]
    exact sc_r3_2 C1 hi (by omega) (by omega) (nz_new (by omega) h0 (by omega)) W) (fun b hI=>sc_x3_1 (by omega))).1
 rw [key,List.nil_append] at h
 exact h
theorem add_c{n:Nat}{f g:Form}{m b:Nat}(hT:TmB b g.1)(hG:g.1.length≤200000)(hF:TmB m f.1)(hl:f.1.length≤200000)(hm:m+(b+1)*(g.1.length+1)≤1000000)(h1:H f.2≤1000000)(h2:H g.2≤1000000):
  run (n+2) 50 [formV f,formV g]=some (formV (addV f.1 g.1,f.2+g.2)):=by
 have key:∀(R:List (Int × Rat)) (i:Nat) (o:List (Int × Rat)),foldI (fun _ b (t:Int × Rat)=>plusV false b t.1 t.2) i o R=addV o R:=fun R=>by
  induction R with
  | nil=>intro i o;rfl
  | cons t R ih=>intro i o;rw [foldI,ih];rfl
 have hlen:∀(R o:List (Int × Rat)),(addV o R).length≤o.length+R.length:=fun R=>by
  induction R with
  | nil=>intro o;simp [addV]
  | cons t R ih=>
    intro o
    have h1:=ih (plusV false o t.1 t.2)
    have h2:=plusV_len false o t.1 t.2
    show (addV (plusV false o t.1 t.2) R).length≤_
    rw [List.length_cons];omega
 refine ad_f1 (by omega) (by omega) ?_ (by have:=hlen g.1 f.1;omega)
 have h:=(loopG_I (O:=tab (n+2)) (exN:=.exit 0) (L:=g.1) (enc:=fun i o=>ad_h3 g i o (f.2+g.2)) (f:=fun _ o (t:Int × Rat)=>plusV false o t.1 t.2) (Inv:=fun i o=>o.length≤f.1.length+i∧TmB (m+(b+1)*i) o∧i≤g.1.length) (out:=fun o=>ad_o3a o (f.2+g.2)) f.1 ⟨by omega,by simpa using hF,by omega⟩ (by omega) (by simp)
  (fun i t o hi hI=>by
   obtain ⟨u,q⟩:=t
   obtain ⟨hI1,hI2,hI3⟩:=hI
   have hlt:=(List.getElem?_eq_some_iff.1 hi).1
   have hq:H q≤b:=(hT _ (List.mem_of_getElem? hi)).2
   have C1:(i:Int)<(g.1.length:Int):=by omega
   have W:InI ((i:Int)+1):=⟨by omega,by omega⟩
   have hl2:=plusV_len false o u q
   have hmi:(b+1)*i≤(b+1)*(g.1.length+1):=Nat.mul_le_mul_left _ (by omega)
   have hb1:b+1≤(b+1)*(g.1.length+1):=Nat.le_mul_of_pos_right _ (by omega)
   have e:m+(b+1)*(i+1)=m+(b+1)*i+b+1:=by rw [Nat.mul_succ];omega
   refine ⟨ad_r3_1 (r3:=(plusV false o u q,f.2+g.2)) C1 hi (plus_c (f:=(o,f.2+g.2)) (hI2.mono (by omega)) (by dsimp only;omega) (by omega)) W,by dsimp only;omega,?_,hlt⟩
   rw [e]
   exact hI2.plus hq) (fun b hI=>ad_x3_1 (by omega))).1
 rw [key] at h
 exact h
end
section
open Go.RowKit
noncomputable def va_C2:Code:=(loopsOf (bodyOf Tryz.f21)).getD 0 .skip
def va_h2(a0:Form)(a1:Int)(i_2:Nat):St:=
 ⟨[(1,.lit (.int .i64 a1)),(2,.ptr 0 0),(5,.lit (.int .i64 (i_2:Int)))],
  [(0,some (.box 28 [.sl 4 (a0.1.map termC),.lit (.bool (rawQ a0.2).s),natA (rawQ a0.2).l1,natA (rawQ a0.2).l2] false))],1⟩
def va_o2a(a0:Form):St:=
 ⟨[(2,.ptr 0 0),(4,.lit (.bool false))],
  [(0,some (.box 28 [.sl 4 (a0.1.map termC),.lit (.bool (rawQ a0.2).s),natA (rawQ a0.2).l1,natA (rawQ a0.2).l2] false))],1⟩
def va_o2b(a0:Form):St:=
 ⟨[(2,.ptr 0 0),(4,.any)],
  [(0,some (.box 28 [.sl 4 (a0.1.map termC),.lit (.bool (rawQ a0.2).s),natA (rawQ a0.2).l1,natA (rawQ a0.2).l2] false))],1⟩
section
variable {a0 : Form} {a1 : Int} {q5 : Rat} {i_2 : Nat} {v4 : Int} {v5 : Int} {q4 : Rat} {n : Nat}
section
variable(C1:(i_2:Int)<(a0.1.length:Int))(E2:a0.1[i_2]?=some (v4,q4))
include C1 E2
theorem va_r2_1(C3:¬v4<0)(C4:¬a1≤v4)(C5:0<(i_2:Int))(W6:InI ((i_2:Int)-1))(E7:a0.1[i_2-1]?=some (v5,q5))(Z7:1≤i_2)(C8:¬v4≤v5)(B9a:H q4≤17179869184)(C10:¬sgR q4=0)(W12:InI ((i_2:Int)+1)):
  Cont 0 (exec Tryz.prog (tab n) 0 59 (livesOf 21) big va_C2) (livesOf 21 2) (va_h2 a0 a1 i_2) (va_h2 a0 a1 (i_2+1)):=by
 have C1_:i_2<a0.1.length:=by omega
 obtain ⟨EL2,EG2⟩:=List.getElem?_eq_some_iff.1 E2
 have C5_:0<i_2:=by omega
 have C5_z:(i_2:Int)≠0:=by omega
 have C5_e:((i_2:Int)==0)=false:=by simpa using C5_z
 have C5_g:((i_2:Int) !=0)=true:=by simpa using C5_z
 have W6_:IntKind.i64.wrap ((i_2:Int)-1)=(i_2:Int)-1:=wr64 W6.1 W6.2
 obtain ⟨EL7,EG7⟩:=List.getElem?_eq_some_iff.1 E7
 have Z7_0:(1:Int)≤(i_2:Int):=by omega
 have Z7_1:0≤(i_2:Int)-1:=by omega
 have K9:=r_sign (p:=q4) B9a
 have C10_:(sgR q4==0)=false:=by simpa using C10
 have C10_n:(sgR q4 !=0)=true:=by simpa using C10
 have K11:=r_valid (p:=q4) B9a
 have W12_:IntKind.i64.wrap ((i_2:Int)+1)=(i_2:Int)+1:=wr64 W12.1 W12.2
 unfold Cont
 simp+decide [va_h2,loopsOf, Tryz.f21,va_C2,C1,C1_,EL2,EG2,E2,C3,C4,C5,C5_,C5_e,C5_g,W6_,EL7,EG7,E7,Z7,Z7_0,Z7_1,C8,K9,C10_,C10_n,K11,W12_]
theorem va_r2_2(C3:¬v4<0)(C4:¬a1≤v4)(C5:¬0<(i_2:Int))(B6a:H q4≤17179869184)(C7:¬sgR q4=0)(W9:InI ((i_2:Int)+1)):
  Cont 0 (exec Tryz.prog (tab n) 0 59 (livesOf 21) big va_C2) (livesOf 21 2) (va_h2 a0 a1 i_2) (va_h2 a0 a1 (i_2+1)):=by
 have C1_:i_2<a0.1.length:=by omega
 obtain ⟨EL2,EG2⟩:=List.getElem?_eq_some_iff.1 E2
 have C5_:¬0<i_2:=by omega
 have C5_z:(i_2:Int)=0:=by omega
 have C5_e:((i_2:Int)==0)=true:=by rw [C5_z];simp
 have C5_g:((i_2:Int) !=0)=false:=by rw [C5_z];simp
 have K6:=r_sign (p:=q4) B6a
 have C7_:(sgR q4==0)=false:=by simpa using C7
 have C7_n:(sgR q4 !=0)=true:=by simpa using C7
 have K8:=r_valid (p:=q4) B6a
 have W9_:IntKind.i64.wrap ((i_2:Int)+1)=(i_2:Int)+1:=wr64 W9.1 W9.2
 unfold Cont
 simp+decide [va_h2,loopsOf, Tryz.f21,va_C2,C1,C1_,EL2,EG2,E2,C3,C4,C5,C5_,C5_e,C5_g,K6,C7_,C7_n,K8,W9_]
theorem va_x2_1(C3:v4<0):
  Leave 0 (exec Tryz.prog (tab n) 0 59 (livesOf 21) big va_C2) (livesOf 21 (outOf 2)) (va_h2 a0 a1 i_2) (.ret) (va_o2a a0):=by
 have C1_:i_2<a0.1.length:=by omega
 obtain ⟨EL2,EG2⟩:=List.getElem?_eq_some_iff.1 E2
 unfold Leave
 simp+decide [va_h2,loopsOf, Tryz.f21,va_o2a,va_C2,C1,C1_,EL2,EG2,E2,C3]
theorem va_x2_2(C3:¬v4<0)(C4:a1≤v4):
  Leave 0 (exec Tryz.prog (tab n) 0 59 (livesOf 21) big va_C2) (livesOf 21 (outOf 2)) (va_h2 a0 a1 i_2) (.ret) (va_o2a a0):=by
 have C1_:i_2<a0.1.length:=by omega
 obtain ⟨EL2,EG2⟩:=List.getElem?_eq_some_iff.1 E2
 unfold Leave
 simp+decide [va_h2,loopsOf, Tryz.f21,va_o2a,va_C2,C1,C1_,EL2,EG2,E2,C3,C4]
theorem va_x2_3(C3:¬v4<0)(C4:¬a1≤v4)(C5:0<(i_2:Int))(W6:InI ((i_2:Int)-1))(E7:a0.1[i_2-1]?=some (v5,q5))(Z7:1≤i_2)(C8:v4≤v5):
  Leave 0 (exec Tryz.prog (tab n) 0 59 (livesOf 21) big va_C2) (livesOf 21 (outOf 2)) (va_h2 a0 a1 i_2) (.ret) (va_o2a a0):=by
 have C1_:i_2<a0.1.length:=by omega
 obtain ⟨EL2,EG2⟩:=List.getElem?_eq_some_iff.1 E2
 have C5_:0<i_2:=by omega
 have C5_z:(i_2:Int)≠0:=by omega
 have C5_e:((i_2:Int)==0)=false:=by simpa using C5_z
 have C5_g:((i_2:Int) !=0)=true:=by simpa using C5_z
 have W6_:IntKind.i64.wrap ((i_2:Int)-1)=(i_2:Int)-1:=wr64 W6.1 W6.2
 obtain ⟨EL7,EG7⟩:=List.getElem?_eq_some_iff.1 E7
 have Z7_0:(1:Int)≤(i_2:Int):=by omega
 have Z7_1:0≤(i_2:Int)-1:=by omega
 unfold Leave
 simp+decide [va_h2,loopsOf, Tryz.f21,va_o2a,va_C2,C1,C1_,EL2,EG2,E2,C3,C4,C5,C5_,C5_e,C5_g,W6_,EL7,EG7,E7,Z7,Z7_0,Z7_1,C8]
theorem va_x2_4(C3:¬v4<0)(C4:¬a1≤v4)(C5:0<(i_2:Int))(W6:InI ((i_2:Int)-1))(E7:a0.1[i_2-1]?=some (v5,q5))(Z7:1≤i_2)(C8:¬v4≤v5)(B9a:H q4≤17179869184)(C10:sgR q4=0):
  Leave 0 (exec Tryz.prog (tab n) 0 59 (livesOf 21) big va_C2) (livesOf 21 (outOf 2)) (va_h2 a0 a1 i_2) (.ret) (va_o2a a0):=by
 have C1_:i_2<a0.1.length:=by omega
 obtain ⟨EL2,EG2⟩:=List.getElem?_eq_some_iff.1 E2
 have C5_:0<i_2:=by omega
 have C5_z:(i_2:Int)≠0:=by omega
 have C5_e:((i_2:Int)==0)=false:=by simpa using C5_z
 have C5_g:((i_2:Int) !=0)=true:=by simpa using C5_z
 have W6_:IntKind.i64.wrap ((i_2:Int)-1)=(i_2:Int)-1:=wr64 W6.1 W6.2
 obtain ⟨EL7,EG7⟩:=List.getElem?_eq_some_iff.1 E7
 have Z7_0:(1:Int)≤(i_2:Int):=by omega
 have Z7_1:0≤(i_2:Int)-1:=by omega
 have K9:=r_sign (p:=q4) B9a
 have C10_:(sgR q4==0)=true:=by rw [C10];simp
 have C10_n:(sgR q4 !=0)=false:=by rw [C10];simp
 unfold Leave
 simp+decide [va_h2,loopsOf, Tryz.f21,va_o2a,va_C2,C1,C1_,EL2,EG2,E2,C3,C4,C5,C5_,C5_e,C5_g,W6_,EL7,EG7,E7,Z7,Z7_0,Z7_1,C8,K9,C10_,C10_n]
theorem va_x2_5(C3:¬v4<0)(C4:¬a1≤v4)(C5:¬0<(i_2:Int))(B6a:H q4≤17179869184)(C7:sgR q4=0):
  Leave 0 (exec Tryz.prog (tab n) 0 59 (livesOf 21) big va_C2) (livesOf 21 (outOf 2)) (va_h2 a0 a1 i_2) (.ret) (va_o2a a0):=by
 have C1_:i_2<a0.1.length:=by omega
 obtain ⟨EL2,EG2⟩:=List.getElem?_eq_some_iff.1 E2
 have C5_:¬0<i_2:=by omega
 have C5_z:(i_2:Int)=0:=by omega
 have C5_e:((i_2:Int)==0)=true:=by rw [C5_z];simp
 have C5_g:((i_2:Int) !=0)=false:=by rw [C5_z];simp
 have K6:=r_sign (p:=q4) B6a
 have C7_:(sgR q4==0)=true:=by rw [C7];simp
 have C7_n:(sgR q4 !=0)=false:=by rw [C7];simp
 unfold Leave
 simp+decide [va_h2,loopsOf, Tryz.f21,va_o2a,va_C2,C1,C1_,EL2,EG2,E2,C3,C4,C5,C5_,C5_e,C5_g,K6,C7_,C7_n]
end
theorem va_x2_6(C1:¬(i_2:Int)<(a0.1.length:Int)):
  Leave 0 (exec Tryz.prog (tab n) 0 59 (livesOf 21) big va_C2) (livesOf 21 (outOf 2)) (va_h2 a0 a1 i_2) (.exit 0) (va_o2b a0):=by
 have C1_:¬i_2<a0.1.length:=by omega
 unfold Leave
 simp+decide [va_h2,loopsOf, Tryz.f21,va_o2b,va_C2,C1,C1_]
theorem va_f1(L1:loopG Tryz.prog (tab n) 0 59 (livesOf 21) 2 va_C2 (va_h2 a0 a1 0)=some (.ret,va_o2a a0)):
  run n 21 [formV a0,.lit (.int .i64 a1)]=some (.lit (.bool false)):=by
 unfold run fnP
 simp+decide [Tryz.f21]
 rw [loopX_G (C':=va_C2) (e:=(va_h2 a0 a1 0)) ?_ ?_,L1]
 rotate_left
 ·kernel_rfl
 ·simp+decide [va_h2]
 simp+decide [va_o2a]
theorem va_f2(L1:loopG Tryz.prog (tab n) 0 59 (livesOf 21) 2 va_C2 (va_h2 a0 a1 0)=some (.exit 0,va_o2b a0))(B2a:H a0.2≤17179869184):
  run n 21 [formV a0,.lit (.int .i64 a1)]=some (.lit (.bool true)):=by
 have K2:=r_valid (p:=a0.2) B2a
 unfold run fnP
 simp+decide [Tryz.f21,K2]
 rw [loopX_G (C':=va_C2) (e:=(va_h2 a0 a1 0)) ?_ ?_,L1]
 rotate_left
 ·kernel_rfl
 ·simp+decide [va_h2,K2]
 simp+decide [va_o2b,K2]
end
end
end Go.Proofs.YtdaonnnlgfhlaaaGreatDoor
