import Derived.Test.YtdaonnnlgfhlaaaGreatDoorGA16
set_option linter.all false
set_option maxHeartbeats 6400000
set_option maxRecDepth 100000
namespace Go.Proofs.YtdaonnnlgfhlaaaGreatDoor
section
open Go.RowKit
noncomputable def ev_C3:Code:=(loopsOf (bodyOf Tryz.f12)).getD 0 .skip
def ev_h3(a0:Form)(a1:List Rat)(i_3:Nat)(s_3:Rat):St:=
 ⟨[(1,.sl 3 (a1.map ratC)),(2,.ptr 0 0),(4,.ptr 1 0),(6,.ptr 2 0),(7,.lit (.int .i64 (i_3:Int)))],
  [(0,some (.box 28 [.sl 4 (a0.1.map termC),.lit (.bool (rawQ a0.2).s),natA (rawQ a0.2).l1,natA (rawQ a0.2).l2] false)),
   (1,some (.box 26 [.lit (.bool false),.nl 1,.nl 1] false)),
   (2,some (.box 26 [.lit (.bool (rawQ s_3).s),natA (rawQ s_3).l1,natA (rawQ s_3).l2] false))],3⟩
def ev_o3a(s_3:Rat):St:=
 ⟨[(4,.ptr 0 0),(5,.lit (.int .i64 2)),(6,.ptr 1 0)],
  [(0,some (.box 26 [.lit (.bool false),.nl 1,.nl 1] false)),
   (1,some (.box 26 [.lit (.bool (rawQ s_3).s),natA (rawQ s_3).l1,natA (rawQ s_3).l2] false))],2⟩
def ev_o3b(s_3:Rat):St:=
 ⟨[(4,.ptr 0 0),(5,.any),(6,.ptr 1 0)],
  [(0,some (.box 26 [.lit (.bool false),.nl 1,.nl 1] false)),
   (1,some (.box 26 [.lit (.bool (rawQ s_3).s),natA (rawQ s_3).l1,natA (rawQ s_3).l2] false))],2⟩
section
variable {x3 : Rat} {a1 : List Rat} {v3 : Int} {n : Nat} {s_3 : Rat} {a0 : Form} {q3 : Rat} {i_3 : Nat}
section
variable(C1:(i_3:Int)<(a0.1.length:Int))(E2:a0.1[i_3]?=some (v3,q3))
include C1 E2
theorem ev_r3_1(C3:¬v3<0)(C4:¬(a1.length:Int)≤v3)(E5:a1[v3.toNat]?=some x3)(Z5:0≤v3)(B6a:H q3≤17179869184)(B6b:H x3≤17179869184)(B7a:H s_3≤17179869184)(B7b:H (q3*x3)≤17179869184)(W8:InI ((i_3:Int)+1)):
  Cont 0 (exec Tryz.prog (tab n) 0 45 (livesOf 12) big ev_C3) (livesOf 12 3) (ev_h3 a0 a1 i_3 s_3) (ev_h3 a0 a1 (i_3+1) (s_3+(q3*x3))):=by
 have C1_:i_3<a0.1.length:=by omega
 obtain ⟨EL2,EG2⟩:=List.getElem?_eq_some_iff.1 E2
 obtain ⟨EL5,EG5⟩:=List.getElem?_eq_some_iff.1 E5
 have K6:=r_mul (p:=q3) (q:=x3) B6a B6b
 have K7:=r_add (p:=s_3) (q:=q3*x3) B7a B7b
 have W8_:IntKind.i64.wrap ((i_3:Int)+1)=(i_3:Int)+1:=wr64 W8.1 W8.2
 unfold Cont
 simp+decide [ev_h3,loopsOf, Tryz.f12,ev_C3,C1,C1_,EL2,EG2,E2,C3,C4,EL5,EG5,E5,Z5,K6,K7,W8_]
theorem ev_x3_1(C3:v3<0):
  Leave 0 (exec Tryz.prog (tab n) 0 45 (livesOf 12) big ev_C3) (livesOf 12 (outOf 3)) (ev_h3 a0 a1 i_3 s_3) (.ret) (ev_o3a s_3):=by
 have C1_:i_3<a0.1.length:=by omega
 obtain ⟨EL2,EG2⟩:=List.getElem?_eq_some_iff.1 E2
 unfold Leave
 simp+decide [ev_h3,loopsOf, Tryz.f12,ev_o3a,ev_C3,C1,C1_,EL2,EG2,E2,C3]
theorem ev_x3_2(C3:¬v3<0)(C4:(a1.length:Int)≤v3):
  Leave 0 (exec Tryz.prog (tab n) 0 45 (livesOf 12) big ev_C3) (livesOf 12 (outOf 3)) (ev_h3 a0 a1 i_3 s_3) (.ret) (ev_o3a s_3):=by
 have C1_:i_3<a0.1.length:=by omega
 obtain ⟨EL2,EG2⟩:=List.getElem?_eq_some_iff.1 E2
 unfold Leave
 simp+decide [ev_h3,loopsOf, Tryz.f12,ev_o3a,ev_C3,C1,C1_,EL2,EG2,E2,C3,C4]
end
theorem ev_x3_3(C1:¬(i_3:Int)<(a0.1.length:Int)):
  Leave 0 (exec Tryz.prog (tab n) 0 45 (livesOf 12) big ev_C3) (livesOf 12 (outOf 3)) (ev_h3 a0 a1 i_3 s_3) (.exit 0) (ev_o3b s_3):=by
 have C1_:¬i_3<a0.1.length:=by omega
 unfold Leave
 simp+decide [ev_h3,loopsOf, Tryz.f12,ev_o3b,ev_C3,C1,C1_]
theorem ev_f1(L1:loopG Tryz.prog (tab n) 0 45 (livesOf 12) 3 ev_C3 (ev_h3 a0 a1 0 a0.2)=some (.ret,ev_o3a s_3)):
  run n 12 [formV a0,.sl 3 (a1.map ratC)]=some (.tup [.agg [.lit (.bool false),.sl 1 [],.sl 1 []],.lit (.int .i64 2)]):=by
 unfold run fnP
 simp+decide [Tryz.f12]
 rw [loopX_G (C':=ev_C3) (e:=(ev_h3 a0 a1 0 a0.2)) ?_ ?_,L1]
 rotate_left
 ·kernel_rfl
 ·simp+decide [ev_h3]
 simp+decide [ev_o3a]
theorem ev_f2(L1:loopG Tryz.prog (tab n) 0 45 (livesOf 12) 3 ev_C3 (ev_h3 a0 a1 0 a0.2)=some (.exit 0,ev_o3b s_3)):
  run n 12 [formV a0,.sl 3 (a1.map ratC)]=some (.tup [ratV s_3,.lit (.int .i64 0)]):=by
 unfold run fnP
 simp+decide [Tryz.f12]
 rw [loopX_G (C':=ev_C3) (e:=(ev_h3 a0 a1 0 a0.2)) ?_ ?_,L1]
 rotate_left
 ·kernel_rfl
 ·simp+decide [ev_h3]
 simp+decide [ev_o3b]
end
end
section
open Go.RowKit
noncomputable def pl_C4:Code:=(loopsOf (bodyOf Tryz.f86)).getD 0 .skip
def pl_h4(a0:Form)(a1:Int)(a2:Rat)(out_4:List (Int × Rat))(d_4:Bool)(i_4:Nat):St:=
 ⟨[(1,.lit (.int .i64 a1)),(3,.ptr 0 0),(5,.ptr 1 0),(6,.ptr 2 0),(7,.own 3 out_4.length),(8,.lit (.bool d_4)),(9,.lit (.int .i64 (i_4:Int)))],
  [(0,some (.box 28 [.sl 4 (a0.1.map termC),.lit (.bool (rawQ a0.2).s),natA (rawQ a0.2).l1,natA (rawQ a0.2).l2] false)),
   (1,some (.box 26 [.lit (.bool (rawQ a2).s),natA (rawQ a2).l1,natA (rawQ a2).l2] false)),
   (2,some (.box 28 [.nl 4,.lit (.bool false),.nl 1,.nl 1] false)),
   (3,some (.row 68 4 (out_4.map termC) 0))],4⟩
def pl_o4a(a0:Form)(a1:Int)(a2:Rat)(out_4:List (Int × Rat))(d_4:Bool):St:=
 ⟨[(1,.lit (.int .i64 a1)),(3,.ptr 0 0),(5,.ptr 1 0),(6,.ptr 2 0),(7,.own 3 out_4.length),(8,.lit (.bool d_4))],
  [(0,some (.box 28 [.sl 4 (a0.1.map termC),.lit (.bool (rawQ a0.2).s),natA (rawQ a0.2).l1,natA (rawQ a0.2).l2] false)),
   (1,some (.box 26 [.lit (.bool (rawQ a2).s),natA (rawQ a2).l1,natA (rawQ a2).l2] false)),
   (2,some (.box 28 [.nl 4,.lit (.bool false),.nl 1,.nl 1] false)),
   (3,some (.row 68 4 (out_4.map termC) 0))],4⟩
section
variable{a1:Int}{v3:Int}{n:Nat}{out_4:List (Int × Rat)}{a0:Form}{q3:Rat}{a2:Rat}{d_4:Bool}{i_4:Nat}{R12:List (Int × Rat)}{R14:List (Int × Rat)}{R15:List (Int × Rat)}{R13:List (Int × Rat)}{R16:List (Int × Rat)}{R17:List (Int × Rat)}{R18:List (Int × Rat)}
section
variable(C1:(i_4:Int)<(a0.1.length:Int))(E2:a0.1[i_4]?=some (v3,q3))
include C1 E2
theorem pl_r4_1(C3:v3=a1)(B4a:H q3≤17179869184)(B4b:H a2≤17179869184)(K5:runL n 81 [.own 0 out_4.length,.agg [.lit (.int .i64 v3),.lit (.bool (rawQ (q3+a2)).s),natA (rawQ (q3+a2)).l1,natA (rawQ (q3+a2)).l2]] [.row 68 4 (out_4.map termC) 0]=some (.own 0 out_4.length,[(0,.row 68 4 (out_4.map termC) 0)]))(W6:InI ((i_4:Int)+1)):
  Cont 0 (exec Tryz.prog (tab (n+1)) 0 61 (livesOf 86) big pl_C4) (livesOf 86 4) (pl_h4 a0 a1 a2 out_4 d_4 i_4) (pl_h4 a0 a1 a2 out_4 true (i_4+1)):=by
 have C1_:i_4<a0.1.length:=by omega
 obtain ⟨EL2,EG2⟩:=List.getElem?_eq_some_iff.1 E2
 have C3_:(v3==a1)=true:=by rw [C3];simp
 have C3_n:(v3 !=a1)=false:=by rw [C3];simp
 have K4:=r_add (p:=q3) (q:=a2) B4a B4b
 have W6_:IntKind.i64.wrap ((i_4:Int)+1)=(i_4:Int)+1:=wr64 W6.1 W6.2
 unfold Cont
 simp+decide [pl_h4,loopsOf, Tryz.f86,pl_C4,C1,C1_,EL2,EG2,E2,C3_,C3_n,K4,K5,W6_]
theorem pl_r4_2(C3:v3=a1)(B4a:H q3≤17179869184)(B4b:H a2≤17179869184)(K5:runL n 81 [.own 0 out_4.length,.agg [.lit (.int .i64 v3),.lit (.bool (rawQ (q3+a2)).s),natA (rawQ (q3+a2)).l1,natA (rawQ (q3+a2)).l2]] [.row 68 4 (out_4.map termC) 0]=some (.own 3 R12.length,[(3,.row 68 4 (R12.map termC) 0)]))(W6:InI ((i_4:Int)+1)):
  Cont 0 (exec Tryz.prog (tab (n+1)) 0 61 (livesOf 86) big pl_C4) (livesOf 86 4) (pl_h4 a0 a1 a2 out_4 d_4 i_4) (pl_h4 a0 a1 a2 R12 true (i_4+1)):=by
 have C1_:i_4<a0.1.length:=by omega
 obtain ⟨EL2,EG2⟩:=List.getElem?_eq_some_iff.1 E2
 have C3_:(v3==a1)=true:=by rw [C3];simp
 have C3_n:(v3 !=a1)=false:=by rw [C3];simp
 have K4:=r_add (p:=q3) (q:=a2) B4a B4b
 have W6_:IntKind.i64.wrap ((i_4:Int)+1)=(i_4:Int)+1:=wr64 W6.1 W6.2
 unfold Cont
 simp+decide [pl_h4,loopsOf, Tryz.f86,pl_C4,C1,C1_,EL2,EG2,E2,C3_,C3_n,K4,K5,W6_]
theorem pl_r4_4(C3:¬v3=a1)(C4:d_4=false)(C5:a1<v3)(B6a:H a2≤17179869184)(K7:runL n 81 [.own 0 out_4.length,.agg [.lit (.int .i64 a1),.lit (.bool (rawQ a2).s),natA (rawQ a2).l1,natA (rawQ a2).l2]] [.row 68 4 (out_4.map termC) 0]=some (.own 0 out_4.length,[(0,.row 68 4 (out_4.map termC) 0)]))(K8:runL n 81 [.own 0 out_4.length,.agg [.lit (.int .i64 v3),.lit (.bool (rawQ q3).s),natA (rawQ q3).l1,natA (rawQ q3).l2]] [.row 68 4 (out_4.map termC) 0]=some (.own 3 R14.length,[(3,.row 68 4 (R14.map termC) 0)]))(W9:InI ((i_4:Int)+1)):
  Cont 0 (exec Tryz.prog (tab (n+1)) 0 61 (livesOf 86) big pl_C4) (livesOf 86 4) (pl_h4 a0 a1 a2 out_4 d_4 i_4) (pl_h4 a0 a1 a2 R14 true (i_4+1)):=by
 have C1_:i_4<a0.1.length:=by omega
 obtain ⟨EL2,EG2⟩:=List.getElem?_eq_some_iff.1 E2
 have C3_:(v3==a1)=false:=by simpa using C3
 have C3_n:(v3 !=a1)=true:=by simpa using C3
 have K6:=r_canon (p:=a2) B6a
 have W9_:IntKind.i64.wrap ((i_4:Int)+1)=(i_4:Int)+1:=wr64 W9.1 W9.2
 unfold Cont
 simp+decide [pl_h4,loopsOf, Tryz.f86,pl_C4,C1,C1_,EL2,EG2,E2,C3_,C3_n,C4,C5,K6,K7,K8,W9_]
theorem pl_r4_6(C3:¬v3=a1)(C4:d_4=false)(C5:a1<v3)(B6a:H a2≤17179869184)(K7:runL n 81 [.own 0 out_4.length,.agg [.lit (.int .i64 a1),.lit (.bool (rawQ a2).s),natA (rawQ a2).l1,natA (rawQ a2).l2]] [.row 68 4 (out_4.map termC) 0]=some (.own 3 R13.length,[(3,.row 68 4 (R13.map termC) 0)]))(K8:runL n 81 [.own 0 R13.length,.agg [.lit (.int .i64 v3),.lit (.bool (rawQ q3).s),natA (rawQ q3).l1,natA (rawQ q3).l2]] [.row 68 4 (R13.map termC) 0]=some (.own 3 R15.length,[(3,.row 68 4 (R15.map termC) 0)]))(W9:InI ((i_4:Int)+1)):
  Cont 0 (exec Tryz.prog (tab (n+1)) 0 61 (livesOf 86) big pl_C4) (livesOf 86 4) (pl_h4 a0 a1 a2 out_4 d_4 i_4) (pl_h4 a0 a1 a2 R15 true (i_4+1)):=by
 have C1_:i_4<a0.1.length:=by omega
 obtain ⟨EL2,EG2⟩:=List.getElem?_eq_some_iff.1 E2
 have C3_:(v3==a1)=false:=by simpa using C3
 have C3_n:(v3 !=a1)=true:=by simpa using C3
 have K6:=r_canon (p:=a2) B6a
 have W9_:IntKind.i64.wrap ((i_4:Int)+1)=(i_4:Int)+1:=wr64 W9.1 W9.2
 unfold Cont
 simp+decide [pl_h4,loopsOf, Tryz.f86,pl_C4,C1,C1_,EL2,EG2,E2,C3_,C3_n,C4,C5,K6,K7,K8,W9_]
theorem pl_r4_8(C3:¬v3=a1)(C4:d_4=false)(C5:¬a1<v3)(K6:runL n 81 [.own 0 out_4.length,.agg [.lit (.int .i64 v3),.lit (.bool (rawQ q3).s),natA (rawQ q3).l1,natA (rawQ q3).l2]] [.row 68 4 (out_4.map termC) 0]=some (.own 3 R16.length,[(3,.row 68 4 (R16.map termC) 0)]))(W7:InI ((i_4:Int)+1)):
  Cont 0 (exec Tryz.prog (tab (n+1)) 0 61 (livesOf 86) big pl_C4) (livesOf 86 4) (pl_h4 a0 a1 a2 out_4 d_4 i_4) (pl_h4 a0 a1 a2 R16 d_4 (i_4+1)):=by
 have C1_:i_4<a0.1.length:=by omega
 obtain ⟨EL2,EG2⟩:=List.getElem?_eq_some_iff.1 E2
 have C3_:(v3==a1)=false:=by simpa using C3
 have C3_n:(v3 !=a1)=true:=by simpa using C3
 have W7_:IntKind.i64.wrap ((i_4:Int)+1)=(i_4:Int)+1:=wr64 W7.1 W7.2
 unfold Cont
 simp+decide [pl_h4,loopsOf, Tryz.f86,pl_C4,C1,C1_,EL2,EG2,E2,C3_,C3_n,C4,C5,K6,W7_]
theorem pl_r4_10(C3:¬v3=a1)(C4:d_4=true)(K5:runL n 81 [.own 0 out_4.length,.agg [.lit (.int .i64 v3),.lit (.bool (rawQ q3).s),natA (rawQ q3).l1,natA (rawQ q3).l2]] [.row 68 4 (out_4.map termC) 0]=some (.own 3 R17.length,[(3,.row 68 4 (R17.map termC) 0)]))(W6:InI ((i_4:Int)+1)):
  Cont 0 (exec Tryz.prog (tab (n+1)) 0 61 (livesOf 86) big pl_C4) (livesOf 86 4) (pl_h4 a0 a1 a2 out_4 d_4 i_4) (pl_h4 a0 a1 a2 R17 d_4 (i_4+1)):=by
 have C1_:i_4<a0.1.length:=by omega
 obtain ⟨EL2,EG2⟩:=List.getElem?_eq_some_iff.1 E2
 have C3_:(v3==a1)=false:=by simpa using C3
 have C3_n:(v3 !=a1)=true:=by simpa using C3
 have W6_:IntKind.i64.wrap ((i_4:Int)+1)=(i_4:Int)+1:=wr64 W6.1 W6.2
 unfold Cont
 simp+decide [pl_h4,loopsOf, Tryz.f86,pl_C4,C1,C1_,EL2,EG2,E2,C3_,C3_n,C4,K5,W6_]
end
theorem pl_x4_1(C1:¬(i_4:Int)<(a0.1.length:Int)):
  Leave 0 (exec Tryz.prog (tab (n+1)) 0 61 (livesOf 86) big pl_C4) (livesOf 86 (outOf 4)) (pl_h4 a0 a1 a2 out_4 d_4 i_4) (.exit 0) (pl_o4a a0 a1 a2 out_4 d_4):=by
 have C1_:¬i_4<a0.1.length:=by omega
 unfold Leave
 simp+decide [pl_h4,loopsOf, Tryz.f86,pl_o4a,pl_C4,C1,C1_]
section
variable(L1:loopG Tryz.prog (tab (n+1)) 0 61 (livesOf 86) 4 pl_C4 (pl_h4 a0 a1 a2 [] false 0)=some (.exit 0,pl_o4a a0 a1 a2 out_4 d_4))
include L1
theorem pl_f1(C2:d_4=false)(B3a:H a2≤17179869184)(K4:runL n 81 [.own 0 out_4.length,.agg [.lit (.int .i64 a1),.lit (.bool (rawQ a2).s),natA (rawQ a2).l1,natA (rawQ a2).l2]] [.row 68 4 (out_4.map termC) 0]=some (.own 0 out_4.length,[(0,.row 68 4 (out_4.map termC) 0)])):
  run (n+1) 86 [formV a0,.lit (.int .i64 a1),ratV a2]=some (formV (out_4,a0.2)):=by
 have K3:=r_canon (p:=a2) B3a
 unfold run fnP
 simp+decide [Tryz.f86,C2,K3,K4]
 rw [loopX_G (C':=pl_C4) (e:=(pl_h4 a0 a1 a2 [] false 0)) ?_ ?_,L1]
 rotate_left
 ·kernel_rfl
 ·simp+decide [pl_h4,C2,K3,K4]
 simp+decide [pl_o4a,C2,K3,K4]
theorem pl_f2(C2:d_4=false)(B3a:H a2≤17179869184)(K4:runL n 81 [.own 0 out_4.length,.agg [.lit (.int .i64 a1),.lit (.bool (rawQ a2).s),natA (rawQ a2).l1,natA (rawQ a2).l2]] [.row 68 4 (out_4.map termC) 0]=some (.own 3 R18.length,[(3,.row 68 4 (R18.map termC) 0)])):
  run (n+1) 86 [formV a0,.lit (.int .i64 a1),ratV a2]=some (formV (R18,a0.2)):=by
 have K3:=r_canon (p:=a2) B3a
 unfold run fnP
 simp+decide [Tryz.f86,C2,K3,K4]
 rw [loopX_G (C':=pl_C4) (e:=(pl_h4 a0 a1 a2 [] false 0)) ?_ ?_,L1]
 rotate_left
 ·kernel_rfl
 ·simp+decide [pl_h4,C2,K3,K4]
 simp+decide [pl_o4a,C2,K3,K4]
theorem pl_f3(C2:d_4=true):
  run (n+1) 86 [formV a0,.lit (.int .i64 a1),ratV a2]=some (formV (out_4,a0.2)):=by
 unfold run fnP
 simp+decide [Tryz.f86,C2]
 rw [loopX_G (C':=pl_C4) (e:=(pl_h4 a0 a1 a2 [] false 0)) ?_ ?_,L1]
 rotate_left
 ·kernel_rfl
 ·simp+decide [pl_h4,C2]
 simp+decide [pl_o4a,C2]
end
end
end
section
open Go.RowKit
noncomputable def ad_C3:Code:=(loopsOf (bodyOf Tryz.f50)).getD 0 .skip
def ad_h3(a1:Form)(i_3:Nat)(l_3:List (Int × Rat))(s_3:Rat):St:=
 ⟨[(3,.ptr 0 0),(4,.ptr 1 0),(5,.ptr 2 0),(6,.lit (.int .i64 (i_3:Int)))],
  [(0,some (.box 28 [.sl 4 (a1.1.map termC),.lit (.bool (rawQ a1.2).s),natA (rawQ a1.2).l1,natA (rawQ a1.2).l2] false)),
   (1,some (.box 28 [.nl 4,.lit (.bool false),.nl 1,.nl 1] false)),
   (2,some (.box 28 [.sl 4 (l_3.map termC),.lit (.bool (rawQ s_3).s),natA (rawQ s_3).l1,natA (rawQ s_3).l2] false))],3⟩
def ad_o3a(l_3:List (Int × Rat))(s_3:Rat):St:=
 ⟨[(4,.ptr 0 0),(5,.ptr 1 0)],
  [(0,some (.box 28 [.nl 4,.lit (.bool false),.nl 1,.nl 1] false)),
   (1,some (.box 28 [.sl 4 (l_3.map termC),.lit (.bool (rawQ s_3).s),natA (rawQ s_3).l1,natA (rawQ s_3).l2] false))],2⟩
section
variable{a1:Form}{v3:Int}{n:Nat}{l_3:List (Int × Rat)}{s_3:Rat}{q3:Rat}{i_3:Nat}{r3:Form}{a0:Form}
theorem ad_r3_1(C1:(i_3:Int)<(a1.1.length:Int))(E2:a1.1[i_3]?=some (v3,q3))(K3:run (n+1) 86 [formV (l_3,s_3),.lit (.int .i64 v3),ratV q3]=some (formV r3))(W4:InI ((i_3:Int)+1)):
  Cont 0 (exec Tryz.prog (tab (n+2)) 0 43 (livesOf 50) big ad_C3) (livesOf 50 3) (ad_h3 a1 i_3 l_3 s_3) (ad_h3 a1 (i_3+1) r3.1 r3.2):=by
 have C1_:i_3<a1.1.length:=by omega
 obtain ⟨EL2,EG2⟩:=List.getElem?_eq_some_iff.1 E2
 simp only [ratV,formV] at K3
 have W4_:IntKind.i64.wrap ((i_3:Int)+1)=(i_3:Int)+1:=wr64 W4.1 W4.2
 unfold Cont
 simp+decide [ad_h3,loopsOf, Tryz.f50,ad_C3,C1,C1_,EL2,EG2,E2,K3,W4_]
theorem ad_x3_1(C1:¬(i_3:Int)<(a1.1.length:Int)):
  Leave 0 (exec Tryz.prog (tab (n+2)) 0 43 (livesOf 50) big ad_C3) (livesOf 50 (outOf 3)) (ad_h3 a1 i_3 l_3 s_3) (.exit 0) (ad_o3a l_3 s_3):=by
 have C1_:¬i_3<a1.1.length:=by omega
 unfold Leave
 simp+decide [ad_h3,loopsOf, Tryz.f50,ad_o3a,ad_C3,C1,C1_]
theorem ad_f1(B1a:H a0.2≤17179869184)(B1b:H a1.2≤17179869184)(L2:loopG Tryz.prog (tab (n+2)) 0 43 (livesOf 50) 3 ad_C3 (ad_h3 a1 0 a0.1 (a0.2+a1.2))=some (.exit 0,ad_o3a l_3 s_3))(M3:l_3.length≤100000000):
  run (n+2) 50 [formV a0,formV a1]=some (formV (l_3,s_3)):=by
 have K1:=r_add (p:=a0.2) (q:=a1.2) B1a B1b
 have M3_:∀b,b≤10000→roomy (l_3.length) b=true:=fun b hb=>roomy_s M3 hb
 unfold run fnP
 simp+decide [Tryz.f50,K1,M3_]
 rw [loopX_G (C':=ad_C3) (e:=(ad_h3 a1 0 a0.1 (a0.2+a1.2))) ?_ ?_,L2]
 rotate_left
 ·kernel_rfl
 ·simp+decide [ad_h3,K1,M3_]
 simp+decide [ad_o3a,K1,M3_]
end
noncomputable def sc_C3:Code:=(loopsOf (bodyOf Tryz.f41)).getD 0 .skip
def sc_h3(a0:Form)(a1:Rat)(i_3:Nat)(out_3:List (Int × Rat)):St:=
 ⟨[(2,.ptr 0 0),(3,.ptr 1 0),(4,.ptr 2 0),(5,.ptr 3 0),(6,.lit (.int .i64 (i_3:Int)))],
  [(0,some (.box 28 [.sl 4 (a0.1.map termC),.lit (.bool (rawQ a0.2).s),natA (rawQ a0.2).l1,natA (rawQ a0.2).l2] false)),
   (1,some (.box 26 [.lit (.bool (rawQ a1).s),natA (rawQ a1).l1,natA (rawQ a1).l2] false)),
   (2,some (.box 28 [.nl 4,.lit (.bool false),.nl 1,.nl 1] false)),
   (3,some (.box 28 [.own 4 out_3.length,.lit (.bool (rawQ (a0.2*a1)).s),natA (rawQ (a0.2*a1)).l1,natA (rawQ (a0.2*a1)).l2] false)),
   (4,some (.row 68 4 (out_3.map termC) 0))],5⟩
def sc_o3a(a0:Form)(a1:Rat)(out_3:List (Int × Rat)):St:=
 ⟨[(4,.ptr 0 0),(5,.ptr 1 0)],
  [(0,some (.box 28 [.nl 4,.lit (.bool false),.nl 1,.nl 1] false)),
   (1,some (.box 28 [.own 2 out_3.length,.lit (.bool (rawQ (a0.2*a1)).s),natA (rawQ (a0.2*a1)).l1,natA (rawQ (a0.2*a1)).l2] false)),
   (2,some (.row 68 4 (out_3.map termC) 0))],3⟩
section
variable{a1:Rat}{v3:Int}{n:Nat}{out_3:List (Int × Rat)}{a0:Form}{q3:Rat}{i_3:Nat}{R3:List (Int × Rat)}
section
variable(C1:(i_3:Int)<(a0.1.length:Int))(E2:a0.1[i_3]?=some (v3,q3))(B3a:H q3≤17179869184)(B3b:H a1≤17179869184)
include C1 E2 B3a B3b
theorem sc_r3_1(K4:runL n 81 [.own 0 out_3.length,.agg [.lit (.int .i64 v3),.lit (.bool (rawQ (q3*a1)).s),natA (rawQ (q3*a1)).l1,natA (rawQ (q3*a1)).l2]] [.row 68 4 (out_3.map termC) 0]=some (.own 0 out_3.length,[(0,.row 68 4 (out_3.map termC) 0)]))(W5:InI ((i_3:Int)+1)):
  Cont 0 (exec Tryz.prog (tab (n+1)) 0 39 (livesOf 41) big sc_C3) (livesOf 41 3) (sc_h3 a0 a1 i_3 out_3) (sc_h3 a0 a1 (i_3+1) out_3):=by
 have C1_:i_3<a0.1.length:=by omega
 obtain ⟨EL2,EG2⟩:=List.getElem?_eq_some_iff.1 E2
 have K3:=r_mul (p:=q3) (q:=a1) B3a B3b
 have W5_:IntKind.i64.wrap ((i_3:Int)+1)=(i_3:Int)+1:=wr64 W5.1 W5.2
 unfold Cont
 simp+decide [sc_h3,loopsOf, Tryz.f41,sc_C3,C1,C1_,EL2,EG2,E2,K3,K4,W5_]
theorem sc_r3_2(K4:runL n 81 [.own 0 out_3.length,.agg [.lit (.int .i64 v3),.lit (.bool (rawQ (q3*a1)).s),natA (rawQ (q3*a1)).l1,natA (rawQ (q3*a1)).l2]] [.row 68 4 (out_3.map termC) 0]=some (.own 3 R3.length,[(3,.row 68 4 (R3.map termC) 0)]))(W5:InI ((i_3:Int)+1)):
  Cont 0 (exec Tryz.prog (tab (n+1)) 0 39 (livesOf 41) big sc_C3) (livesOf 41 3) (sc_h3 a0 a1 i_3 out_3) (sc_h3 a0 a1 (i_3+1) R3):=by
 have C1_:i_3<a0.1.length:=by omega
 obtain ⟨EL2,EG2⟩:=List.getElem?_eq_some_iff.1 E2
 have K3:=r_mul (p:=q3) (q:=a1) B3a B3b
 have W5_:IntKind.i64.wrap ((i_3:Int)+1)=(i_3:Int)+1:=wr64 W5.1 W5.2
 unfold Cont
 simp+decide [sc_h3,loopsOf, Tryz.f41,sc_C3,C1,C1_,EL2,EG2,E2,K3,K4,W5_]
end
theorem sc_x3_1(C1:¬(i_3:Int)<(a0.1.length:Int)):
  Leave 0 (exec Tryz.prog (tab (n+1)) 0 39 (livesOf 41) big sc_C3) (livesOf 41 (outOf 3)) (sc_h3 a0 a1 i_3 out_3) (.exit 0) (sc_o3a a0 a1 out_3):=by
 have C1_:¬i_3<a0.1.length:=by omega
 unfold Leave
 simp+decide [sc_h3,loopsOf, Tryz.f41,sc_o3a,sc_C3,C1,C1_]
theorem sc_f1(B1a:H a0.2≤17179869184)(B1b:H a1≤17179869184)(L2:loopG Tryz.prog (tab (n+1)) 0 39 (livesOf 41) 3 sc_C3 (sc_h3 a0 a1 0 [])=some (.exit 0,sc_o3a a0 a1 out_3)):
  run (n+1) 41 [formV a0,ratV a1]=some (formV (out_3,a0.2*a1)):=by
 have K1:=r_mul (p:=a0.2) (q:=a1) B1a B1b
 unfold run fnP
 simp+decide [Tryz.f41,K1]
 rw [loopX_G (C':=sc_C3) (e:=(sc_h3 a0 a1 0 [])) ?_ ?_,L2]
 rotate_left
 ·kernel_rfl
 ·simp+decide [sc_h3,K1]
 simp+decide [sc_o3a,K1]
end
end
section
open Go.RowKit
theorem nz_same{n:Nat}{F:List (Int × Rat)}{v:Int}{q:Rat}(hq:H q≤17179869184)(h0:q=0):
  runL n 81 [.own 0 F.length,.agg [.lit (.int .i64 v),.lit (.bool (rawQ q).s),natA (rawQ q).l1,natA (rawQ q).l2]] [.row 68 4 (F.map termC) 0]=some (.own 0 F.length,[(0,.row 68 4 (F.map termC) 0)]):=by
 unfold runL fnL
 have hs:=r_sign (p:=q) hq
 have e2:(sgR q==0)=true:=by rw [sgR_eq_zero.2 h0];rfl
 simp+decide [Tryz.f81,hs,e2]
theorem nz_new{n:Nat}{F:List (Int × Rat)}{v:Int}{q:Rat}(hq:H q≤17179869184)(h0:q≠0)(hF:F.length≤10000000):
  runL n 81 [.own 0 F.length,.agg [.lit (.int .i64 v),.lit (.bool (rawQ q).s),natA (rawQ q).l1,natA (rawQ q).l2]] [.row 68 4 (F.map termC) 0]=some (.own 3 (F++[(v,q)]).length,[(3,.row 68 4 ((F++[(v,q)]).map termC) 0)]):=by
 unfold runL fnL
 have hs:=r_sign (p:=q) hq
 have e2:(sgR q==0)=false:=by simpa using fun h=>h0 (sgR_eq_zero.1 h)
 have hr:∀b,b≤10000→roomy (F.length+1) b=true:=fun b hb=>roomy_s (by omega) hb
 simp+decide [Tryz.f81,hs,e2,hr]
def plF(v:Int)(c:Rat)(i:Nat)(b:List (Int × Rat) × Bool)(t:Int × Rat):List (Int × Rat) × Bool:=
 if t.1=v then (b.1++put1 t.1 (t.2+c),true) else if b.2=false∧v<t.1 then (b.1++(put1 v c++put1 t.1 t.2),true) else (b.1++put1 t.1 t.2,b.2)
theorem plF_fold(v:Int)(c:Rat):∀(R:List (Int × Rat)) (i:Nat) (out:List (Int × Rat)) (d:Bool),foldI (plF v c) i (out,d) R=(out++plO d R v c,plD d R v)
 | [],i,out,d=>by simp [foldI,plO,plD]
 | t::R,i,out,d=>by
   rw [foldI,plO,plD,plF]
   split
   ·rw [plF_fold];simp [List.append_assoc]
   ·split
    ·rw [plF_fold];simp [List.append_assoc]
    ·rw [plF_fold];simp [List.append_assoc]
theorem pl_step{n:Nat}{f:Form}{v:Int}{c:Rat}(hT:TmB 1000000 f.1)(hF:f.1.length≤400000)(hc:H c≤1000000){i:Nat}{t:Int × Rat}{b:List (Int × Rat) × Bool}(hi:f.1[i]?=some t)(hb:b.1.length≤2*i):
  Cont 0 (exec Tryz.prog (tab (n+1)) 0 61 (livesOf 86) big pl_C4) (livesOf 86 4) (pl_h4 f v c b.1 b.2 i) (pl_h4 f v c (plF v c i b t).1 (plF v c i b t).2 (i+1)):=by
 obtain ⟨u,q⟩:=t
 obtain ⟨out,d⟩:=b
 have hlt:=(List.getElem?_eq_some_iff.1 hi).1
 have ht:=hT _ (List.mem_of_getElem? hi)
 have hq:H q≤1000000:=ht.2
 have hq0:q≠0:=ht.1
 have hH:=H_add q c
 have C1:(i:Int)<(f.1.length:Int):=by omega
 have W:InI ((i:Int)+1):=⟨by omega,by omega⟩
 have hb:out.length≤2*i:=hb
 have e3:put1 u q=[(u,q)]:=if_neg hq0
 unfold plF
 dsimp only
 split
 ·rename_i e
  by_cases h0:q+c=0
  ·have e4:put1 u (q+c)=[]:=if_pos h0
   rw [e4,List.append_nil]
   exact pl_r4_1 C1 hi e (by omega) (by omega) (nz_same (by omega) h0) W
  ·have e4:put1 u (q+c)=[(u,q+c)]:=if_neg h0
   rw [e4]
   exact pl_r4_2 C1 hi e (by omega) (by omega) (nz_new (by omega) h0 (by omega)) W
 ·rename_i e
  split
  ·rename_i e2
   obtain ⟨e2,e5⟩:=e2
   rw [e3]
   by_cases h0:c=0
   ·have e4:put1 v c=[]:=if_pos h0
    rw [e4,List.nil_append]
    exact pl_r4_4 C1 hi e e2 e5 (by omega) (nz_same (by omega) h0) (nz_new (by omega) hq0 (by omega)) W
   ·have e4:put1 v c=[(v,c)]:=if_neg h0
    rw [e4,←List.append_assoc]
    exact pl_r4_6 C1 hi e e2 e5 (by omega) (nz_new (by omega) h0 (by omega)) (nz_new (by omega) hq0 (by rw [List.length_append];simp;omega)) W
  ·rename_i e2
   rw [e3]
   cases d with
   | true=>exact pl_r4_10 C1 hi e rfl (nz_new (by omega) hq0 (by omega)) W
   | false=>exact pl_r4_8 C1 hi e rfl (fun h=>e2 ⟨rfl,h⟩) (nz_new (by omega) hq0 (by omega)) W
theorem plF_len(v:Int)(c:Rat)(i:Nat)(b:List (Int × Rat) × Bool)(t:Int × Rat):(plF v c i b t).1.length≤b.1.length+2:=by
 have h1:=put1_len t.1 (t.2+c)
 have h2:=put1_len v c
 have h3:=put1_len t.1 t.2
 unfold plF
 split
 ·rw [List.length_append];omega
 ·split
  ·rw [List.length_append,List.length_append];omega
  ·rw [List.length_append];omega
theorem plus_c{n:Nat}{f:Form}{v:Int}{c:Rat}(hT:TmB 1000000 f.1)(hF:f.1.length≤400000)(hc:H c≤1000000):
  run (n+1) 86 [formV f,.lit (.int .i64 v),ratV c]=some (formV (plusV false f.1 v c,f.2)):=by
 have L:loopG Tryz.prog (tab (n+1)) 0 61 (livesOf 86) 4 pl_C4 (pl_h4 f v c [] false 0)=some (.exit 0,pl_o4a f v c (plO false f.1 v c) (plD false f.1 v)):=by
  have h:=(loopG_I (O:=tab (n+1)) (exN:=.exit 0) (L:=f.1) (enc:=fun i b=>pl_h4 f v c b.1 b.2 i) (f:=plF v c) (Inv:=fun i b=>b.1.length≤2*i) (out:=fun b=>pl_o4a f v c b.1 b.2) ([],false) (by simp) (by omega) (by simp)
   (fun i t b hi hI=>⟨pl_step hT hF hc hi hI,by have:=plF_len v c i b t;omega⟩) (fun b hI=>pl_x4_1 (by omega))).1
  rw [plF_fold] at h
  exact h
 have hl:=plO_len v c false f.1
 rw [plusV_plO]
 cases hd:plD false f.1 v with
 | true=>
   rw [hd] at L
   rw [if_pos rfl,List.append_nil]
   exact pl_f3 L rfl
 | false=>
   rw [hd] at L
   rw [if_neg (by simp)]
   by_cases h0:c=0
   ·have e:put1 v c=[]:=if_pos h0
    rw [e,List.append_nil]
    exact pl_f1 L rfl (by omega) (nz_same (by omega) h0)
   ·have e:put1 v c=[(v,c)]:=if_neg h0
    rw [e]
    exact pl_f2 L rfl (by omega) (nz_new (by omega) h0 (by omega))
theorem scale_c{n:Nat}{f:Form}{c:Rat}(hT:TmB 1000000 f.1)(hF:f.1.length≤400000)(hk:H f.2≤1000000)(hc:H c≤1000000):
  run (n+1) 41 [formV f,ratV c]=some (formV (sclV f.1 c,f.2*c)):=by
 have key:∀(R:List (Int × Rat)) (i:Nat) (o:List (Int × Rat)),foldI (fun _ b (t:Int × Rat)=>b++put1 t.1 (t.2*c)) i o R=o++sclV R c:=fun R=>by
  induction R with
  | nil=>intro i o;simp [foldI,sclV]
  | cons t R ih=>intro i o;rw [foldI,ih];simp [sclV,List.append_assoc]
 refine sc_f1 (by omega) (by omega) ?_
 have h:=(loopG_I (O:=tab (n+1)) (exN:=.exit 0) (L:=f.1) (enc:=fun i b=>sc_h3 f c i b) (f:=fun _ b (t:Int × Rat)=>b++put1 t.1 (t.2*c)) (Inv:=fun i b=>b.length≤i) (out:=fun b=>sc_o3a f c b) [] (by simp) (by omega) (by simp)
  (fun i t b hi hI=>by
   obtain ⟨u,q⟩:=t
   have hlt:=(List.getElem?_eq_some_iff.1 hi).1
   have hq:H q≤1000000:=(hT _ (List.mem_of_getElem? hi)).2
   have hm:=H_mul q c
   have C1:(i:Int)<(f.1.length:Int):=by omega
   have W:InI ((i:Int)+1):=⟨by omega,by omega⟩
   have hl:=put1_len u (q*c)
   refine ⟨?_,by rw [List.length_append];dsimp only;omega⟩
   dsimp only
   by_cases h0:q*c=0
   ·have e:put1 u (q*c)=[]:=if_pos h0
    rw [e,List.append_nil]
    exact sc_r3_1 C1 hi (by omega) (by omega) (nz_same (by omega) h0) W
   ·have e:put1 u (q*c)=[(u,q*c)]:=if_neg h0
    rw [e]
    exact sc_r3_2 C1 hi (by omega) (by omega) (nz_new (by omega) h0 (by omega)) W) (fun b hI=>sc_x3_1 (by omega))).1
 rw [key,List.nil_append] at h
 exact h
theorem add_c{n:Nat}{f g:Form}{m b:Nat}(hT:TmB b g.1)(hG:g.1.length≤200000)(hF:TmB m f.1)(hl:f.1.length≤200000)(hm:m+(b+1)*(g.1.length+1)≤1000000)(h1:H f.2≤1000000)(h2:H g.2≤1000000):
  run (n+2) 50 [formV f,formV g]=some (formV (addV f.1 g.1,f.2+g.2)):=by
 have key:∀(R:List (Int × Rat)) (i:Nat) (o:List (Int × Rat)),foldI (fun _ b (t:Int × Rat)=>plusV false b t.1 t.2) i o R=addV o R:=fun R=>by
  induction R with
  | nil=>intro i o;rfl
  | cons t R ih=>intro i o;rw [foldI,ih];rfl
 have hlen:∀(R o:List (Int × Rat)),(addV o R).length≤o.length+R.length:=fun R=>by
  induction R with
  | nil=>intro o;simp [addV]
  | cons t R ih=>
    intro o
    have h1:=ih (plusV false o t.1 t.2)
    have h2:=plusV_len false o t.1 t.2
    show (addV (plusV false o t.1 t.2) R).length≤_
    rw [List.length_cons];omega
 refine ad_f1 (by omega) (by omega) ?_ (by have:=hlen g.1 f.1;omega)
 have h:=(loopG_I (O:=tab (n+2)) (exN:=.exit 0) (L:=g.1) (enc:=fun i o=>ad_h3 g i o (f.2+g.2)) (f:=fun _ o (t:Int × Rat)=>plusV false o t.1 t.2) (Inv:=fun i o=>o.length≤f.1.length+i∧TmB (m+(b+1)*i) o∧i≤g.1.length) (out:=fun o=>ad_o3a o (f.2+g.2)) f.1 ⟨by omega,by simpa using hF,by omega⟩ (by omega) (by simp)
  (fun i t o hi hI=>by
   obtain ⟨u,q⟩:=t
   obtain ⟨hI1,hI2,hI3⟩:=hI
   have hlt:=(List.getElem?_eq_some_iff.1 hi).1
   have hq:H q≤b:=(hT _ (List.mem_of_getElem? hi)).2
   have C1:(i:Int)<(g.1.length:Int):=by omega
   have W:InI ((i:Int)+1):=⟨by omega,by omega⟩
   have hl2:=plusV_len false o u q
   have hmi:(b+1)*i≤(b+1)*(g.1.length+1):=Nat.mul_le_mul_left _ (by omega)
   have hb1:b+1≤(b+1)*(g.1.length+1):=Nat.le_mul_of_pos_right _ (by omega)
   have e:m+(b+1)*(i+1)=m+(b+1)*i+b+1:=by rw [Nat.mul_succ];omega
   refine ⟨ad_r3_1 (r3:=(plusV false o u q,f.2+g.2)) C1 hi (plus_c (f:=(o,f.2+g.2)) (hI2.mono (by omega)) (by dsimp only;omega) (by omega)) W,by dsimp only;omega,?_,hlt⟩
   rw [e]
   exact hI2.plus hq) (fun b hI=>ad_x3_1 (by omega))).1
 rw [key] at h
 exact h
end
section
open Go.RowKit
noncomputable def va_C2:Code:=(loopsOf (bodyOf Tryz.f21)).getD 0 .skip
def va_h2(a0:Form)(a1:Int)(i_2:Nat):St:=
 ⟨[(1,.lit (.int .i64 a1)),(2,.ptr 0 0),(5,.lit (.int .i64 (i_2:Int)))],
  [(0,some (.box 28 [.sl 4 (a0.1.map termC),.lit (.bool (rawQ a0.2).s),natA (rawQ a0.2).l1,natA (rawQ a0.2).l2] false))],1⟩
def va_o2a(a0:Form):St:=
 ⟨[(2,.ptr 0 0),(4,.lit (.bool false))],
  [(0,some (.box 28 [.sl 4 (a0.1.map termC),.lit (.bool (rawQ a0.2).s),natA (rawQ a0.2).l1,natA (rawQ a0.2).l2] false))],1⟩
def va_o2b(a0:Form):St:=
 ⟨[(2,.ptr 0 0),(4,.any)],
  [(0,some (.box 28 [.sl 4 (a0.1.map termC),.lit (.bool (rawQ a0.2).s),natA (rawQ a0.2).l1,natA (rawQ a0.2).l2] false))],1⟩
section
variable {a1 : Int} {n : Nat} {a0 : Form} {q5 : Rat} {q4 : Rat} {v5 : Int} {v4 : Int} {i_2 : Nat}
section
variable(C1:(i_2:Int)<(a0.1.length:Int))(E2:a0.1[i_2]?=some (v4,q4))
include C1 E2
theorem va_r2_1(C3:¬v4<0)(C4:¬a1≤v4)(C5:0<(i_2:Int))(W6:InI ((i_2:Int)-1))(E7:a0.1[i_2-1]?=some (v5,q5))(Z7:1≤i_2)(C8:¬v4≤v5)(B9a:H q4≤17179869184)(C10:¬sgR q4=0)(W12:InI ((i_2:Int)+1)):
  Cont 0 (exec Tryz.prog (tab n) 0 59 (livesOf 21) big va_C2) (livesOf 21 2) (va_h2 a0 a1 i_2) (va_h2 a0 a1 (i_2+1)):=by
 have C1_:i_2<a0.1.length:=by omega
 obtain ⟨EL2,EG2⟩:=List.getElem?_eq_some_iff.1 E2
 have C5_:0<i_2:=by omega
 have C5_z:(i_2:Int)≠0:=by omega
 have C5_e:((i_2:Int)==0)=false:=by simpa using C5_z
 have C5_g:((i_2:Int) !=0)=true:=by simpa using C5_z
 have W6_:IntKind.i64.wrap ((i_2:Int)-1)=(i_2:Int)-1:=wr64 W6.1 W6.2
 obtain ⟨EL7,EG7⟩:=List.getElem?_eq_some_iff.1 E7
 have Z7_0:(1:Int)≤(i_2:Int):=by omega
 have Z7_1:0≤(i_2:Int)-1:=by omega
 have K9:=r_sign (p:=q4) B9a
 have C10_:(sgR q4==0)=false:=by simpa using C10
 have C10_n:(sgR q4 !=0)=true:=by simpa using C10
 have K11:=r_valid (p:=q4) B9a
 have W12_:IntKind.i64.wrap ((i_2:Int)+1)=(i_2:Int)+1:=wr64 W12.1 W12.2
 unfold Cont
 simp+decide [va_h2,loopsOf, Tryz.f21,va_C2,C1,C1_,EL2,EG2,E2,C3,C4,C5,C5_,C5_e,C5_g,W6_,EL7,EG7,E7,Z7,Z7_0,Z7_1,C8,K9,C10_,C10_n,K11,W12_]
theorem va_r2_2(C3:¬v4<0)(C4:¬a1≤v4)(C5:¬0<(i_2:Int))(B6a:H q4≤17179869184)(C7:¬sgR q4=0)(W9:InI ((i_2:Int)+1)):
  Cont 0 (exec Tryz.prog (tab n) 0 59 (livesOf 21) big va_C2) (livesOf 21 2) (va_h2 a0 a1 i_2) (va_h2 a0 a1 (i_2+1)):=by
 have C1_:i_2<a0.1.length:=by omega
 obtain ⟨EL2,EG2⟩:=List.getElem?_eq_some_iff.1 E2
 have C5_:¬0<i_2:=by omega
 have C5_z:(i_2:Int)=0:=by omega
 have C5_e:((i_2:Int)==0)=true:=by rw [C5_z];simp
 have C5_g:((i_2:Int) !=0)=false:=by rw [C5_z];simp
 have K6:=r_sign (p:=q4) B6a
 have C7_:(sgR q4==0)=false:=by simpa using C7
 have C7_n:(sgR q4 !=0)=true:=by simpa using C7
 have K8:=r_valid (p:=q4) B6a
 have W9_:IntKind.i64.wrap ((i_2:Int)+1)=(i_2:Int)+1:=wr64 W9.1 W9.2
 unfold Cont
 simp+decide [va_h2,loopsOf, Tryz.f21,va_C2,C1,C1_,EL2,EG2,E2,C3,C4,C5,C5_,C5_e,C5_g,K6,C7_,C7_n,K8,W9_]
theorem va_x2_1(C3:v4<0):
  Leave 0 (exec Tryz.prog (tab n) 0 59 (livesOf 21) big va_C2) (livesOf 21 (outOf 2)) (va_h2 a0 a1 i_2) (.ret) (va_o2a a0):=by
 have C1_:i_2<a0.1.length:=by omega
 obtain ⟨EL2,EG2⟩:=List.getElem?_eq_some_iff.1 E2
 unfold Leave
 simp+decide [va_h2,loopsOf, Tryz.f21,va_o2a,va_C2,C1,C1_,EL2,EG2,E2,C3]
theorem va_x2_2(C3:¬v4<0)(C4:a1≤v4):
  Leave 0 (exec Tryz.prog (tab n) 0 59 (livesOf 21) big va_C2) (livesOf 21 (outOf 2)) (va_h2 a0 a1 i_2) (.ret) (va_o2a a0):=by
 have C1_:i_2<a0.1.length:=by omega
 obtain ⟨EL2,EG2⟩:=List.getElem?_eq_some_iff.1 E2
 unfold Leave
 simp+decide [va_h2,loopsOf, Tryz.f21,va_o2a,va_C2,C1,C1_,EL2,EG2,E2,C3,C4]
theorem va_x2_3(C3:¬v4<0)(C4:¬a1≤v4)(C5:0<(i_2:Int))(W6:InI ((i_2:Int)-1))(E7:a0.1[i_2-1]?=some (v5,q5))(Z7:1≤i_2)(C8:v4≤v5):
  Leave 0 (exec Tryz.prog (tab n) 0 59 (livesOf 21) big va_C2) (livesOf 21 (outOf 2)) (va_h2 a0 a1 i_2) (.ret) (va_o2a a0):=by
 have C1_:i_2<a0.1.length:=by omega
 obtain ⟨EL2,EG2⟩:=List.getElem?_eq_some_iff.1 E2
 have C5_:0<i_2:=by omega
 have C5_z:(i_2:Int)≠0:=by omega
 have C5_e:((i_2:Int)==0)=false:=by simpa using C5_z
 have C5_g:((i_2:Int) !=0)=true:=by simpa using C5_z
 have W6_:IntKind.i64.wrap ((i_2:Int)-1)=(i_2:Int)-1:=wr64 W6.1 W6.2
 obtain ⟨EL7,EG7⟩:=List.getElem?_eq_some_iff.1 E7
 have Z7_0:(1:Int)≤(i_2:Int):=by omega
 have Z7_1:0≤(i_2:Int)-1:=by omega
 unfold Leave
 simp+decide [va_h2,loopsOf, Tryz.f21,va_o2a,va_C2,C1,C1_,EL2,EG2,E2,C3,C4,C5,C5_,C5_e,C5_g,W6_,EL7,EG7,E7,Z7,Z7_0,Z7_1,C8]
theorem va_x2_4(C3:¬v4<0)(C4:¬a1≤v4)(C5:0<(i_2:Int))(W6:InI ((i_2:Int)-1))(E7:a0.1[i_2-1]?=some (v5,q5))(Z7:1≤i_2)(C8:¬v4≤v5)(B9a:H q4≤17179869184)(C10:sgR q4=0):
  Leave 0 (exec Tryz.prog (tab n) 0 59 (livesOf 21) big va_C2) (livesOf 21 (outOf 2)) (va_h2 a0 a1 i_2) (.ret) (va_o2a a0):=by
 have C1_:i_2<a0.1.length:=by omega
 obtain ⟨EL2,EG2⟩:=List.getElem?_eq_some_iff.1 E2
 have C5_:0<i_2:=by omega
 have C5_z:(i_2:Int)≠0:=by omega
 have C5_e:((i_2:Int)==0)=false:=by simpa using C5_z
 have C5_g:((i_2:Int) !=0)=true:=by simpa using C5_z
 have W6_:IntKind.i64.wrap ((i_2:Int)-1)=(i_2:Int)-1:=wr64 W6.1 W6.2
 obtain ⟨EL7,EG7⟩:=List.getElem?_eq_some_iff.1 E7
 have Z7_0:(1:Int)≤(i_2:Int):=by omega
 have Z7_1:0≤(i_2:Int)-1:=by omega
 have K9:=r_sign (p:=q4) B9a
 have C10_:(sgR q4==0)=true:=by rw [C10];simp
 have C10_n:(sgR q4 !=0)=false:=by rw [C10];simp
 unfold Leave
 simp+decide [va_h2,loopsOf, Tryz.f21,va_o2a,va_C2,C1,C1_,EL2,EG2,E2,C3,C4,C5,C5_,C5_e,C5_g,W6_,EL7,EG7,E7,Z7,Z7_0,Z7_1,C8,K9,C10_,C10_n]
theorem va_x2_5(C3:¬v4<0)(C4:¬a1≤v4)(C5:¬0<(i_2:Int))(B6a:H q4≤17179869184)(C7:sgR q4=0):
  Leave 0 (exec Tryz.prog (tab n) 0 59 (livesOf 21) big va_C2) (livesOf 21 (outOf 2)) (va_h2 a0 a1 i_2) (.ret) (va_o2a a0):=by
 have C1_:i_2<a0.1.length:=by omega
 obtain ⟨EL2,EG2⟩:=List.getElem?_eq_some_iff.1 E2
 have C5_:¬0<i_2:=by omega
 have C5_z:(i_2:Int)=0:=by omega
 have C5_e:((i_2:Int)==0)=true:=by rw [C5_z];simp
 have C5_g:((i_2:Int) !=0)=false:=by rw [C5_z];simp
 have K6:=r_sign (p:=q4) B6a
 have C7_:(sgR q4==0)=true:=by rw [C7];simp
 have C7_n:(sgR q4 !=0)=false:=by rw [C7];simp
 unfold Leave
 simp+decide [va_h2,loopsOf, Tryz.f21,va_o2a,va_C2,C1,C1_,EL2,EG2,E2,C3,C4,C5,C5_,C5_e,C5_g,K6,C7_,C7_n]
end
theorem va_x2_6(C1:¬(i_2:Int)<(a0.1.length:Int)):
  Leave 0 (exec Tryz.prog (tab n) 0 59 (livesOf 21) big va_C2) (livesOf 21 (outOf 2)) (va_h2 a0 a1 i_2) (.exit 0) (va_o2b a0):=by
 have C1_:¬i_2<a0.1.length:=by omega
 unfold Leave
 simp+decide [va_h2,loopsOf, Tryz.f21,va_o2b,va_C2,C1,C1_]
theorem va_f1(L1:loopG Tryz.prog (tab n) 0 59 (livesOf 21) 2 va_C2 (va_h2 a0 a1 0)=some (.ret,va_o2a a0)):
  run n 21 [formV a0,.lit (.int .i64 a1)]=some (.lit (.bool false)):=by
 unfold run fnP
 simp+decide [Tryz.f21]
 rw [loopX_G (C':=va_C2) (e:=(va_h2 a0 a1 0)) ?_ ?_,L1]
 rotate_left
 ·kernel_rfl
 ·simp+decide [va_h2]
 simp+decide [va_o2a]
theorem va_f2(L1:loopG Tryz.prog (tab n) 0 59 (livesOf 21) 2 va_C2 (va_h2 a0 a1 0)=some (.exit 0,va_o2b a0))(B2a:H a0.2≤17179869184):
  run n 21 [formV a0,.lit (.int .i64 a1)]=some (.lit (.bool true)):=by
 have K2:=r_valid (p:=a0.2) B2a
 unfold run fnP
 simp+decide [Tryz.f21,K2]
 rw [loopX_G (C':=va_C2) (e:=(va_h2 a0 a1 0)) ?_ ?_,L1]
 rotate_left
 ·kernel_rfl
 ·simp+decide [va_h2,K2]
 simp+decide [va_o2b,K2]
end
end
section
open Go.RowKit
attribute [local irreducible] run runL loopG exec
noncomputable def tv(p:Prop):Bool:=@decide p (Classical.propDecidable p)
theorem tv_t{p:Prop}(h:p):tv p=true:=@decide_eq_true p (Classical.propDecidable p) h
theorem tv_f{p:Prop}(h:¬p):tv p=false:=@decide_eq_false p (Classical.propDecidable p) h
theorem tv_true{p:Prop}(h:tv p=true):p:=@of_decide_eq_true p (Classical.propDecidable p) h
theorem tv_false{p:Prop}(h:tv p=false):¬p:=@of_decide_eq_false p (Classical.propDecidable p) h
def OkTm(F:List (Int × Rat))(vars:Int)(i:Nat):Prop:=∀v c,F[i]?=some (v,c)→0≤v∧v<vars∧c≠0∧∀v' c',0<i→F[i-1]?=some (v',c')→v'<v
def OkFm(f:Form)(vars:Int):Prop:=∀i,i<f.1.length→OkTm f.1 vars i
structure BdF (b:Nat) (f:Form):Prop where
 l:f.1.length≤100000000
 t:∀t∈f.1,H t.2≤b
 k:H f.2≤b
theorem BdF.mono{b c:Nat}{f:Form}(h:BdF b f)(hb:b≤c):BdF c f:=⟨h.l,fun t ht=>Nat.le_trans (h.t t ht) hb,Nat.le_trans h.k hb⟩
theorem validF_c{n:Nat}{f:Form}{vars:Int}(hB:BdF 17179869184 f):run n 21 [formV f,.lit (.int .i64 vars)]=some (.lit (.bool (tv (OkFm f vars)))):=by
 have hl:=hB.l
 have L:=loopG_all (O:=tab n) (P:= Tryz.prog) (m:=0) (N:=59) (lives:=livesOf 21) (r:=2) (C:=va_C2) (M:=f.1.length) (enc:=va_h2 f vars) (p:=fun i=>tv (OkTm f.1 vars i)) (exN:=.exit 0) (exE:=.ret) (out:=va_o2b f) (outE:=va_o2a f) (by omega) (by simp) (by simp)
  (fun i hi hI=>by
   have hx:f.1[i]?=some f.1[i]:=List.getElem?_eq_getElem hi
   generalize f.1[i]=t at hx
   obtain ⟨v,c⟩:=t
   have hc:H c≤17179869184:=hB.t _ (List.mem_of_getElem? hx)
   have C1:(i:Int)<(f.1.length:Int):=by omega
   have W:InI ((i:Int)+1):=⟨by omega,by omega⟩
   have W2:InI ((i:Int)-1):=⟨by omega,by omega⟩
   have hs:sgR c=0↔c=0:=sgR_eq_zero
   by_cases h0:0<i
   ·have hy:f.1[i-1]?=some (f.1[i-1]'(by omega)):=List.getElem?_eq_getElem _
    generalize f.1[i-1]'(by omega)=t at hy
    obtain ⟨v',c'⟩:=t
    refine ⟨fun hp=>?_,fun hp=>?_⟩
    ·obtain ⟨a1,a2,a3,a4⟩:=tv_true hp v c hx
     have a5:=a4 v' c' h0 hy
     exact va_r2_1 C1 hx (by omega) (by omega) (by omega) W2 hy (by omega) (by omega) hc (fun h=>a3 (hs.1 h)) W
    ·by_cases b1:v<0
     ·exact va_x2_1 C1 hx b1
     ·by_cases b2:vars≤v
      ·exact va_x2_2 C1 hx b1 b2
      ·by_cases b3:v≤v'
       ·exact va_x2_3 C1 hx b1 b2 (by omega) W2 hy (by omega) b3
       ·by_cases b4:c=0
        ·exact va_x2_4 C1 hx b1 b2 (by omega) W2 hy (by omega) b3 hc (hs.2 b4)
        ·refine absurd (fun u d hu=>?_) (tv_false hp)
         rw [hx] at hu;cases hu
         exact ⟨by omega,by omega,b4,fun v2 c2 _ h2=>by rw [hy] at h2;cases h2;omega⟩
   ·refine ⟨fun hp=>?_,fun hp=>?_⟩
    ·obtain ⟨a1,a2,a3,a4⟩:=tv_true hp v c hx
     exact va_r2_2 C1 hx (by omega) (by omega) (by omega) hc (fun h=>a3 (hs.1 h)) W
    ·by_cases b1:v<0
     ·exact va_x2_1 C1 hx b1
     ·by_cases b2:vars≤v
      ·exact va_x2_2 C1 hx b1 b2
      ·by_cases b4:c=0
       ·exact va_x2_5 C1 hx b1 b2 (by omega) hc (hs.2 b4)
       ·refine absurd (fun u d hu=>?_) (tv_false hp)
        rw [hx] at hu;cases hu
        exact ⟨by omega,by omega,b4,fun v2 c2 h2=>absurd h2 h0⟩)
  (va_x2_6 (by omega))
 by_cases h:OkFm f vars
 ·rw [if_pos (fun i hi=>tv_t (h i hi))] at L
  rw [tv_t h]
  exact va_f2 L hB.k
 ·rw [if_neg (fun h2=>h fun i hi=>tv_true (h2 i hi))] at L
  rw [tv_f h]
  exact va_f1 L
end
section
open Go.RowKit
attribute [local irreducible] run runL loopG exec
def evF(X:List Rat)(i:Nat)(s:Rat)(t:Int × Rat):Except Rat Rat:=
 if t.1<0∨(X.length:Int)≤t.1 then .error s else .ok (s+t.2*X.getD t.1.toNat 0)
theorem evF_ok{X:List Rat}:∀{F:List (Int × Rat)} (i:Nat) (s:Rat),(∀t∈F,0≤t.1∧t.1<(X.length:Int))→foldE (evF X) i s F=.ok (F.foldl (fun s t=>s+t.2*X.getD t.1.toNat 0) s)
 | [],i,s,_=>rfl
 | t::F,i,s,h=>by
   have h1:=h t List.mem_cons_self
   have e:evF X i s t=.ok (s+t.2*X.getD t.1.toNat 0):=if_neg (by omega)
   rw [foldE,e,List.foldl_cons]
   exact evF_ok (i+1) _ fun u hu=>h u (List.mem_cons_of_mem _ hu)
def evR(X:List Rat)(f:Form):AV:=
 match foldE (evF X) 0 f.2 f.1 with
 | .ok s=>.tup [ratV s,.lit (.int .i64 0)]
 | .error _=>.tup [.agg [.lit (.bool false),.sl 1 [],.sl 1 []],.lit (.int .i64 2)]
theorem eval_c{n:Nat}{f:Form}{X:List Rat}{a b k:Nat}(ha:∀t∈f.1,H t.2≤a)(hb:∀q∈X,H q≤b)(hk:H f.2≤k)(hX:X.length≤100000000)(hF:f.1.length≤100000000)(hs:k+f.1.length*(a+b+1)≤17179869184)(hab:a+b≤17179869184):
  run n 12 [formV f,.sl 3 (X.map ratC)]=some (evR X f)∧∀s,foldE (evF X) 0 f.2 f.1=.ok s→H s≤k+f.1.length*(a+b+1):=by
 have L:=loopG_E (O:=tab n) (P:= Tryz.prog) (m:=0) (N:=45) (lives:=livesOf 12) (r:=3) (C:=ev_C3) (L:=f.1) (f:=evF X) (enc:=fun i s=>ev_h3 f X i s) (exN:=.exit 0) (exE:=.ret) (out:=ev_o3b) (outE:=ev_o3a) (Inv:=fun i s=>H s≤k+i*(a+b+1)∧i≤f.1.length) f.2 ⟨by omega,by omega⟩ (by omega) (by simp) (by simp)
  (fun i t s hi hI=>by
   obtain ⟨v,c⟩:=t
   obtain ⟨hI,hle⟩:=hI
   have hlt:=(List.getElem?_eq_some_iff.1 hi).1
   have hm:(i+1)*(a+b+1)≤f.1.length*(a+b+1):=Nat.mul_le_mul_right _ hlt
   rw [Nat.add_mul,Nat.one_mul] at hm
   have C1:(i:Int)<(f.1.length:Int):=by omega
   have W:InI ((i:Int)+1):=⟨by omega,by omega⟩
   unfold evF
   by_cases hv:v<0∨(X.length:Int)≤v
   ·rw [if_pos hv]
    by_cases h0:v<0
    ·exact ev_x3_1 C1 hi h0
    ·exact ev_x3_2 C1 hi h0 (by omega)
   ·rw [if_neg hv]
    have hl:v.toNat<X.length:=by omega
    have h1:X[v.toNat]?=some (X.getD v.toNat 0):=by rw [List.getD_eq_getElem?_getD,List.getElem?_eq_getElem hl];rfl
    have hc:H c≤a:=ha _ (List.mem_of_getElem? hi)
    have hq:H (X.getD v.toNat 0)≤b:=hb _ (List.mem_of_getElem? h1)
    have h2:=H_mul c (X.getD v.toNat 0)
    have h3:=H_add s (c*X.getD v.toNat 0)
    dsimp only
    refine ⟨ev_r3_1 C1 hi (by omega) (by omega) h1 (by omega) (by omega) (by omega) (by omega) (by omega) W,?_,hlt⟩
    rw [Nat.add_mul,Nat.one_mul]
    omega)
  (fun b hI=>ev_x3_3 (by omega))
 refine ⟨?_,fun s hs'=>(L.2 s hs').1⟩
 unfold evR
 cases hE:foldE (evF X) 0 f.2 f.1 with
 | ok s=>rw [hE] at L;exact ev_f2 L.1
 | error s=>rw [hE] at L;exact ev_f1 L.1
end
section
open Go.RowKit
noncomputable def vaR_C2:Code:=(loopsOf (bodyOf Tryz.f21)).getD 0 .skip
def vaR_h2(a0:FormR)(a1:Int)(i_2:Nat):St:=
 ⟨[(1,.lit (.int .i64 a1)),(2,.ptr 0 0),(5,.lit (.int .i64 (i_2:Int)))],
  [(0,some (.box 28 [.sl 4 (a0.1.map termRC),.lit (.bool a0.2.s),natA a0.2.l1,natA a0.2.l2] false))],1⟩
def vaR_o2a(a0:FormR):St:=
 ⟨[(2,.ptr 0 0),(4,.lit (.bool false))],
  [(0,some (.box 28 [.sl 4 (a0.1.map termRC),.lit (.bool a0.2.s),natA a0.2.l1,natA a0.2.l2] false))],1⟩
def vaR_o2b(a0:FormR):St:=
 ⟨[(2,.ptr 0 0),(4,.any)],
  [(0,some (.box 28 [.sl 4 (a0.1.map termRC),.lit (.bool a0.2.s),natA a0.2.l1,natA a0.2.l2] false))],1⟩
section
variable {a1 : Int} {r4 : Raw} {n : Nat} {r5 : Raw} {a0 : FormR} {v5 : Int} {v4 : Int} {i_2 : Nat}
section
variable(C1:(i_2:Int)<(a0.1.length:Int))(E2:a0.1[i_2]?=some (v4,r4))
include C1 E2
theorem vaR_r2_1(C3:¬v4<0)(C4:¬a1≤v4)(C5:0<(i_2:Int))(W6:InI ((i_2:Int)-1))(E7:a0.1[i_2-1]?=some (v5,r5))(Z7:1≤i_2)(C8:¬v4≤v5)(B9a:RawB r4)(C10:¬sgR r4.q=0)(C12:RatV r4.s r4.l1 r4.l2)(W13:InI ((i_2:Int)+1)):
  Cont 0 (exec Tryz.prog (tab n) 0 59 (livesOf 21) big vaR_C2) (livesOf 21 2) (vaR_h2 a0 a1 i_2) (vaR_h2 a0 a1 (i_2+1)):=by
 have C1_:i_2<a0.1.length:=by omega
 obtain ⟨EL2,EG2⟩:=List.getElem?_eq_some_iff.1 E2
 have C5_:0<i_2:=by omega
 have C5_z:(i_2:Int)≠0:=by omega
 have C5_e:((i_2:Int)==0)=false:=by simpa using C5_z
 have C5_g:((i_2:Int) !=0)=true:=by simpa using C5_z
 have W6_:IntKind.i64.wrap ((i_2:Int)-1)=(i_2:Int)-1:=wr64 W6.1 W6.2
 obtain ⟨EL7,EG7⟩:=List.getElem?_eq_some_iff.1 E7
 have Z7_0:(1:Int)≤(i_2:Int):=by omega
 have Z7_1:0≤(i_2:Int)-1:=by omega
 have K9:=rr_sign B9a
 have C10_:(sgR r4.q==0)=false:=by simpa using C10
 have C10_n:(sgR r4.q !=0)=true:=by simpa using C10
 have K11:=rr_valid B9a
 have W13_:IntKind.i64.wrap ((i_2:Int)+1)=(i_2:Int)+1:=wr64 W13.1 W13.2
 unfold Cont
 simp+decide [vaR_h2,loopsOf, Tryz.f21,vaR_C2,C1,C1_,EL2,EG2,E2,C3,C4,C5,C5_,C5_e,C5_g,W6_,EL7,EG7,E7,Z7,Z7_0,Z7_1,C8,K9,C10_,C10_n,K11,C12,W13_]
theorem vaR_r2_2(C3:¬v4<0)(C4:¬a1≤v4)(C5:¬0<(i_2:Int))(B6a:RawB r4)(C7:¬sgR r4.q=0)(C9:RatV r4.s r4.l1 r4.l2)(W10:InI ((i_2:Int)+1)):
  Cont 0 (exec Tryz.prog (tab n) 0 59 (livesOf 21) big vaR_C2) (livesOf 21 2) (vaR_h2 a0 a1 i_2) (vaR_h2 a0 a1 (i_2+1)):=by
 have C1_:i_2<a0.1.length:=by omega
 obtain ⟨EL2,EG2⟩:=List.getElem?_eq_some_iff.1 E2
 have C5_:¬0<i_2:=by omega
 have C5_z:(i_2:Int)=0:=by omega
 have C5_e:((i_2:Int)==0)=true:=by rw [C5_z];simp
 have C5_g:((i_2:Int) !=0)=false:=by rw [C5_z];simp
 have K6:=rr_sign B6a
 have C7_:(sgR r4.q==0)=false:=by simpa using C7
 have C7_n:(sgR r4.q !=0)=true:=by simpa using C7
 have K8:=rr_valid B6a
 have W10_:IntKind.i64.wrap ((i_2:Int)+1)=(i_2:Int)+1:=wr64 W10.1 W10.2
 unfold Cont
 simp+decide [vaR_h2,loopsOf, Tryz.f21,vaR_C2,C1,C1_,EL2,EG2,E2,C3,C4,C5,C5_,C5_e,C5_g,K6,C7_,C7_n,K8,C9,W10_]
theorem vaR_x2_1(C3:v4<0):
  Leave 0 (exec Tryz.prog (tab n) 0 59 (livesOf 21) big vaR_C2) (livesOf 21 (outOf 2)) (vaR_h2 a0 a1 i_2) (.ret) (vaR_o2a a0):=by
 have C1_:i_2<a0.1.length:=by omega
 obtain ⟨EL2,EG2⟩:=List.getElem?_eq_some_iff.1 E2
 unfold Leave
 simp+decide [vaR_h2,loopsOf, Tryz.f21,vaR_o2a,vaR_C2,C1,C1_,EL2,EG2,E2,C3]
theorem vaR_x2_2(C3:¬v4<0)(C4:a1≤v4):
  Leave 0 (exec Tryz.prog (tab n) 0 59 (livesOf 21) big vaR_C2) (livesOf 21 (outOf 2)) (vaR_h2 a0 a1 i_2) (.ret) (vaR_o2a a0):=by
 have C1_:i_2<a0.1.length:=by omega
 obtain ⟨EL2,EG2⟩:=List.getElem?_eq_some_iff.1 E2
 unfold Leave
 simp+decide [vaR_h2,loopsOf, Tryz.f21,vaR_o2a,vaR_C2,C1,C1_,EL2,EG2,E2,C3,C4]
section
variable(C3:¬v4<0)(C4:¬a1≤v4)
include C3 C4
section
variable(C5:0<(i_2:Int))(W6:InI ((i_2:Int)-1))(E7:a0.1[i_2-1]?=some (v5,r5))(Z7:1≤i_2)
include C5 W6 E7 Z7
theorem vaR_x2_3(C8:v4≤v5):
  Leave 0 (exec Tryz.prog (tab n) 0 59 (livesOf 21) big vaR_C2) (livesOf 21 (outOf 2)) (vaR_h2 a0 a1 i_2) (.ret) (vaR_o2a a0):=by
 have C1_:i_2<a0.1.length:=by omega
 obtain ⟨EL2,EG2⟩:=List.getElem?_eq_some_iff.1 E2
 have C5_:0<i_2:=by omega
 have C5_z:(i_2:Int)≠0:=by omega
 have C5_e:((i_2:Int)==0)=false:=by simpa using C5_z
 have C5_g:((i_2:Int) !=0)=true:=by simpa using C5_z
 have W6_:IntKind.i64.wrap ((i_2:Int)-1)=(i_2:Int)-1:=wr64 W6.1 W6.2
 obtain ⟨EL7,EG7⟩:=List.getElem?_eq_some_iff.1 E7
 have Z7_0:(1:Int)≤(i_2:Int):=by omega
 have Z7_1:0≤(i_2:Int)-1:=by omega
 unfold Leave
 simp+decide [vaR_h2,loopsOf, Tryz.f21,vaR_o2a,vaR_C2,C1,C1_,EL2,EG2,E2,C3,C4,C5,C5_,C5_e,C5_g,W6_,EL7,EG7,E7,Z7,Z7_0,Z7_1,C8]
theorem vaR_x2_4(C8:¬v4≤v5)(B9a:RawB r4)(C10:sgR r4.q=0):
  Leave 0 (exec Tryz.prog (tab n) 0 59 (livesOf 21) big vaR_C2) (livesOf 21 (outOf 2)) (vaR_h2 a0 a1 i_2) (.ret) (vaR_o2a a0):=by
 have C1_:i_2<a0.1.length:=by omega
 obtain ⟨EL2,EG2⟩:=List.getElem?_eq_some_iff.1 E2
 have C5_:0<i_2:=by omega
 have C5_z:(i_2:Int)≠0:=by omega
 have C5_e:((i_2:Int)==0)=false:=by simpa using C5_z
 have C5_g:((i_2:Int) !=0)=true:=by simpa using C5_z
 have W6_:IntKind.i64.wrap ((i_2:Int)-1)=(i_2:Int)-1:=wr64 W6.1 W6.2
 obtain ⟨EL7,EG7⟩:=List.getElem?_eq_some_iff.1 E7
 have Z7_0:(1:Int)≤(i_2:Int):=by omega
 have Z7_1:0≤(i_2:Int)-1:=by omega
 have K9:=rr_sign B9a
 have C10_:(sgR r4.q==0)=true:=by rw [C10];simp
 have C10_n:(sgR r4.q !=0)=false:=by rw [C10];simp
 unfold Leave
 simp+decide [vaR_h2,loopsOf, Tryz.f21,vaR_o2a,vaR_C2,C1,C1_,EL2,EG2,E2,C3,C4,C5,C5_,C5_e,C5_g,W6_,EL7,EG7,E7,Z7,Z7_0,Z7_1,C8,K9,C10_,C10_n]
theorem vaR_x2_5(C8:¬v4≤v5)(B9a:RawB r4)(C10:¬sgR r4.q=0)(C12:¬(RatV r4.s r4.l1 r4.l2)):
  Leave 0 (exec Tryz.prog (tab n) 0 59 (livesOf 21) big vaR_C2) (livesOf 21 (outOf 2)) (vaR_h2 a0 a1 i_2) (.ret) (vaR_o2a a0):=by
 have C1_:i_2<a0.1.length:=by omega
 obtain ⟨EL2,EG2⟩:=List.getElem?_eq_some_iff.1 E2
 have C5_:0<i_2:=by omega
 have C5_z:(i_2:Int)≠0:=by omega
 have C5_e:((i_2:Int)==0)=false:=by simpa using C5_z
 have C5_g:((i_2:Int) !=0)=true:=by simpa using C5_z
 have W6_:IntKind.i64.wrap ((i_2:Int)-1)=(i_2:Int)-1:=wr64 W6.1 W6.2
 obtain ⟨EL7,EG7⟩:=List.getElem?_eq_some_iff.1 E7
 have Z7_0:(1:Int)≤(i_2:Int):=by omega
 have Z7_1:0≤(i_2:Int)-1:=by omega
 have K9:=rr_sign B9a
 have C10_:(sgR r4.q==0)=false:=by simpa using C10
 have C10_n:(sgR r4.q !=0)=true:=by simpa using C10
 have K11:=rr_valid B9a
 unfold Leave
 simp+decide [vaR_h2,loopsOf, Tryz.f21,vaR_o2a,vaR_C2,C1,C1_,EL2,EG2,E2,C3,C4,C5,C5_,C5_e,C5_g,W6_,EL7,EG7,E7,Z7,Z7_0,Z7_1,C8,K9,C10_,C10_n,K11,C12]
end
theorem vaR_x2_6(C5:¬0<(i_2:Int))(B6a:RawB r4)(C7:sgR r4.q=0):
  Leave 0 (exec Tryz.prog (tab n) 0 59 (livesOf 21) big vaR_C2) (livesOf 21 (outOf 2)) (vaR_h2 a0 a1 i_2) (.ret) (vaR_o2a a0):=by
 have C1_:i_2<a0.1.length:=by omega
 obtain ⟨EL2,EG2⟩:=List.getElem?_eq_some_iff.1 E2
 have C5_:¬0<i_2:=by omega
 have C5_z:(i_2:Int)=0:=by omega
 have C5_e:((i_2:Int)==0)=true:=by rw [C5_z];simp
 have C5_g:((i_2:Int) !=0)=false:=by rw [C5_z];simp
 have K6:=rr_sign B6a
 have C7_:(sgR r4.q==0)=true:=by rw [C7];simp
 have C7_n:(sgR r4.q !=0)=false:=by rw [C7];simp
 unfold Leave
 simp+decide [vaR_h2,loopsOf, Tryz.f21,vaR_o2a,vaR_C2,C1,C1_,EL2,EG2,E2,C3,C4,C5,C5_,C5_e,C5_g,K6,C7_,C7_n]
theorem vaR_x2_7(C5:¬0<(i_2:Int))(B6a:RawB r4)(C7:¬sgR r4.q=0)(C9:¬(RatV r4.s r4.l1 r4.l2)):
  Leave 0 (exec Tryz.prog (tab n) 0 59 (livesOf 21) big vaR_C2) (livesOf 21 (outOf 2)) (vaR_h2 a0 a1 i_2) (.ret) (vaR_o2a a0):=by
 have C1_:i_2<a0.1.length:=by omega
 obtain ⟨EL2,EG2⟩:=List.getElem?_eq_some_iff.1 E2
 have C5_:¬0<i_2:=by omega
 have C5_z:(i_2:Int)=0:=by omega
 have C5_e:((i_2:Int)==0)=true:=by rw [C5_z];simp
 have C5_g:((i_2:Int) !=0)=false:=by rw [C5_z];simp
 have K6:=rr_sign B6a
 have C7_:(sgR r4.q==0)=false:=by simpa using C7
 have C7_n:(sgR r4.q !=0)=true:=by simpa using C7
 have K8:=rr_valid B6a
 unfold Leave
 simp+decide [vaR_h2,loopsOf, Tryz.f21,vaR_o2a,vaR_C2,C1,C1_,EL2,EG2,E2,C3,C4,C5,C5_,C5_e,C5_g,K6,C7_,C7_n,K8,C9]
end
end
theorem vaR_x2_8(C1:¬(i_2:Int)<(a0.1.length:Int)):
  Leave 0 (exec Tryz.prog (tab n) 0 59 (livesOf 21) big vaR_C2) (livesOf 21 (outOf 2)) (vaR_h2 a0 a1 i_2) (.exit 0) (vaR_o2b a0):=by
 have C1_:¬i_2<a0.1.length:=by omega
 unfold Leave
 simp+decide [vaR_h2,loopsOf, Tryz.f21,vaR_o2b,vaR_C2,C1,C1_]
theorem vaR_f1(L1:loopG Tryz.prog (tab n) 0 59 (livesOf 21) 2 vaR_C2 (vaR_h2 a0 a1 0)=some (.ret,vaR_o2a a0)):
  run n 21 [.agg [.sl 4 (a0.1.map termRC),.lit (.bool a0.2.s),natA a0.2.l1,natA a0.2.l2],.lit (.int .i64 a1)]=some (.lit (.bool false)):=by
 unfold run fnP
 simp+decide [Tryz.f21]
 rw [loopX_G (C':=vaR_C2) (e:=(vaR_h2 a0 a1 0)) ?_ ?_,L1]
 rotate_left
 ·kernel_rfl
 ·simp+decide [vaR_h2]
 simp+decide [vaR_o2a]
theorem vaR_f2(L1:loopG Tryz.prog (tab n) 0 59 (livesOf 21) 2 vaR_C2 (vaR_h2 a0 a1 0)=some (.exit 0,vaR_o2b a0))(B2a:RawB a0.2):
  run n 21 [.agg [.sl 4 (a0.1.map termRC),.lit (.bool a0.2.s),natA a0.2.l1,natA a0.2.l2],.lit (.int .i64 a1)]=some (.lit (.bool (decide (RatV a0.2.s a0.2.l1 a0.2.l2)))):=by
 have K2:=rr_valid B2a
 unfold run fnP
 simp+decide [Tryz.f21,K2]
 rw [loopX_G (C':=vaR_C2) (e:=(vaR_h2 a0 a1 0)) ?_ ?_,L1]
 rotate_left
 ·kernel_rfl
 ·simp+decide [vaR_h2,K2]
 simp+decide [vaR_o2b,K2]
end
end
section
open Go.RowKit
attribute [local irreducible] run runL loopG exec
def frV(f:FormR):AV:=.agg [.sl 4 (f.1.map termRC),.lit (.bool f.2.s),natA f.2.l1,natA f.2.l2]
def LimR2(r:Raw):Prop:=Lim r.l1∧Lim r.l2
structure LimF (f:FormR):Prop where
 t:∀t∈f.1,LimR2 t.2
 k:LimR2 f.2
def Two(r:Raw):Prop:=r.l1.length≤2∧r.l2.length≤2
theorem Two.rb{r:Raw}(h:Two r)(hl:LimR2 r):RawB r:=⟨hl.1,hl.2,by have:=h.1;omega,by have:=h.2;omega⟩
def Cn(r:Raw):Prop:=RatV r.s r.l1 r.l2
theorem Cn.raw{r:Raw}(h:Cn r):r=rawQ r.q:=by
 obtain ⟨s,l1,l2⟩:=r
 obtain ⟨h1,h2,h3⟩:=h
 dsimp only at h1 h2 h3
 unfold Raw.q rawQ
 dsimp only
 rw [←h1,←h2,←h3]
theorem dlmb_H(d:Nat):(lmb d).length≤max 1 (dlmb d).length:=by
 unfold dlmb
 split
 ·rename_i h;subst h;rw [lmb_one];simp
 ·exact Nat.le_max_right _ _
theorem Cn.HB{r:Raw}{m:Nat}(h:Cn r)(hm:1≤m)(h1:r.l1.length≤m)(h2:r.l2.length≤m):H r.q≤m:=by
 have e:=h.raw
 have a1:(lmb r.q.num.natAbs).length≤m:=by have:=congrArg Raw.l1 e;rw [this] at h1;exact h1
 have a2:(dlmb r.q.den).length≤m:=by have:=congrArg Raw.l2 e;rw [this] at h2;exact h2
 have a3:=dlmb_H r.q.den
 unfold Go.Proofs.YtdaonnnlgfhlaaaGreatDoor.H
 omega
theorem Cn.H{r:Raw}(h:Cn r)(ht:Two r):H r.q≤2:=h.HB (by omega) ht.1 ht.2
def OkTmR(F:List (Int × Raw))(vars:Int)(i:Nat):Prop:=∀v c,F[i]?=some (v,c)→0≤v∧v<vars∧c.q≠0∧Cn c∧∀v' c',0<i→F[i-1]?=some (v',c')→v'<v
def OkFR(f:FormR)(vars:Int):Prop:=(∀i,i<f.1.length→OkTmR f.1 vars i)∧Cn f.2
theorem validRB_c{n:Nat}{f:FormR}{vars:Int}(h8:f.1.length≤100000)(hrbs:∀t∈f.1,RawB t.2)(hkb:RawB f.2):run n 21 [frV f,.lit (.int .i64 vars)]=some (.lit (.bool (tv (OkFR f vars)))):=by
 have L:=loopG_all (O:=tab n) (P:= Tryz.prog) (m:=0) (N:=59) (lives:=livesOf 21) (r:=2) (C:=vaR_C2) (M:=f.1.length) (enc:=vaR_h2 f vars) (p:=fun i=>tv (OkTmR f.1 vars i)) (exN:=.exit 0) (exE:=.ret) (out:=vaR_o2b f) (outE:=vaR_o2a f) (by omega) (fun h=>by cases h) (fun h=>by cases h)
  (fun i hi _=>by
   have hx:f.1[i]?=some f.1[i]:=List.getElem?_eq_getElem hi
   obtain ⟨t,ht⟩:∃t,f.1[i]=t:=⟨_,rfl⟩
   rw [ht] at hx
   obtain ⟨v,r⟩:=t
   have hm:(v,r)∈f.1:=List.mem_of_getElem? hx
   have hrb:RawB r:=hrbs _ hm
   have C1:(i:Int)<(f.1.length:Int):=by omega
   have hp:0<i→∃v' r',f.1[i-1]?=some (v',r'):=fun h0=>⟨(f.1[i-1]'(by omega)).1,(f.1[i-1]'(by omega)).2,List.getElem?_eq_getElem _⟩
   refine ⟨fun hp'=>?_,fun hp'=>?_⟩
   ·obtain ⟨a1,a2,a3,a4,a5⟩:=tv_true hp' v r hx
    have s0:¬sgR r.q=0:=fun h=>a3 (sgR_eq_zero.1 h)
    by_cases h0:0<i
    ·obtain ⟨v',r',hx'⟩:=hp h0
     have:=a5 v' r' h0 hx'
     exact vaR_r2_1 C1 hx (by omega) (by omega) (by omega) ⟨by omega,by omega⟩ hx' (by omega) (by omega) hrb s0 a4 ⟨by omega,by omega⟩
    ·exact vaR_r2_2 C1 hx (by omega) (by omega) (by omega) hrb s0 a4 ⟨by omega,by omega⟩
   ·have hq:=tv_false hp'
    by_cases b1:v<0
    ·exact vaR_x2_1 C1 hx b1
    by_cases b2:vars≤v
    ·exact vaR_x2_2 C1 hx b1 b2
    by_cases h0:0<i
    ·obtain ⟨v',r',hx'⟩:=hp h0
     by_cases b3:v≤v'
     ·exact vaR_x2_3 C1 hx b1 b2 (by omega) ⟨by omega,by omega⟩ hx' (by omega) b3
     by_cases b4:sgR r.q=0
     ·exact vaR_x2_4 C1 hx b1 b2 (by omega) ⟨by omega,by omega⟩ hx' (by omega) b3 hrb b4
     refine vaR_x2_5 C1 hx b1 b2 (by omega) ⟨by omega,by omega⟩ hx' (by omega) b3 hrb b4 fun b5=>hq fun v2 c2 h2=>?_
     rw [hx] at h2;cases h2
     refine ⟨by omega,by omega,fun h=>b4 (sgR_eq_zero.2 h),b5,fun v3 c3 _ h3=>?_⟩
     rw [hx'] at h3;cases h3
     omega
    ·by_cases b4:sgR r.q=0
     ·exact vaR_x2_6 C1 hx b1 b2 (by omega) hrb b4
     refine vaR_x2_7 C1 hx b1 b2 (by omega) hrb b4 fun b5=>hq fun v2 c2 h2=>?_
     rw [hx] at h2;cases h2
     exact ⟨by omega,by omega,fun h=>b4 (sgR_eq_zero.2 h),b5,fun v3 c3 h9 h3=>absurd h9 h0⟩)
  (vaR_x2_8 (by omega))
 by_cases hA:∀i,i<f.1.length→tv (OkTmR f.1 vars i)=true
 ·rw [if_pos hA] at L
  have h:=vaR_f2 L hkb
  have e:decide (RatV f.2.s f.2.l1 f.2.l2)=tv (OkFR f vars):=by
   by_cases hk:Cn f.2
   ·rw [tv_t ⟨fun i hi=>tv_true (hA i hi),hk⟩];exact decide_eq_true hk
   ·rw [tv_f fun h=>hk h.2];exact decide_eq_false hk
  rw [e] at h
  exact h
 ·rw [if_neg hA] at L
  rw [tv_f fun h=>hA fun i hi=>tv_t (h.1 i hi)]
  exact vaR_f1 L
def unR(f:FormR):Form:=(f.1.map fun t=>(t.1,t.2.q),f.2.q)
theorem small_formB{f:FormR}{vars:Int}{m:Nat}(hm:1≤m)(ht:∀t∈f.1,t.2.l1.length≤m∧t.2.l2.length≤m)(hk:f.2.l1.length≤m∧f.2.l2.length≤m)(ho:OkFR f vars):frV f=formV (unR f)∧(unR f).1.length=f.1.length∧(∀t∈(unR f).1,H t.2≤m)∧H (unR f).2≤m∧OkFm (unR f) vars:=by
 have hc:∀t∈f.1,Cn t.2:=fun t ht=>by
  obtain ⟨i,hi⟩:=List.mem_iff_getElem?.1 ht
  exact (ho.1 i (List.getElem?_eq_some_iff.1 hi).1 t.1 t.2 hi).2.2.2.1
 refine ⟨?_,by simp [unR],fun t h9=>?_,ho.2.HB hm hk.1 hk.2,fun i hi v c h=>?_⟩
 ·have e1:f.1.map termRC=(unR f).1.map termC:=by
   simp only [unR,List.map_map]
   apply List.map_congr_left
   intro t ht
   have e:=(hc t ht).raw
   simp only [Function.comp,termRC,termC,ratC]
   rw [←e]
  have e2:=ho.2.raw
  unfold frV
  simp only [formV,e1]
  have e3:rawQ (unR f).2=f.2:=e2.symm
  rw [e3]
 ·simp only [unR,List.mem_map] at h9
  obtain ⟨u,hu,rfl⟩:=h9
  exact (hc u hu).HB hm (ht u hu).1 (ht u hu).2
 ·simp only [unR,List.length_map] at hi
  simp only [unR,List.getElem?_map] at h
  obtain ⟨u,hu,he⟩:=Option.map_eq_some_iff.1 h
  cases he
  obtain ⟨a1,a2,a3,_,a5⟩:=ho.1 i hi u.1 u.2 hu
  refine ⟨a1,a2,a3,fun v' c' h0 h'=>?_⟩
  simp only [unR,List.getElem?_map] at h'
  obtain ⟨u',hu',he'⟩:=Option.map_eq_some_iff.1 h'
  cases he'
  exact a5 u'.1 u'.2 h0 hu'
end
end Go.Proofs.YtdaonnnlgfhlaaaGreatDoor
