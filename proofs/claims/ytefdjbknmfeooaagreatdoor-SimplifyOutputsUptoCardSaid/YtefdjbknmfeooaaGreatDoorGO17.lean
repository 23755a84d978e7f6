import Derived.Test.YtefdjbknmfeooaaGreatDoorGO16
set_option linter.all false
set_option maxHeartbeats 6400000
set_option maxRecDepth 100000
namespace Go.Proofs.YtefdjbknmfeooaaGreatDoor
open Go.RowKit
section
variable {n : Nat} {a1 : Rat} {a0 : Rat}
theorem mx_f1(B1a:H a0≤17179869184)(B1b:H a1≤17179869184)(C2:0≤sgR (a0-a1)):
  run n 38 [ratV a0,ratV a1]=some (ratV a0):=by
 have K1:=r_cmp (p:=a0) (q:=a1) B1a B1b
 have K3:=r_canon (p:=a0) B1a
 unfold run fnP
 simp+decide [Tryz.f38,K1,C2,K3]
theorem mx_f2(B1a:H a0≤17179869184)(B1b:H a1≤17179869184)(C2:¬0≤sgR (a0-a1)):
  run n 38 [ratV a0,ratV a1]=some (ratV a1):=by
 have K1:=r_cmp (p:=a0) (q:=a1) B1a B1b
 have K3:=r_canon (p:=a1) B1b
 unfold run fnP
 simp+decide [Tryz.f38,K1,C2,K3]
end
noncomputable def ev_C3:Code:=(loopsOf (bodyOf Tryz.f69)).getD 0 .skip
def ev_h3(a0:Form)(a1:List Rat)(i_3:Nat)(s_3:Rat):St:=
 ⟨[(1,.sl 3 (a1.map ratC)),(2,.ptr 0 0),(4,.ptr 1 0),(6,.ptr 2 0),(7,.lit (.int .i64 (i_3:Int)))],
  [(0,some (.box 45 [.sl 4 (a0.1.map termC),.lit (.bool (rawQ a0.2).s),natA (rawQ a0.2).l1,natA (rawQ a0.2).l2] false)),
   (1,some (.box 34 [.lit (.bool false),.nl 1,.nl 1] false)),
   (2,some (.box 34 [.lit (.bool (rawQ s_3).s),natA (rawQ s_3).l1,natA (rawQ s_3).l2] false))],3⟩
def ev_o3a(s_3:Rat):St:=
 ⟨[(4,.ptr 0 0),(5,.lit (.int .i64 2)),(6,.ptr 1 0)],
  [(0,some (.box 34 [.lit (.bool false),.nl 1,.nl 1] false)),
   (1,some (.box 34 [.lit (.bool (rawQ s_3).s),natA (rawQ s_3).l1,natA (rawQ s_3).l2] false))],2⟩
def ev_o3b(s_3:Rat):St:=
 ⟨[(4,.ptr 0 0),(5,.any),(6,.ptr 1 0)],
  [(0,some (.box 34 [.lit (.bool false),.nl 1,.nl 1] false)),
   (1,some (.box 34 [.lit (.bool (rawQ s_3).s),natA (rawQ s_3).l1,natA (rawQ s_3).l2] false))],2⟩
section
variable {n : Nat} {v3 : Int} {a1 : List Rat} {x3 : Rat} {q3 : Rat} {i_3 : Nat} {s_3 : Rat} {a0 : Form}
section
variable(C1:(i_3:Int)<(a0.1.length:Int))(E2:a0.1[i_3]?=some (v3,q3))
include C1 E2
theorem ev_r3_1(C3:¬v3<0)(C4:¬(a1.length:Int)≤v3)(E5:a1[v3.toNat]?=some x3)(Z5:0≤v3)(B6a:H q3≤17179869184)(B6b:H x3≤17179869184)(B7a:H s_3≤17179869184)(B7b:H (q3*x3)≤17179869184)(W8:InI ((i_3:Int)+1)):
  Cont 0 (exec Tryz.prog (tab n) 0 45 (livesOf 69) big ev_C3) (livesOf 69 3) (ev_h3 a0 a1 i_3 s_3) (ev_h3 a0 a1 (i_3+1) (s_3+(q3*x3))):=by
 have C1_:i_3<a0.1.length:=by omega
 obtain ⟨EL2,EG2⟩:=List.getElem?_eq_some_iff.1 E2
 obtain ⟨EL5,EG5⟩:=List.getElem?_eq_some_iff.1 E5
 have K6:=r_mul (p:=q3) (q:=x3) B6a B6b
 have K7:=r_add (p:=s_3) (q:=q3*x3) B7a B7b
 have W8_:IntKind.i64.wrap ((i_3:Int)+1)=(i_3:Int)+1:=wr64 W8.1 W8.2
 unfold Cont
 simp+decide [ev_h3,loopsOf, Tryz.f69,ev_C3,C1,C1_,EL2,EG2,E2,C3,C4,EL5,EG5,E5,Z5,K6,K7,W8_]
theorem ev_x3_1(C3:v3<0):
  Leave 0 (exec Tryz.prog (tab n) 0 45 (livesOf 69) big ev_C3) (livesOf 69 (outOf 3)) (ev_h3 a0 a1 i_3 s_3) (.ret) (ev_o3a s_3):=by
 have C1_:i_3<a0.1.length:=by omega
 obtain ⟨EL2,EG2⟩:=List.getElem?_eq_some_iff.1 E2
 unfold Leave
 simp+decide [ev_h3,loopsOf, Tryz.f69,ev_o3a,ev_C3,C1,C1_,EL2,EG2,E2,C3]
theorem ev_x3_2(C3:¬v3<0)(C4:(a1.length:Int)≤v3):
  Leave 0 (exec Tryz.prog (tab n) 0 45 (livesOf 69) big ev_C3) (livesOf 69 (outOf 3)) (ev_h3 a0 a1 i_3 s_3) (.ret) (ev_o3a s_3):=by
 have C1_:i_3<a0.1.length:=by omega
 obtain ⟨EL2,EG2⟩:=List.getElem?_eq_some_iff.1 E2
 unfold Leave
 simp+decide [ev_h3,loopsOf, Tryz.f69,ev_o3a,ev_C3,C1,C1_,EL2,EG2,E2,C3,C4]
end
theorem ev_x3_3(C1:¬(i_3:Int)<(a0.1.length:Int)):
  Leave 0 (exec Tryz.prog (tab n) 0 45 (livesOf 69) big ev_C3) (livesOf 69 (outOf 3)) (ev_h3 a0 a1 i_3 s_3) (.exit 0) (ev_o3b s_3):=by
 have C1_:¬i_3<a0.1.length:=by omega
 unfold Leave
 simp+decide [ev_h3,loopsOf, Tryz.f69,ev_o3b,ev_C3,C1,C1_]
theorem ev_f1(L1:loopG Tryz.prog (tab n) 0 45 (livesOf 69) 3 ev_C3 (ev_h3 a0 a1 0 a0.2)=some (.ret,ev_o3a s_3)):
  run n 69 [formV a0,.sl 3 (a1.map ratC)]=some (.tup [.agg [.lit (.bool false),.sl 1 [],.sl 1 []],.lit (.int .i64 2)]):=by
 unfold run fnP
 simp+decide [Tryz.f69]
 rw [loopX_G (C':=ev_C3) (e:=(ev_h3 a0 a1 0 a0.2)) ?_ ?_,L1]
 rotate_left
 ·kernel_rfl
 ·simp+decide [ev_h3]
 simp+decide [ev_o3a]
theorem ev_f2(L1:loopG Tryz.prog (tab n) 0 45 (livesOf 69) 3 ev_C3 (ev_h3 a0 a1 0 a0.2)=some (.exit 0,ev_o3b s_3)):
  run n 69 [formV a0,.sl 3 (a1.map ratC)]=some (.tup [ratV s_3,.lit (.int .i64 0)]):=by
 unfold run fnP
 simp+decide [Tryz.f69]
 rw [loopX_G (C':=ev_C3) (e:=(ev_h3 a0 a1 0 a0.2)) ?_ ?_,L1]
 rotate_left
 ·kernel_rfl
 ·simp+decide [ev_h3]
 simp+decide [ev_o3b]
end
noncomputable def pl_C4:Code:=(loopsOf (bodyOf Tryz.f52)).getD 0 .skip
def pl_h4(a0:Form)(a1:Int)(a2:Rat)(out_4:List (Int × Rat))(d_4:Bool)(i_4:Nat):St:=
 ⟨[(1,.lit (.int .i64 a1)),(3,.ptr 0 0),(5,.ptr 1 0),(6,.ptr 2 0),(7,.own 3 out_4.length),(8,.lit (.bool d_4)),(9,.lit (.int .i64 (i_4:Int)))],
  [(0,some (.box 45 [.sl 4 (a0.1.map termC),.lit (.bool (rawQ a0.2).s),natA (rawQ a0.2).l1,natA (rawQ a0.2).l2] false)),
   (1,some (.box 34 [.lit (.bool (rawQ a2).s),natA (rawQ a2).l1,natA (rawQ a2).l2] false)),
   (2,some (.box 45 [.nl 4,.lit (.bool false),.nl 1,.nl 1] false)),
   (3,some (.row 57 4 (out_4.map termC) 0))],4⟩
def pl_o4a(a0:Form)(a1:Int)(a2:Rat)(out_4:List (Int × Rat))(d_4:Bool):St:=
 ⟨[(1,.lit (.int .i64 a1)),(3,.ptr 0 0),(5,.ptr 1 0),(6,.ptr 2 0),(7,.own 3 out_4.length),(8,.lit (.bool d_4))],
  [(0,some (.box 45 [.sl 4 (a0.1.map termC),.lit (.bool (rawQ a0.2).s),natA (rawQ a0.2).l1,natA (rawQ a0.2).l2] false)),
   (1,some (.box 34 [.lit (.bool (rawQ a2).s),natA (rawQ a2).l1,natA (rawQ a2).l2] false)),
   (2,some (.box 45 [.nl 4,.lit (.bool false),.nl 1,.nl 1] false)),
   (3,some (.row 57 4 (out_4.map termC) 0))],4⟩
section
variable{n:Nat}{v3:Int}{a1:Int}{i_4:Nat}{q3:Rat}{a0:Form}{a2:Rat}{d_4:Bool}{out_4:List (Int × Rat)}{R12:List (Int × Rat)}{R14:List (Int × Rat)}{R13:List (Int × Rat)}{R15:List (Int × Rat)}{R16:List (Int × Rat)}{R17:List (Int × Rat)}{R18:List (Int × Rat)}
section
variable(C1:(i_4:Int)<(a0.1.length:Int))(E2:a0.1[i_4]?=some (v3,q3))
include C1 E2
theorem pl_r4_1(C3:v3=a1)(B4a:H q3≤17179869184)(B4b:H a2≤17179869184)(K5:runL n 73 [.own 0 out_4.length,.agg [.lit (.int .i64 v3),.lit (.bool (rawQ (q3+a2)).s),natA (rawQ (q3+a2)).l1,natA (rawQ (q3+a2)).l2]] [.row 57 4 (out_4.map termC) 0]=some (.own 0 out_4.length,[(0,.row 57 4 (out_4.map termC) 0)]))(W6:InI ((i_4:Int)+1)):
  Cont 0 (exec Tryz.prog (tab (n+1)) 0 61 (livesOf 52) big pl_C4) (livesOf 52 4) (pl_h4 a0 a1 a2 out_4 d_4 i_4) (pl_h4 a0 a1 a2 out_4 true (i_4+1)):=by
 have C1_:i_4<a0.1.length:=by omega
 obtain ⟨EL2,EG2⟩:=List.getElem?_eq_some_iff.1 E2
 have C3_:(v3==a1)=true:=by rw [C3];simp
 have K4:=r_add (p:=q3) (q:=a2) B4a B4b
 have W6_:IntKind.i64.wrap ((i_4:Int)+1)=(i_4:Int)+1:=wr64 W6.1 W6.2
 unfold Cont
 simp+decide [pl_h4,loopsOf, Tryz.f52,pl_C4,C1,C1_,EG2,C3_,K4,K5,W6_]
theorem pl_r4_2(C3:v3=a1)(B4a:H q3≤17179869184)(B4b:H a2≤17179869184)(K5:runL n 73 [.own 0 out_4.length,.agg [.lit (.int .i64 v3),.lit (.bool (rawQ (q3+a2)).s),natA (rawQ (q3+a2)).l1,natA (rawQ (q3+a2)).l2]] [.row 57 4 (out_4.map termC) 0]=some (.own 3 R12.length,[(3,.row 57 4 (R12.map termC) 0)]))(W6:InI ((i_4:Int)+1)):
  Cont 0 (exec Tryz.prog (tab (n+1)) 0 61 (livesOf 52) big pl_C4) (livesOf 52 4) (pl_h4 a0 a1 a2 out_4 d_4 i_4) (pl_h4 a0 a1 a2 R12 true (i_4+1)):=by
 have C1_:i_4<a0.1.length:=by omega
 obtain ⟨EL2,EG2⟩:=List.getElem?_eq_some_iff.1 E2
 have C3_:(v3==a1)=true:=by rw [C3];simp
 have K4:=r_add (p:=q3) (q:=a2) B4a B4b
 have W6_:IntKind.i64.wrap ((i_4:Int)+1)=(i_4:Int)+1:=wr64 W6.1 W6.2
 unfold Cont
 simp+decide [pl_h4,loopsOf, Tryz.f52,pl_C4,C1,C1_,EG2,C3_,K4,K5,W6_]
theorem pl_r4_4(C3:¬v3=a1)(C4:d_4=false)(C5:a1<v3)(B6a:H a2≤17179869184)(K7:runL n 73 [.own 0 out_4.length,.agg [.lit (.int .i64 a1),.lit (.bool (rawQ a2).s),natA (rawQ a2).l1,natA (rawQ a2).l2]] [.row 57 4 (out_4.map termC) 0]=some (.own 0 out_4.length,[(0,.row 57 4 (out_4.map termC) 0)]))(K8:runL n 73 [.own 0 out_4.length,.agg [.lit (.int .i64 v3),.lit (.bool (rawQ q3).s),natA (rawQ q3).l1,natA (rawQ q3).l2]] [.row 57 4 (out_4.map termC) 0]=some (.own 3 R14.length,[(3,.row 57 4 (R14.map termC) 0)]))(W9:InI ((i_4:Int)+1)):
  Cont 0 (exec Tryz.prog (tab (n+1)) 0 61 (livesOf 52) big pl_C4) (livesOf 52 4) (pl_h4 a0 a1 a2 out_4 d_4 i_4) (pl_h4 a0 a1 a2 R14 true (i_4+1)):=by
 have C1_:i_4<a0.1.length:=by omega
 obtain ⟨EL2,EG2⟩:=List.getElem?_eq_some_iff.1 E2
 have C3_:(v3==a1)=false:=by simpa using C3
 have K6:=r_canon (p:=a2) B6a
 have W9_:IntKind.i64.wrap ((i_4:Int)+1)=(i_4:Int)+1:=wr64 W9.1 W9.2
 unfold Cont
 simp+decide [pl_h4,loopsOf, Tryz.f52,pl_C4,C1,C1_,EG2,C3_,C4,C5,K6,K7,K8,W9_]
theorem pl_r4_6(C3:¬v3=a1)(C4:d_4=false)(C5:a1<v3)(B6a:H a2≤17179869184)(K7:runL n 73 [.own 0 out_4.length,.agg [.lit (.int .i64 a1),.lit (.bool (rawQ a2).s),natA (rawQ a2).l1,natA (rawQ a2).l2]] [.row 57 4 (out_4.map termC) 0]=some (.own 3 R13.length,[(3,.row 57 4 (R13.map termC) 0)]))(K8:runL n 73 [.own 0 R13.length,.agg [.lit (.int .i64 v3),.lit (.bool (rawQ q3).s),natA (rawQ q3).l1,natA (rawQ q3).l2]] [.row 57 4 (R13.map termC) 0]=some (.own 3 R15.length,[(3,.row 57 4 (R15.map termC) 0)]))(W9:InI ((i_4:Int)+1)):
  Cont 0 (exec Tryz.prog (tab (n+1)) 0 61 (livesOf 52) big pl_C4) (livesOf 52 4) (pl_h4 a0 a1 a2 out_4 d_4 i_4) (pl_h4 a0 a1 a2 R15 true (i_4+1)):=by
 have C1_:i_4<a0.1.length:=by omega
 obtain ⟨EL2,EG2⟩:=List.getElem?_eq_some_iff.1 E2
 have C3_:(v3==a1)=false:=by simpa using C3
 have K6:=r_canon (p:=a2) B6a
 have W9_:IntKind.i64.wrap ((i_4:Int)+1)=(i_4:Int)+1:=wr64 W9.1 W9.2
 unfold Cont
 simp+decide [pl_h4,loopsOf, Tryz.f52,pl_C4,C1,C1_,EG2,C3_,C4,C5,K6,K7,K8,W9_]
theorem pl_r4_8(C3:¬v3=a1)(C4:d_4=false)(C5:¬a1<v3)(K6:runL n 73 [.own 0 out_4.length,.agg [.lit (.int .i64 v3),.lit (.bool (rawQ q3).s),natA (rawQ q3).l1,natA (rawQ q3).l2]] [.row 57 4 (out_4.map termC) 0]=some (.own 3 R16.length,[(3,.row 57 4 (R16.map termC) 0)]))(W7:InI ((i_4:Int)+1)):
  Cont 0 (exec Tryz.prog (tab (n+1)) 0 61 (livesOf 52) big pl_C4) (livesOf 52 4) (pl_h4 a0 a1 a2 out_4 d_4 i_4) (pl_h4 a0 a1 a2 R16 d_4 (i_4+1)):=by
 have C1_:i_4<a0.1.length:=by omega
 obtain ⟨EL2,EG2⟩:=List.getElem?_eq_some_iff.1 E2
 have C3_:(v3==a1)=false:=by simpa using C3
 have W7_:IntKind.i64.wrap ((i_4:Int)+1)=(i_4:Int)+1:=wr64 W7.1 W7.2
 unfold Cont
 simp+decide [pl_h4,loopsOf, Tryz.f52,pl_C4,C1,C1_,EG2,C3_,C4,C5,K6,W7_]
theorem pl_r4_10(C3:¬v3=a1)(C4:d_4=true)(K5:runL n 73 [.own 0 out_4.length,.agg [.lit (.int .i64 v3),.lit (.bool (rawQ q3).s),natA (rawQ q3).l1,natA (rawQ q3).l2]] [.row 57 4 (out_4.map termC) 0]=some (.own 3 R17.length,[(3,.row 57 4 (R17.map termC) 0)]))(W6:InI ((i_4:Int)+1)):
  Cont 0 (exec Tryz.prog (tab (n+1)) 0 61 (livesOf 52) big pl_C4) (livesOf 52 4) (pl_h4 a0 a1 a2 out_4 d_4 i_4) (pl_h4 a0 a1 a2 R17 d_4 (i_4+1)):=by
 have C1_:i_4<a0.1.length:=by omega
 obtain ⟨EL2,EG2⟩:=List.getElem?_eq_some_iff.1 E2
 have C3_:(v3==a1)=false:=by simpa using C3
 have W6_:IntKind.i64.wrap ((i_4:Int)+1)=(i_4:Int)+1:=wr64 W6.1 W6.2
 unfold Cont
 simp+decide [pl_h4,loopsOf, Tryz.f52,pl_C4,C1,C1_,EG2,C3_,C4,K5,W6_]
end
theorem pl_x4_1(C1:¬(i_4:Int)<(a0.1.length:Int)):
  Leave 0 (exec Tryz.prog (tab (n+1)) 0 61 (livesOf 52) big pl_C4) (livesOf 52 (outOf 4)) (pl_h4 a0 a1 a2 out_4 d_4 i_4) (.exit 0) (pl_o4a a0 a1 a2 out_4 d_4):=by
 unfold Leave
 simp+decide [pl_h4,loopsOf, Tryz.f52,pl_o4a,pl_C4,C1]
section
variable(L1:loopG Tryz.prog (tab (n+1)) 0 61 (livesOf 52) 4 pl_C4 (pl_h4 a0 a1 a2 [] false 0)=some (.exit 0,pl_o4a a0 a1 a2 out_4 d_4))
include L1
theorem pl_f1(C2:d_4=false)(B3a:H a2≤17179869184)(K4:runL n 73 [.own 0 out_4.length,.agg [.lit (.int .i64 a1),.lit (.bool (rawQ a2).s),natA (rawQ a2).l1,natA (rawQ a2).l2]] [.row 57 4 (out_4.map termC) 0]=some (.own 0 out_4.length,[(0,.row 57 4 (out_4.map termC) 0)])):
  run (n+1) 52 [formV a0,.lit (.int .i64 a1),ratV a2]=some (formV (out_4,a0.2)):=by
 have K3:=r_canon (p:=a2) B3a
 unfold run fnP
 simp+decide [Tryz.f52]
 rw [loopX_G (C':=pl_C4) (e:=(pl_h4 a0 a1 a2 [] false 0)) ?_ ?_,L1]
 rotate_left
 ·kernel_rfl
 ·simp+decide [pl_h4]
 simp+decide [pl_o4a,C2,K3,K4]
theorem pl_f2(C2:d_4=false)(B3a:H a2≤17179869184)(K4:runL n 73 [.own 0 out_4.length,.agg [.lit (.int .i64 a1),.lit (.bool (rawQ a2).s),natA (rawQ a2).l1,natA (rawQ a2).l2]] [.row 57 4 (out_4.map termC) 0]=some (.own 3 R18.length,[(3,.row 57 4 (R18.map termC) 0)])):
  run (n+1) 52 [formV a0,.lit (.int .i64 a1),ratV a2]=some (formV (R18,a0.2)):=by
 have K3:=r_canon (p:=a2) B3a
 unfold run fnP
 simp+decide [Tryz.f52]
 rw [loopX_G (C':=pl_C4) (e:=(pl_h4 a0 a1 a2 [] false 0)) ?_ ?_,L1]
 rotate_left
 ·kernel_rfl
 ·simp+decide [pl_h4]
 simp+decide [pl_o4a,C2,K3,K4]
theorem pl_f3(C2:d_4=true):
  run (n+1) 52 [formV a0,.lit (.int .i64 a1),ratV a2]=some (formV (out_4,a0.2)):=by
 unfold run fnP
 simp+decide [Tryz.f52]
 rw [loopX_G (C':=pl_C4) (e:=(pl_h4 a0 a1 a2 [] false 0)) ?_ ?_,L1]
 rotate_left
 ·kernel_rfl
 ·simp+decide [pl_h4]
 simp+decide [pl_o4a,C2]
end
end
noncomputable def ad_C3:Code:=(loopsOf (bodyOf Tryz.f31)).getD 0 .skip
def ad_h3(a1:Form)(i_3:Nat)(l_3:List (Int × Rat))(s_3:Rat):St:=
 ⟨[(3,.ptr 0 0),(4,.ptr 1 0),(5,.ptr 2 0),(6,.lit (.int .i64 (i_3:Int)))],
  [(0,some (.box 45 [.sl 4 (a1.1.map termC),.lit (.bool (rawQ a1.2).s),natA (rawQ a1.2).l1,natA (rawQ a1.2).l2] false)),
   (1,some (.box 45 [.nl 4,.lit (.bool false),.nl 1,.nl 1] false)),
   (2,some (.box 45 [.sl 4 (l_3.map termC),.lit (.bool (rawQ s_3).s),natA (rawQ s_3).l1,natA (rawQ s_3).l2] false))],3⟩
def ad_o3a(l_3:List (Int × Rat))(s_3:Rat):St:=
 ⟨[(4,.ptr 0 0),(5,.ptr 1 0)],
  [(0,some (.box 45 [.nl 4,.lit (.bool false),.nl 1,.nl 1] false)),
   (1,some (.box 45 [.sl 4 (l_3.map termC),.lit (.bool (rawQ s_3).s),natA (rawQ s_3).l1,natA (rawQ s_3).l2] false))],2⟩
section
variable{l_3:List (Int × Rat)}{n:Nat}{v3:Int}{a1:Form}{q3:Rat}{i_3:Nat}{s_3:Rat}{r3:Form}{a0:Form}
theorem ad_r3_1(C1:(i_3:Int)<(a1.1.length:Int))(E2:a1.1[i_3]?=some (v3,q3))(K3:run (n+1) 52 [formV (l_3,s_3),.lit (.int .i64 v3),ratV q3]=some (formV r3))(W4:InI ((i_3:Int)+1)):
  Cont 0 (exec Tryz.prog (tab (n+2)) 0 43 (livesOf 31) big ad_C3) (livesOf 31 3) (ad_h3 a1 i_3 l_3 s_3) (ad_h3 a1 (i_3+1) r3.1 r3.2):=by
 have C1_:i_3<a1.1.length:=by omega
 obtain ⟨EL2,EG2⟩:=List.getElem?_eq_some_iff.1 E2
 simp only [ratV,formV] at K3
 have W4_:IntKind.i64.wrap ((i_3:Int)+1)=(i_3:Int)+1:=wr64 W4.1 W4.2
 unfold Cont
 simp+decide [ad_h3,loopsOf, Tryz.f31,ad_C3,C1,C1_,EG2,K3,W4_]
theorem ad_x3_1(C1:¬(i_3:Int)<(a1.1.length:Int)):
  Leave 0 (exec Tryz.prog (tab (n+2)) 0 43 (livesOf 31) big ad_C3) (livesOf 31 (outOf 3)) (ad_h3 a1 i_3 l_3 s_3) (.exit 0) (ad_o3a l_3 s_3):=by
 unfold Leave
 simp+decide [ad_h3,loopsOf, Tryz.f31,ad_o3a,ad_C3,C1]
theorem ad_f1(B1a:H a0.2≤17179869184)(B1b:H a1.2≤17179869184)(L2:loopG Tryz.prog (tab (n+2)) 0 43 (livesOf 31) 3 ad_C3 (ad_h3 a1 0 a0.1 (a0.2+a1.2))=some (.exit 0,ad_o3a l_3 s_3))(M3:l_3.length≤100000000):
  run (n+2) 31 [formV a0,formV a1]=some (formV (l_3,s_3)):=by
 have K1:=r_add (p:=a0.2) (q:=a1.2) B1a B1b
 have M3_:∀b,b≤10000→roomy (l_3.length) b=true:=fun b hb=>roomy_s M3 hb
 unfold run fnP
 simp+decide [Tryz.f31,K1]
 rw [loopX_G (C':=ad_C3) (e:=(ad_h3 a1 0 a0.1 (a0.2+a1.2))) ?_ ?_,L2]
 rotate_left
 ·kernel_rfl
 ·simp+decide [ad_h3]
 simp+decide [ad_o3a,M3_]
end
noncomputable def sc_C3:Code:=(loopsOf (bodyOf Tryz.f50)).getD 0 .skip
def sc_h3(a0:Form)(a1:Rat)(i_3:Nat)(out_3:List (Int × Rat)):St:=
 ⟨[(2,.ptr 0 0),(3,.ptr 1 0),(4,.ptr 2 0),(5,.ptr 3 0),(6,.lit (.int .i64 (i_3:Int)))],
  [(0,some (.box 45 [.sl 4 (a0.1.map termC),.lit (.bool (rawQ a0.2).s),natA (rawQ a0.2).l1,natA (rawQ a0.2).l2] false)),
   (1,some (.box 34 [.lit (.bool (rawQ a1).s),natA (rawQ a1).l1,natA (rawQ a1).l2] false)),
   (2,some (.box 45 [.nl 4,.lit (.bool false),.nl 1,.nl 1] false)),
   (3,some (.box 45 [.own 4 out_3.length,.lit (.bool (rawQ (a0.2*a1)).s),natA (rawQ (a0.2*a1)).l1,natA (rawQ (a0.2*a1)).l2] false)),
   (4,some (.row 57 4 (out_3.map termC) 0))],5⟩
def sc_o3a(a0:Form)(a1:Rat)(out_3:List (Int × Rat)):St:=
 ⟨[(4,.ptr 0 0),(5,.ptr 1 0)],
  [(0,some (.box 45 [.nl 4,.lit (.bool false),.nl 1,.nl 1] false)),
   (1,some (.box 45 [.own 2 out_3.length,.lit (.bool (rawQ (a0.2*a1)).s),natA (rawQ (a0.2*a1)).l1,natA (rawQ (a0.2*a1)).l2] false)),
   (2,some (.row 57 4 (out_3.map termC) 0))],3⟩
section
variable{n:Nat}{v3:Int}{a1:Rat}{q3:Rat}{i_3:Nat}{a0:Form}{out_3:List (Int × Rat)}{R3:List (Int × Rat)}
section
variable(C1:(i_3:Int)<(a0.1.length:Int))(E2:a0.1[i_3]?=some (v3,q3))(B3a:H q3≤17179869184)(B3b:H a1≤17179869184)
include C1 E2 B3a B3b
theorem sc_r3_1(K4:runL n 73 [.own 0 out_3.length,.agg [.lit (.int .i64 v3),.lit (.bool (rawQ (q3*a1)).s),natA (rawQ (q3*a1)).l1,natA (rawQ (q3*a1)).l2]] [.row 57 4 (out_3.map termC) 0]=some (.own 0 out_3.length,[(0,.row 57 4 (out_3.map termC) 0)]))(W5:InI ((i_3:Int)+1)):
  Cont 0 (exec Tryz.prog (tab (n+1)) 0 39 (livesOf 50) big sc_C3) (livesOf 50 3) (sc_h3 a0 a1 i_3 out_3) (sc_h3 a0 a1 (i_3+1) out_3):=by
 have C1_:i_3<a0.1.length:=by omega
 obtain ⟨EL2,EG2⟩:=List.getElem?_eq_some_iff.1 E2
 have K3:=r_mul (p:=q3) (q:=a1) B3a B3b
 have W5_:IntKind.i64.wrap ((i_3:Int)+1)=(i_3:Int)+1:=wr64 W5.1 W5.2
 unfold Cont
 simp+decide [sc_h3,loopsOf, Tryz.f50,sc_C3,C1,C1_,EG2,K3,K4,W5_]
theorem sc_r3_2(K4:runL n 73 [.own 0 out_3.length,.agg [.lit (.int .i64 v3),.lit (.bool (rawQ (q3*a1)).s),natA (rawQ (q3*a1)).l1,natA (rawQ (q3*a1)).l2]] [.row 57 4 (out_3.map termC) 0]=some (.own 3 R3.length,[(3,.row 57 4 (R3.map termC) 0)]))(W5:InI ((i_3:Int)+1)):
  Cont 0 (exec Tryz.prog (tab (n+1)) 0 39 (livesOf 50) big sc_C3) (livesOf 50 3) (sc_h3 a0 a1 i_3 out_3) (sc_h3 a0 a1 (i_3+1) R3):=by
 have C1_:i_3<a0.1.length:=by omega
 obtain ⟨EL2,EG2⟩:=List.getElem?_eq_some_iff.1 E2
 have K3:=r_mul (p:=q3) (q:=a1) B3a B3b
 have W5_:IntKind.i64.wrap ((i_3:Int)+1)=(i_3:Int)+1:=wr64 W5.1 W5.2
 unfold Cont
 simp+decide [sc_h3,loopsOf, Tryz.f50,sc_C3,C1,C1_,EG2,K3,K4,W5_]
end
theorem sc_x3_1(C1:¬(i_3:Int)<(a0.1.length:Int)):
  Leave 0 (exec Tryz.prog (tab (n+1)) 0 39 (livesOf 50) big sc_C3) (livesOf 50 (outOf 3)) (sc_h3 a0 a1 i_3 out_3) (.exit 0) (sc_o3a a0 a1 out_3):=by
 unfold Leave
 simp+decide [sc_h3,loopsOf, Tryz.f50,sc_o3a,sc_C3,C1]
theorem sc_f1(B1a:H a0.2≤17179869184)(B1b:H a1≤17179869184)(L2:loopG Tryz.prog (tab (n+1)) 0 39 (livesOf 50) 3 sc_C3 (sc_h3 a0 a1 0 [])=some (.exit 0,sc_o3a a0 a1 out_3)):
  run (n+1) 50 [formV a0,ratV a1]=some (formV (out_3,a0.2*a1)):=by
 have K1:=r_mul (p:=a0.2) (q:=a1) B1a B1b
 unfold run fnP
 simp+decide [Tryz.f50,K1]
 rw [loopX_G (C':=sc_C3) (e:=(sc_h3 a0 a1 0 [])) ?_ ?_,L2]
 rotate_left
 ·kernel_rfl
 ·simp+decide [sc_h3]
 simp+decide [sc_o3a]
end
theorem nz_same{n:Nat}{F:List (Int × Rat)}{v:Int}{q:Rat}(hq:H q≤17179869184)(h0:q=0):
  runL n 73 [.own 0 F.length,.agg [.lit (.int .i64 v),.lit (.bool (rawQ q).s),natA (rawQ q).l1,natA (rawQ q).l2]] [.row 57 4 (F.map termC) 0]=some (.own 0 F.length,[(0,.row 57 4 (F.map termC) 0)]):=by
 unfold runL fnL
 have hs:=r_sign (p:=q) hq
 have e2:(sgR q==0)=true:=by rw [sgR_eq_zero.2 h0];rfl
 simp+decide [Tryz.f73,hs,e2]
theorem nz_new{n:Nat}{F:List (Int × Rat)}{v:Int}{q:Rat}(hq:H q≤17179869184)(h0:q≠0)(hF:F.length≤10000000):
  runL n 73 [.own 0 F.length,.agg [.lit (.int .i64 v),.lit (.bool (rawQ q).s),natA (rawQ q).l1,natA (rawQ q).l2]] [.row 57 4 (F.map termC) 0]=some (.own 3 (F++[(v,q)]).length,[(3,.row 57 4 ((F++[(v,q)]).map termC) 0)]):=by
 unfold runL fnL
 have hs:=r_sign (p:=q) hq
 have e2:(sgR q==0)=false:=by simpa using fun h=>h0 (sgR_eq_zero.1 h)
 have hr:∀b,b≤10000→roomy (F.length+1) b=true:=fun b hb=>roomy_s (by omega) hb
 simp+decide [Tryz.f73,hs,e2,hr]
def plF(v:Int)(c:Rat)(i:Nat)(b:List (Int × Rat) × Bool)(t:Int × Rat):List (Int × Rat) × Bool:=
 if t.1=v then (b.1++put1 t.1 (t.2+c),true) else if b.2=false∧v<t.1 then (b.1++(put1 v c++put1 t.1 t.2),true) else (b.1++put1 t.1 t.2,b.2)
theorem plF_fold(v:Int)(c:Rat):∀(R:List (Int × Rat)) (i:Nat) (out:List (Int × Rat)) (d:Bool),foldI (plF v c) i (out,d) R=(out++plO d R v c,plD d R v)
 | [],i,out,d=>by simp [foldI,plO,plD]
 | t::R,i,out,d=>by
   rw [foldI,plO,plD,plF]
   split
   ·rw [plF_fold];simp [List.append_assoc]
   ·split
    ·rw [plF_fold];simp [List.append_assoc]
    ·rw [plF_fold];simp [List.append_assoc]
theorem pl_step{n:Nat}{f:Form}{v:Int}{c:Rat}(hT:TmB 1000000 f.1)(hF:f.1.length≤400000)(hc:H c≤1000000){i:Nat}{t:Int × Rat}{b:List (Int × Rat) × Bool}(hi:f.1[i]?=some t)(hb:b.1.length≤2*i):
  Cont 0 (exec Tryz.prog (tab (n+1)) 0 61 (livesOf 52) big pl_C4) (livesOf 52 4) (pl_h4 f v c b.1 b.2 i) (pl_h4 f v c (plF v c i b t).1 (plF v c i b t).2 (i+1)):=by
 obtain ⟨u,q⟩:=t
 obtain ⟨out,d⟩:=b
 have hlt:=(List.getElem?_eq_some_iff.1 hi).1
 have ht:=hT _ (List.mem_of_getElem? hi)
 have hq:H q≤1000000:=ht.2
 have hq0:q≠0:=ht.1
 have hH:=H_add q c
 have C1:(i:Int)<(f.1.length:Int):=by omega
 have W:InI ((i:Int)+1):=⟨by omega,by omega⟩
 have hb:out.length≤2*i:=hb
 have e3:put1 u q=[(u,q)]:=if_neg hq0
 unfold plF
 dsimp only
 split
 ·rename_i e
  by_cases h0:q+c=0
  ·have e4:put1 u (q+c)=[]:=if_pos h0
   rw [e4,List.append_nil]
   exact pl_r4_1 C1 hi e (by omega) (by omega) (nz_same (by omega) h0) W
  ·have e4:put1 u (q+c)=[(u,q+c)]:=if_neg h0
   rw [e4]
   exact pl_r4_2 C1 hi e (by omega) (by omega) (nz_new (by omega) h0 (by omega)) W
 ·rename_i e
  split
  ·rename_i e2
   obtain ⟨e2,e5⟩:=e2
   rw [e3]
   by_cases h0:c=0
   ·have e4:put1 v c=[]:=if_pos h0
    rw [e4,List.nil_append]
    exact pl_r4_4 C1 hi e e2 e5 (by omega) (nz_same (by omega) h0) (nz_new (by omega) hq0 (by omega)) W
   ·have e4:put1 v c=[(v,c)]:=if_neg h0
    rw [e4,←List.append_assoc]
    exact pl_r4_6 C1 hi e e2 e5 (by omega) (nz_new (by omega) h0 (by omega)) (nz_new (by omega) hq0 (by rw [List.length_append];simp;omega)) W
  ·rename_i e2
   rw [e3]
   cases d with
   | true=>exact pl_r4_10 C1 hi e rfl (nz_new (by omega) hq0 (by omega)) W
   | false=>exact pl_r4_8 C1 hi e rfl (fun h=>e2 ⟨rfl,h⟩) (nz_new (by omega) hq0 (by omega)) W
theorem plF_len(v:Int)(c:Rat)(i:Nat)(b:List (Int × Rat) × Bool)(t:Int × Rat):(plF v c i b t).1.length≤b.1.length+2:=by
 have h1:=put1_len t.1 (t.2+c)
 have h2:=put1_len v c
 have h3:=put1_len t.1 t.2
 unfold plF
 split
 ·rw [List.length_append];omega
 ·split
  ·rw [List.length_append,List.length_append];omega
  ·rw [List.length_append];omega
theorem plus_c{n:Nat}{f:Form}{v:Int}{c:Rat}(hT:TmB 1000000 f.1)(hF:f.1.length≤400000)(hc:H c≤1000000):
  run (n+1) 52 [formV f,.lit (.int .i64 v),ratV c]=some (formV (plusV false f.1 v c,f.2)):=by
 have L:loopG Tryz.prog (tab (n+1)) 0 61 (livesOf 52) 4 pl_C4 (pl_h4 f v c [] false 0)=some (.exit 0,pl_o4a f v c (plO false f.1 v c) (plD false f.1 v)):=by
  have h:=(loopG_I (O:=tab (n+1)) (exN:=.exit 0) (L:=f.1) (enc:=fun i b=>pl_h4 f v c b.1 b.2 i) (f:=plF v c) (Inv:=fun i b=>b.1.length≤2*i) (out:=fun b=>pl_o4a f v c b.1 b.2) ([],false) (by simp) (by omega) (by simp)
   (fun i t b hi hI=>⟨pl_step hT hF hc hi hI,by have:=plF_len v c i b t;omega⟩) (fun b hI=>pl_x4_1 (by omega))).1
  rw [plF_fold] at h
  exact h
 have hl:=plO_len v c false f.1
 rw [plusV_plO]
 cases hd:plD false f.1 v with
 | true=>
   rw [hd] at L
   rw [if_pos rfl,List.append_nil]
   exact pl_f3 L rfl
 | false=>
   rw [hd] at L
   rw [if_neg (by simp)]
   by_cases h0:c=0
   ·have e:put1 v c=[]:=if_pos h0
    rw [e,List.append_nil]
    exact pl_f1 L rfl (by omega) (nz_same (by omega) h0)
   ·have e:put1 v c=[(v,c)]:=if_neg h0
    rw [e]
    exact pl_f2 L rfl (by omega) (nz_new (by omega) h0 (by omega))
theorem scale_c{n:Nat}{f:Form}{c:Rat}(hT:TmB 1000000 f.1)(hF:f.1.length≤400000)(hk:H f.2≤1000000)(hc:H c≤1000000):
  run (n+1) 50 [formV f,ratV c]=some (formV (sclV f.1 c,f.2*c)):=by
 have key:∀(R:List (Int × Rat)) (i:Nat) (o:List (Int × Rat)),foldI (fun _ b (t:Int × Rat)=>b++put1 t.1 (t.2*c)) i o R=o++sclV R c:=fun R=>by
  induction R with
  | nil=>intro i o;simp [foldI,sclV]
  | cons t R ih=>intro i o;rw [foldI,ih];simp [sclV,List.append_assoc]
 refine sc_f1 (by omega) (by omega) ?_
 have h:=(loopG_I (O:=tab (n+1)) (exN:=.exit 0) (L:=f.1) (enc:=fun i b=>sc_h3 f c i b) (f:=fun _ b (t:Int × Rat)=>b++put1 t.1 (t.2*c)) (Inv:=fun i b=>b.length≤i) (out:=fun b=>sc_o3a f c b) [] (by simp) (by omega) (by simp)
  (fun i t b hi hI=>by
   obtain ⟨u,q⟩:=t
   have hlt:=(List.getElem?_eq_some_iff.1 hi).1
   have hq:H q≤1000000:=(hT _ (List.mem_of_getElem? hi)).2
   have hm:=H_mul q c
   have C1:(i:Int)<(f.1.length:Int):=by omega
   have W:InI ((i:Int)+1):=⟨by omega,by omega⟩
   have hl:=put1_len u (q*c)
   refine ⟨?_,by rw [List.length_append];dsimp only;omega⟩
   dsimp only
   by_cases h0:q*c=0
   ·have e:put1 u (q*c)=[]:=if_pos h0
    rw [e,List.append_nil]
    exact sc_r3_1 C1 hi (by omega) (by omega) (nz_same (by omega) h0) W
   ·have e:put1 u (q*c)=[(u,q*c)]:=if_neg h0
    rw [e]
    exact sc_r3_2 C1 hi (by omega) (by omega) (nz_new (by omega) h0 (by omega)) W) (fun b hI=>sc_x3_1 (by omega))).1
 rw [key,List.nil_append] at h
 exact h
theorem add_c{n:Nat}{f g:Form}{m b:Nat}(hT:TmB b g.1)(hG:g.1.length≤200000)(hF:TmB m f.1)(hl:f.1.length≤200000)(hm:m+(b+1)*(g.1.length+1)≤1000000)(h1:H f.2≤1000000)(h2:H g.2≤1000000):
  run (n+2) 31 [formV f,formV g]=some (formV (addV f.1 g.1,f.2+g.2)):=by
 have key:∀(R:List (Int × Rat)) (i:Nat) (o:List (Int × Rat)),foldI (fun _ b (t:Int × Rat)=>plusV false b t.1 t.2) i o R=addV o R:=fun R=>by
  induction R with
  | nil=>intro i o;rfl
  | cons t R ih=>intro i o;rw [foldI,ih];rfl
 have hlen:∀(R o:List (Int × Rat)),(addV o R).length≤o.length+R.length:=fun R=>by
  induction R with
  | nil=>intro o;simp [addV]
  | cons t R ih=>
    intro o
    have h1:=ih (plusV false o t.1 t.2)
    have h2:=plusV_len false o t.1 t.2
    show (addV (plusV false o t.1 t.2) R).length≤_
    rw [List.length_cons];omega
 refine ad_f1 (by omega) (by omega) ?_ (by have:=hlen g.1 f.1;omega)
 have h:=(loopG_I (O:=tab (n+2)) (exN:=.exit 0) (L:=g.1) (enc:=fun i o=>ad_h3 g i o (f.2+g.2)) (f:=fun _ o (t:Int × Rat)=>plusV false o t.1 t.2) (Inv:=fun i o=>o.length≤f.1.length+i∧TmB (m+(b+1)*i) o∧i≤g.1.length) (out:=fun o=>ad_o3a o (f.2+g.2)) f.1 ⟨by omega,by simpa using hF,by omega⟩ (by omega) (by simp)
  (fun i t o hi hI=>by
   obtain ⟨u,q⟩:=t
   obtain ⟨hI1,hI2,hI3⟩:=hI
   have hlt:=(List.getElem?_eq_some_iff.1 hi).1
   have hq:H q≤b:=(hT _ (List.mem_of_getElem? hi)).2
   have C1:(i:Int)<(g.1.length:Int):=by omega
   have W:InI ((i:Int)+1):=⟨by omega,by omega⟩
   have hl2:=plusV_len false o u q
   have hmi:(b+1)*i≤(b+1)*(g.1.length+1):=Nat.mul_le_mul_left _ (by omega)
   have hb1:b+1≤(b+1)*(g.1.length+1):=Nat.le_mul_of_pos_right _ (by omega)
   have e:m+(b+1)*(i+1)=m+(b+1)*i+b+1:=by rw [Nat.mul_succ];omega
   refine ⟨ad_r3_1 (r3:=(plusV false o u q,f.2+g.2)) C1 hi (plus_c (f:=(o,f.2+g.2)) (hI2.mono (by omega)) (by dsimp only;omega) (by omega)) W,by dsimp only;omega,?_,hlt⟩
   rw [e]
   exact hI2.plus hq) (fun b hI=>ad_x3_1 (by omega))).1
 rw [key] at h
 exact h
noncomputable def va_C2:Code:=(loopsOf (bodyOf Tryz.f43)).getD 0 .skip
def va_h2(a0:Form)(a1:Int)(i_2:Nat):St:=
 ⟨[(1,.lit (.int .i64 a1)),(2,.ptr 0 0),(5,.lit (.int .i64 (i_2:Int)))],
  [(0,some (.box 45 [.sl 4 (a0.1.map termC),.lit (.bool (rawQ a0.2).s),natA (rawQ a0.2).l1,natA (rawQ a0.2).l2] false))],1⟩
def va_o2a(a0:Form):St:=
 ⟨[(2,.ptr 0 0),(4,.lit (.bool false))],
  [(0,some (.box 45 [.sl 4 (a0.1.map termC),.lit (.bool (rawQ a0.2).s),natA (rawQ a0.2).l1,natA (rawQ a0.2).l2] false))],1⟩
def va_o2b(a0:Form):St:=
 ⟨[(2,.ptr 0 0),(4,.any)],
  [(0,some (.box 45 [.sl 4 (a0.1.map termC),.lit (.bool (rawQ a0.2).s),natA (rawQ a0.2).l1,natA (rawQ a0.2).l2] false))],1⟩
section
variable {q5 : Rat} {n : Nat} {a1 : Int} {i_2 : Nat} {q4 : Rat} {v4 : Int} {a0 : Form} {v5 : Int}
section
variable(C1:(i_2:Int)<(a0.1.length:Int))(E2:a0.1[i_2]?=some (v4,q4))
include C1 E2
theorem va_r2_1(C3:¬v4<0)(C4:¬a1≤v4)(C5:0<(i_2:Int))(W6:InI ((i_2:Int)-1))(E7:a0.1[i_2-1]?=some (v5,q5))(Z7:1≤i_2)(C8:¬v4≤v5)(B9a:H q4≤17179869184)(C10:¬sgR q4=0)(W12:InI ((i_2:Int)+1)):
  Cont 0 (exec Tryz.prog (tab n) 0 59 (livesOf 43) big va_C2) (livesOf 43 2) (va_h2 a0 a1 i_2) (va_h2 a0 a1 (i_2+1)):=by
 have C1_:i_2<a0.1.length:=by omega
 obtain ⟨EL2,EG2⟩:=List.getElem?_eq_some_iff.1 E2
 have C5_:0<i_2:=by omega
 have C5_z:(i_2:Int)≠0:=by omega
 have C5_e:((i_2:Int)==0)=false:=by simpa using C5_z
 have C5_g:((i_2:Int) !=0)=true:=by simpa using C5_z
 have W6_:IntKind.i64.wrap ((i_2:Int)-1)=(i_2:Int)-1:=wr64 W6.1 W6.2
 obtain ⟨EL7,EG7⟩:=List.getElem?_eq_some_iff.1 E7
 have Z7_0:(1:Int)≤(i_2:Int):=by omega
 have Z7_1:0≤(i_2:Int)-1:=by omega
 have K9:=r_sign (p:=q4) B9a
 have C10_:(sgR q4==0)=false:=by simpa using C10
 have C10_n:(sgR q4 !=0)=true:=by simpa using C10
 have K11:=r_valid (p:=q4) B9a
 have W12_:IntKind.i64.wrap ((i_2:Int)+1)=(i_2:Int)+1:=wr64 W12.1 W12.2
 unfold Cont
 simp+decide [va_h2,loopsOf, Tryz.f43,va_C2,C1,C1_,EL2,EG2,E2,C3,C4,C5,C5_,C5_e,C5_g,W6_,EL7,EG7,E7,Z7,Z7_0,Z7_1,C8,K9,C10_,C10_n,K11,W12_]
theorem va_r2_2(C3:¬v4<0)(C4:¬a1≤v4)(C5:¬0<(i_2:Int))(B6a:H q4≤17179869184)(C7:¬sgR q4=0)(W9:InI ((i_2:Int)+1)):
  Cont 0 (exec Tryz.prog (tab n) 0 59 (livesOf 43) big va_C2) (livesOf 43 2) (va_h2 a0 a1 i_2) (va_h2 a0 a1 (i_2+1)):=by
 have C1_:i_2<a0.1.length:=by omega
 obtain ⟨EL2,EG2⟩:=List.getElem?_eq_some_iff.1 E2
 have C5_:¬0<i_2:=by omega
 have C5_z:(i_2:Int)=0:=by omega
 have C5_e:((i_2:Int)==0)=true:=by rw [C5_z];simp
 have C5_g:((i_2:Int) !=0)=false:=by rw [C5_z];simp
 have K6:=r_sign (p:=q4) B6a
 have C7_:(sgR q4==0)=false:=by simpa using C7
 have C7_n:(sgR q4 !=0)=true:=by simpa using C7
 have K8:=r_valid (p:=q4) B6a
 have W9_:IntKind.i64.wrap ((i_2:Int)+1)=(i_2:Int)+1:=wr64 W9.1 W9.2
 unfold Cont
 simp+decide [va_h2,loopsOf, Tryz.f43,va_C2,C1,C1_,EL2,EG2,E2,C3,C4,C5,C5_,C5_e,C5_g,K6,C7_,C7_n,K8,W9_]
theorem va_x2_1(C3:v4<0):
  Leave 0 (exec Tryz.prog (tab n) 0 59 (livesOf 43) big va_C2) (livesOf 43 (outOf 2)) (va_h2 a0 a1 i_2) (.ret) (va_o2a a0):=by
 have C1_:i_2<a0.1.length:=by omega
 obtain ⟨EL2,EG2⟩:=List.getElem?_eq_some_iff.1 E2
 unfold Leave
 simp+decide [va_h2,loopsOf, Tryz.f43,va_o2a,va_C2,C1,C1_,EL2,EG2,E2,C3]
theorem va_x2_2(C3:¬v4<0)(C4:a1≤v4):
  Leave 0 (exec Tryz.prog (tab n) 0 59 (livesOf 43) big va_C2) (livesOf 43 (outOf 2)) (va_h2 a0 a1 i_2) (.ret) (va_o2a a0):=by
 have C1_:i_2<a0.1.length:=by omega
 obtain ⟨EL2,EG2⟩:=List.getElem?_eq_some_iff.1 E2
 unfold Leave
 simp+decide [va_h2,loopsOf, Tryz.f43,va_o2a,va_C2,C1,C1_,EL2,EG2,E2,C3,C4]
theorem va_x2_3(C3:¬v4<0)(C4:¬a1≤v4)(C5:0<(i_2:Int))(W6:InI ((i_2:Int)-1))(E7:a0.1[i_2-1]?=some (v5,q5))(Z7:1≤i_2)(C8:v4≤v5):
  Leave 0 (exec Tryz.prog (tab n) 0 59 (livesOf 43) big va_C2) (livesOf 43 (outOf 2)) (va_h2 a0 a1 i_2) (.ret) (va_o2a a0):=by
 have C1_:i_2<a0.1.length:=by omega
 obtain ⟨EL2,EG2⟩:=List.getElem?_eq_some_iff.1 E2
 have C5_:0<i_2:=by omega
 have C5_z:(i_2:Int)≠0:=by omega
 have C5_e:((i_2:Int)==0)=false:=by simpa using C5_z
 have C5_g:((i_2:Int) !=0)=true:=by simpa using C5_z
 have W6_:IntKind.i64.wrap ((i_2:Int)-1)=(i_2:Int)-1:=wr64 W6.1 W6.2
 obtain ⟨EL7,EG7⟩:=List.getElem?_eq_some_iff.1 E7
 have Z7_0:(1:Int)≤(i_2:Int):=by omega
 have Z7_1:0≤(i_2:Int)-1:=by omega
 unfold Leave
 simp+decide [va_h2,loopsOf, Tryz.f43,va_o2a,va_C2,C1,C1_,EL2,EG2,E2,C3,C4,C5,C5_,C5_e,C5_g,W6_,EL7,EG7,E7,Z7,Z7_0,Z7_1,C8]
theorem va_x2_4(C3:¬v4<0)(C4:¬a1≤v4)(C5:0<(i_2:Int))(W6:InI ((i_2:Int)-1))(E7:a0.1[i_2-1]?=some (v5,q5))(Z7:1≤i_2)(C8:¬v4≤v5)(B9a:H q4≤17179869184)(C10:sgR q4=0):
  Leave 0 (exec Tryz.prog (tab n) 0 59 (livesOf 43) big va_C2) (livesOf 43 (outOf 2)) (va_h2 a0 a1 i_2) (.ret) (va_o2a a0):=by
 have C1_:i_2<a0.1.length:=by omega
 obtain ⟨EL2,EG2⟩:=List.getElem?_eq_some_iff.1 E2
 have C5_:0<i_2:=by omega
 have C5_z:(i_2:Int)≠0:=by omega
 have C5_e:((i_2:Int)==0)=false:=by simpa using C5_z
 have C5_g:((i_2:Int) !=0)=true:=by simpa using C5_z
 have W6_:IntKind.i64.wrap ((i_2:Int)-1)=(i_2:Int)-1:=wr64 W6.1 W6.2
 obtain ⟨EL7,EG7⟩:=List.getElem?_eq_some_iff.1 E7
 have Z7_0:(1:Int)≤(i_2:Int):=by omega
 have Z7_1:0≤(i_2:Int)-1:=by omega
 have K9:=r_sign (p:=q4) B9a
 have C10_:(sgR q4==0)=true:=by rw [C10];simp
 have C10_n:(sgR q4 !=0)=false:=by rw [C10];simp
 unfold Leave
 simp+decide [va_h2,loopsOf, Tryz.f43,va_o2a,va_C2,C1,C1_,EL2,EG2,E2,C3,C4,C5,C5_,C5_e,C5_g,W6_,EL7,EG7,E7,Z7,Z7_0,Z7_1,C8,K9,C10_,C10_n]
theorem va_x2_5(C3:¬v4<0)(C4:¬a1≤v4)(C5:¬0<(i_2:Int))(B6a:H q4≤17179869184)(C7:sgR q4=0):
  Leave 0 (exec Tryz.prog (tab n) 0 59 (livesOf 43) big va_C2) (livesOf 43 (outOf 2)) (va_h2 a0 a1 i_2) (.ret) (va_o2a a0):=by
 have C1_:i_2<a0.1.length:=by omega
 obtain ⟨EL2,EG2⟩:=List.getElem?_eq_some_iff.1 E2
 have C5_:¬0<i_2:=by omega
 have C5_z:(i_2:Int)=0:=by omega
 have C5_e:((i_2:Int)==0)=true:=by rw [C5_z];simp
 have C5_g:((i_2:Int) !=0)=false:=by rw [C5_z];simp
 have K6:=r_sign (p:=q4) B6a
 have C7_:(sgR q4==0)=true:=by rw [C7];simp
 have C7_n:(sgR q4 !=0)=false:=by rw [C7];simp
 unfold Leave
 simp+decide [va_h2,loopsOf, Tryz.f43,va_o2a,va_C2,C1,C1_,EL2,EG2,E2,C3,C4,C5,C5_,C5_e,C5_g,K6,C7_,C7_n]
end
theorem va_x2_6(C1:¬(i_2:Int)<(a0.1.length:Int)):
  Leave 0 (exec Tryz.prog (tab n) 0 59 (livesOf 43) big va_C2) (livesOf 43 (outOf 2)) (va_h2 a0 a1 i_2) (.exit 0) (va_o2b a0):=by
 have C1_:¬i_2<a0.1.length:=by omega
 unfold Leave
 simp+decide [va_h2,loopsOf, Tryz.f43,va_o2b,va_C2,C1,C1_]
theorem va_f1(L1:loopG Tryz.prog (tab n) 0 59 (livesOf 43) 2 va_C2 (va_h2 a0 a1 0)=some (.ret,va_o2a a0)):
  run n 43 [formV a0,.lit (.int .i64 a1)]=some (.lit (.bool false)):=by
 unfold run fnP
 simp+decide [Tryz.f43]
 rw [loopX_G (C':=va_C2) (e:=(va_h2 a0 a1 0)) ?_ ?_,L1]
 rotate_left
 ·kernel_rfl
 ·simp+decide [va_h2]
 simp+decide [va_o2a]
theorem va_f2(L1:loopG Tryz.prog (tab n) 0 59 (livesOf 43) 2 va_C2 (va_h2 a0 a1 0)=some (.exit 0,va_o2b a0))(B2a:H a0.2≤17179869184):
  run n 43 [formV a0,.lit (.int .i64 a1)]=some (.lit (.bool true)):=by
 have K2:=r_valid (p:=a0.2) B2a
 unfold run fnP
 simp+decide [Tryz.f43,K2]
 rw [loopX_G (C':=va_C2) (e:=(va_h2 a0 a1 0)) ?_ ?_,L1]
 rotate_left
 ·kernel_rfl
 ·simp+decide [va_h2,K2]
 simp+decide [va_o2b,K2]
end
noncomputable def vl_C2:Code:=(loopsOf (bodyOf Tryz.f44)).getD 0 .skip
def vl_h2(a0:List Form)(a1:Int)(i_2:Nat):St:=
 ⟨[(0,.sl 4 (a0.map formC)),(1,.lit (.int .i64 a1)),(5,.lit (.int .i64 (i_2:Int)))],
  [],0⟩
def vl_o2a:St:=
 ⟨[(4,.lit (.bool false))],
  [],0⟩
def vl_o2b:St:=
 ⟨[(4,.any)],
  [],0⟩
section
variable{n:Nat}{a1:Int}{i_2:Nat}{F3:List (Int × Rat)}{q3:Rat}{a0:List Form}{r3:Bool}
section
variable(C1:(i_2:Int)<(a0.length:Int))(E2:a0[i_2]?=some (F3,q3))(K3:run n 43 [formV (F3,q3),.lit (.int .i64 a1)]=some (.lit (.bool r3)))
include C1 E2 K3
theorem vl_r2_1(C4:r3=true)(W5:InI ((i_2:Int)+1)):
  Cont 0 (exec Tryz.prog (tab (n+1)) 0 19 (livesOf 44) big vl_C2) (livesOf 44 2) (vl_h2 a0 a1 i_2) (vl_h2 a0 a1 (i_2+1)):=by
 have C1_:i_2<a0.length:=by omega
 obtain ⟨EL2,EG2⟩:=List.getElem?_eq_some_iff.1 E2
 simp only [formV] at K3
 have W5_:IntKind.i64.wrap ((i_2:Int)+1)=(i_2:Int)+1:=wr64 W5.1 W5.2
 unfold Cont
 simp+decide [vl_h2,loopsOf, Tryz.f44,vl_C2,C1,C1_,EL2,EG2,E2,K3,C4,W5_]
theorem vl_x2_1(C4:r3=false):
  Leave 0 (exec Tryz.prog (tab (n+1)) 0 19 (livesOf 44) big vl_C2) (livesOf 44 (outOf 2)) (vl_h2 a0 a1 i_2) (.ret) (vl_o2a):=by
 have C1_:i_2<a0.length:=by omega
 obtain ⟨EL2,EG2⟩:=List.getElem?_eq_some_iff.1 E2
 simp only [formV] at K3
 unfold Leave
 simp+decide [vl_h2,loopsOf, Tryz.f44,vl_o2a,vl_C2,C1,C1_,EL2,EG2,E2,K3,C4]
end
theorem vl_x2_2(C1:¬(i_2:Int)<(a0.length:Int)):
  Leave 0 (exec Tryz.prog (tab (n+1)) 0 19 (livesOf 44) big vl_C2) (livesOf 44 (outOf 2)) (vl_h2 a0 a1 i_2) (.exit 0) (vl_o2b):=by
 have C1_:¬i_2<a0.length:=by omega
 unfold Leave
 simp+decide [vl_h2,loopsOf, Tryz.f44,vl_o2b,vl_C2,C1,C1_]
theorem vl_f1(L1:loopG Tryz.prog (tab (n+1)) 0 19 (livesOf 44) 2 vl_C2 (vl_h2 a0 a1 0)=some (.ret,vl_o2a)):
  run (n+1) 44 [.sl 4 (a0.map formC),.lit (.int .i64 a1)]=some (.lit (.bool false)):=by
 unfold run fnP
 simp+decide [Tryz.f44]
 rw [loopX_G (C':=vl_C2) (e:=(vl_h2 a0 a1 0)) ?_ ?_,L1]
 rotate_left
 ·kernel_rfl
 ·simp+decide [vl_h2]
 simp+decide [vl_o2a]
theorem vl_f2(L1:loopG Tryz.prog (tab (n+1)) 0 19 (livesOf 44) 2 vl_C2 (vl_h2 a0 a1 0)=some (.exit 0,vl_o2b)):
  run (n+1) 44 [.sl 4 (a0.map formC),.lit (.int .i64 a1)]=some (.lit (.bool true)):=by
 unfold run fnP
 simp+decide [Tryz.f44]
 rw [loopX_G (C':=vl_C2) (e:=(vl_h2 a0 a1 0)) ?_ ?_,L1]
 rotate_left
 ·kernel_rfl
 ·simp+decide [vl_h2]
 simp+decide [vl_o2b]
end
section
attribute [local irreducible] run runL loopG exec
theorem sgq_nonneg{q:Rat}:0≤sgR q↔0≤q:=by
 unfold sgR
 rw [←Rat.num_nonneg]
 exact Int.sign_nonneg_iff
noncomputable def tv(p:Prop):Bool:=@decide p (Classical.propDecidable p)
theorem tv_t{p:Prop}(h:p):tv p=true:=@decide_eq_true p (Classical.propDecidable p) h
theorem tv_f{p:Prop}(h:¬p):tv p=false:=@decide_eq_false p (Classical.propDecidable p) h
theorem tv_true{p:Prop}(h:tv p=true):p:=@of_decide_eq_true p (Classical.propDecidable p) h
theorem tv_false{p:Prop}(h:tv p=false):¬p:=@of_decide_eq_false p (Classical.propDecidable p) h
theorem tv_iff{p q:Prop}(h:p↔q):tv p=tv q:=by rw [propext h]
def OkTm(F:List (Int × Rat))(vars:Int)(i:Nat):Prop:=∀v c,F[i]?=some (v,c)→0≤v∧v<vars∧c≠0∧∀v' c',0<i→F[i-1]?=some (v',c')→v'<v
def OkFm(f:Form)(vars:Int):Prop:=∀i,i<f.1.length→OkTm f.1 vars i
structure BdF (b:Nat) (f:Form):Prop where
 l:f.1.length≤100000000
 t:∀t∈f.1,H t.2≤b
 k:H f.2≤b
theorem BdF.mono{b c:Nat}{f:Form}(h:BdF b f)(hb:b≤c):BdF c f:=⟨h.l,fun t ht=>Nat.le_trans (h.t t ht) hb,Nat.le_trans h.k hb⟩
theorem validF_c{n:Nat}{f:Form}{vars:Int}(hB:BdF 17179869184 f):run n 43 [formV f,.lit (.int .i64 vars)]=some (.lit (.bool (tv (OkFm f vars)))):=by
 have hl:=hB.l
 have L:=loopG_all (O:=tab n) (P:= Tryz.prog) (m:=0) (N:=59) (lives:=livesOf 43) (r:=2) (C:=va_C2) (M:=f.1.length) (enc:=va_h2 f vars) (p:=fun i=>tv (OkTm f.1 vars i)) (exN:=.exit 0) (exE:=.ret) (out:=va_o2b f) (outE:=va_o2a f) (by omega) (by simp) (by simp)
  (fun i hi hI=>by
   have hx:f.1[i]?=some f.1[i]:=List.getElem?_eq_getElem hi
   generalize f.1[i]=t at hx
   obtain ⟨v,c⟩:=t
   have hc:H c≤17179869184:=hB.t _ (List.mem_of_getElem? hx)
   have C1:(i:Int)<(f.1.length:Int):=by omega
   have W:InI ((i:Int)+1):=⟨by omega,by omega⟩
   have W2:InI ((i:Int)-1):=⟨by omega,by omega⟩
   have hs:sgR c=0↔c=0:=sgR_eq_zero
   by_cases h0:0<i
   ·have hy:f.1[i-1]?=some (f.1[i-1]'(by omega)):=List.getElem?_eq_getElem _
    generalize f.1[i-1]'(by omega)=t at hy
    obtain ⟨v',c'⟩:=t
    refine ⟨fun hp=>?_,fun hp=>?_⟩
    ·obtain ⟨a1,a2,a3,a4⟩:=tv_true hp v c hx
     have a5:=a4 v' c' h0 hy
     exact va_r2_1 C1 hx (by omega) (by omega) (by omega) W2 hy (by omega) (by omega) hc (fun h=>a3 (hs.1 h)) W
    ·by_cases b1:v<0
     ·exact va_x2_1 C1 hx b1
     ·by_cases b2:vars≤v
      ·exact va_x2_2 C1 hx b1 b2
      ·by_cases b3:v≤v'
       ·exact va_x2_3 C1 hx b1 b2 (by omega) W2 hy (by omega) b3
       ·by_cases b4:c=0
        ·exact va_x2_4 C1 hx b1 b2 (by omega) W2 hy (by omega) b3 hc (hs.2 b4)
        ·refine absurd (fun u d hu=>?_) (tv_false hp)
         rw [hx] at hu;cases hu
         exact ⟨by omega,by omega,b4,fun v2 c2 _ h2=>by rw [hy] at h2;cases h2;omega⟩
   ·refine ⟨fun hp=>?_,fun hp=>?_⟩
    ·obtain ⟨a1,a2,a3,a4⟩:=tv_true hp v c hx
     exact va_r2_2 C1 hx (by omega) (by omega) (by omega) hc (fun h=>a3 (hs.1 h)) W
    ·by_cases b1:v<0
     ·exact va_x2_1 C1 hx b1
     ·by_cases b2:vars≤v
      ·exact va_x2_2 C1 hx b1 b2
      ·by_cases b4:c=0
       ·exact va_x2_5 C1 hx b1 b2 (by omega) hc (hs.2 b4)
       ·refine absurd (fun u d hu=>?_) (tv_false hp)
        rw [hx] at hu;cases hu
        exact ⟨by omega,by omega,b4,fun v2 c2 h2=>absurd h2 h0⟩)
  (va_x2_6 (by omega))
 by_cases h:OkFm f vars
 ·rw [if_pos (fun i hi=>tv_t (h i hi))] at L
  rw [tv_t h]
  exact va_f2 L hB.k
 ·rw [if_neg (fun h2=>h fun i hi=>tv_true (h2 i hi))] at L
  rw [tv_f h]
  exact va_f1 L
theorem all_idx{α:Type}{L:List α}{p:α→Prop}:(∀i,i<L.length→∀x,L[i]?=some x→p x)↔∀x∈L,p x:=by
 constructor
 ·intro h x hx
  obtain ⟨i,hi⟩:=List.mem_iff_getElem?.1 hx
  exact h i (List.getElem?_eq_some_iff.1 hi).1 x hi
 ·intro h i _ x hx
  exact h x (List.mem_of_getElem? hx)
end
def Srt(F:List (Int × Rat)):Prop:=F.Pairwise (fun a b=>a.1<b.1)∧∀t∈F,t.2≠0
def LBd(k:Int)(F:List (Int × Rat)):Prop:=∀t∈F,k<t.1
def cof:List (Int × Rat)→Int→Rat
 | [],_=>0
 | t::l,u=>if t.1=u then t.2 else cof l u
theorem cof_nil(u:Int):cof [] u=0:=rfl
theorem cof_hd{t:Int × Rat}{F:List (Int × Rat)}{u:Int}(h:u=t.1):cof (t::F) u=t.2:=by unfold cof;rw [if_pos h.symm]
theorem cof_tl{t:Int × Rat}{F:List (Int × Rat)}{u:Int}(h:u≠t.1):cof (t::F) u=cof F u:=by rw [cof,if_neg fun e=>h e.symm]
theorem Srt.nil:Srt []:=⟨List.Pairwise.nil,fun t ht=>by cases ht⟩
theorem Srt.tail{t:Int × Rat}{F:List (Int × Rat)}(h:Srt (t::F)):Srt F:=⟨(List.pairwise_cons.1 h.1).2,fun u hu=>h.2 u (by simp [hu])⟩
theorem Srt.head{t:Int × Rat}{F:List (Int × Rat)}(h:Srt (t::F)):LBd t.1 F:=fun u hu=>(List.pairwise_cons.1 h.1).1 u hu
theorem Srt.nz{t:Int × Rat}{F:List (Int × Rat)}(h:Srt (t::F)):t.2≠0:=h.2 t (by simp)
theorem cof_low:∀{F:List (Int × Rat)} {u:Int},(∀t∈F,t.1≠u)→cof F u=0
 | [],_,_=>rfl
 | t::F,u,h=>by rw [cof,if_neg (h t (by simp))];exact cof_low fun x hx=>h x (by simp [hx])
theorem LBd.cof{F:List (Int × Rat)}{k u:Int}(h:LBd k F)(hu:u≤k):cof F u=0:=cof_low fun t ht e=>by have:=h t ht;omega
theorem LBd.mono{F:List (Int × Rat)}{k j:Int}(h:LBd k F)(hj:j≤k):LBd j F:=fun t ht=>by have:=h t ht;omega
theorem put_srt{F:List (Int × Rat)}{v:Int}{q:Rat}(h:Srt F)(hl:LBd v F):Srt (put1 v q++F)∧(∀u,cof (put1 v q++F) u=if u=v then q else cof F u)∧∀k,k<v→LBd k (put1 v q++F):=by
 unfold put1
 split
 ·rename_i h0
  rw [List.nil_append]
  refine ⟨h,fun u=>?_,fun k hk=>hl.mono (by omega)⟩
  split
  ·rename_i e;subst e;rw [hl.cof (Int.le_refl _),h0]
  ·rfl
 ·rename_i h0
  refine ⟨⟨List.pairwise_cons.2 ⟨fun x hx=>hl x hx,h.1⟩,fun t ht=>?_⟩,fun u=>?_,fun k hk t ht=>?_⟩
  ·rcases List.mem_cons.1 ht with rfl|ht
   ·exact h0
   ·exact h.2 t ht
  ·show cof ((v,q)::F) u=_
   rw [cof]
   by_cases e:v=u
   ·rw [if_pos e,if_pos e.symm]
   ·rw [if_neg e,if_neg fun e2=>e e2.symm]
  ·rcases List.mem_cons.1 ht with rfl|ht
   ·exact hk
   ·have:=hl t ht;omega
theorem srt_ext:∀{F G:List (Int × Rat)},Srt F→Srt G→(∀u,cof F u=cof G u)→F=G
 | [],[],_,_,_=>rfl
 | [],t::G,_,hg,h=>by
   have:=h t.1
   rw [cof_nil,cof_hd rfl] at this
   exact absurd this.symm hg.nz
 | t::F,[],hf,_,h=>by
   have:=h t.1
   rw [cof_nil,cof_hd rfl] at this
   exact absurd this hf.nz
 | (v,q)::F,(u,p)::G,hf,hg,h=>by
   have e:v=u:=by
    rcases Int.lt_trichotomy v u with h1|h1|h1
    ·have h2:=h v
     rw [cof_hd rfl,cof_tl (by dsimp only;omega),hg.head.cof (by dsimp only;omega)] at h2
     exact absurd h2 hf.nz
    ·exact h1
    ·have h2:=h u
     rw [cof_tl (by dsimp only;omega),hf.head.cof (by dsimp only;omega),cof_hd rfl] at h2
     exact absurd h2.symm hg.nz
   subst e
   have e2:q=p:=by
    have h2:=h v
    rw [cof_hd rfl,cof_hd rfl] at h2
    exact h2
   subst e2
   rw [srt_ext hf.tail hg.tail fun u=>?_]
   by_cases e:u=v
   ·subst e
    rw [hf.head.cof (Int.le_refl _),hg.head.cof (Int.le_refl _)]
   ·have h2:=h u
    rw [cof_tl e,cof_tl e] at h2
    exact h2
theorem plus_done{F:List (Int × Rat)}{v:Int}{c:Rat}(h:LBd v F)(hz:∀t∈F,t.2≠0):plusV true F v c=F:=by
 induction F with
 | nil=>rfl
 | cons t F ih=>
   have h1:=h t (by simp)
   rw [plusV_lt (by omega) (.inl rfl),ih (fun x hx=>h x (by simp [hx])) fun x hx=>hz x (by simp [hx])]
   unfold put1
   rw [if_neg (hz t (by simp))]
   rfl
theorem put_one{t:Int × Rat}{F:List (Int × Rat)}(h:t.2≠0):put1 t.1 t.2++F=t::F:=by unfold put1;rw [if_neg h];rfl
theorem plus_srt{v:Int}{c:Rat}:∀{F:List (Int × Rat)},Srt F→Srt (plusV false F v c)∧(∀u,cof (plusV false F v c) u=cof F u+if u=v then c else 0)∧∀k,k<v→LBd k F→LBd k (plusV false F v c)
 | [],h=>by
   have e:plusV false [] v c=put1 v c++[]:=by rw [List.append_nil];rfl
   rw [e]
   obtain ⟨h1,h2,h3⟩:=put_srt (v:=v) (q:=c) h (fun t ht=>by cases ht)
   refine ⟨h1,fun u=>?_,fun k hk _=>h3 k hk⟩
   rw [h2,cof_nil]
   split <;>grind
 | t::F,h=>by
   have hd:=h.head
   rcases Int.lt_trichotomy t.1 v with h1|h1|h1
   ·obtain ⟨a1,a2,a3⟩:=plus_srt (v:=v) (c:=c) h.tail
    rw [plusV_lt (by omega) (.inr h1)]
    obtain ⟨b1,b2,b3⟩:=put_srt (v:=t.1) (q:=t.2) a1 (a3 _ h1 hd)
    refine ⟨b1,fun u=>?_,fun k hk hl=>b3 k (hl t (by simp))⟩
    rw [b2,a2]
    by_cases e:u=t.1
    ·rw [if_pos e,cof_hd e,if_neg (by omega)];grind
    ·rw [if_neg e,cof_tl e]
   ·rw [plusV_eq h1,plus_done (by rw [←h1];exact hd) h.tail.2]
    obtain ⟨b1,b2,b3⟩:=put_srt (v:=t.1) (q:=t.2+c) h.tail hd
    refine ⟨b1,fun u=>?_,fun k hk hl=>b3 k (hl t (by simp))⟩
    rw [b2]
    by_cases e:u=t.1
    ·have e5:u=v:=by omega
     rw [if_pos e,if_pos e5,cof_hd e]
    ·have e5:¬u=v:=by omega
     rw [if_neg e,if_neg e5,cof_tl e];grind
   ·rw [plusV_gt h1,plus_done (hd.mono (by omega)) h.tail.2,put_one h.nz]
    obtain ⟨b1,b2,b3⟩:=put_srt (v:=v) (q:=c) h (fun x hx=>by
     rcases List.mem_cons.1 hx with rfl|hx
     ·exact h1
     ·have:=hd x hx;omega)
    refine ⟨b1,fun u=>?_,fun k hk hl=>b3 k hk⟩
    rw [b2]
    by_cases e:u=v
    ·have e3:cof (t::F) u=0:=cof_low fun x hx=>by
      rcases List.mem_cons.1 hx with rfl|hx
      ·omega
      ·have:=hd x hx;omega
     rw [if_pos e,if_pos e,e3]
     grind
    ·rw [if_neg e,if_neg e];grind
theorem add_srt:∀{G F:List (Int × Rat)},Srt F→Srt G→Srt (addV F G)∧∀u,cof (addV F G) u=cof F u+cof G u
 | [],F,hf,_=>⟨hf,fun u=>by rw [cof_nil];show cof F u=_;grind⟩
 | t::G,F,hf,hg=>by
   obtain ⟨a1,a2,_⟩:=plus_srt (v:=t.1) (c:=t.2) hf
   obtain ⟨b1,b2⟩:=add_srt a1 hg.tail
   refine ⟨b1,fun u=>?_⟩
   show cof (addV (plusV false F t.1 t.2) G) u=_
   rw [b2,a2]
   by_cases e:u=t.1
   ·rw [if_pos e,cof_hd e,hg.head.cof (by omega)];grind
   ·rw [if_neg e,cof_tl e];grind
theorem merge_srt{c:Rat}:∀(n:Nat) {F G:List (Int × Rat)},F.length+G.length≤n→Srt F→Srt G→Srt (mergeV F G c)∧(∀u,cof (mergeV F G c) u=cof F u+cof G u*c)∧∀k,LBd k F→LBd k G→LBd k (mergeV F G c)
 | n,[],[],_,hf,hg=>by rw [mergeV_nil];exact ⟨hf,fun u=>by rw [cof_nil];grind,fun k h _=>h⟩
 | 0,a::F,G,hn,_,_=>by simp at hn
 | 0,[],b::G,hn,_,_=>by simp at hn
 | n+1,a::F,[],hn,hf,hg=>by
   obtain ⟨a1,a2,a3⟩:=merge_srt (c:=c) n (F:=F) (G:=[]) (by simp at hn ⊢;omega) hf.tail hg
   rw [mergeV_a]
   obtain ⟨b1,b2,b3⟩:=put_srt (v:=a.1) (q:=a.2) a1 (a3 _ hf.head fun t ht=>by cases ht)
   refine ⟨b1,fun u=>?_,fun k h1 _=>b3 k (h1 a (by simp))⟩
   rw [b2,a2]
   by_cases e:u=a.1
   ·rw [if_pos e,cof_hd e,cof_nil];grind
   ·rw [if_neg e,cof_tl e]
 | n+1,[],b::G,hn,hf,hg=>by
   obtain ⟨a1,a2,a3⟩:=merge_srt (c:=c) n (F:=[]) (G:=G) (by simp at hn ⊢;omega) hf hg.tail
   rw [mergeV_b]
   obtain ⟨b1,b2,b3⟩:=put_srt (v:=b.1) (q:=b.2*c) a1 (a3 _ (fun t ht=>by cases ht) hg.head)
   refine ⟨b1,fun u=>?_,fun k _ h1=>b3 k (h1 b (by simp))⟩
   rw [b2,a2]
   by_cases e:u=b.1
   ·rw [if_pos e,cof_hd e,cof_nil];grind
   ·rw [if_neg e,cof_tl e]
 | n+1,a::F,b::G,hn,hf,hg=>by
   simp only [List.length_cons] at hn
   rcases Int.lt_trichotomy a.1 b.1 with h1|h1|h1
   ·obtain ⟨a1,a2,a3⟩:=merge_srt (c:=c) n (F:=F) (G:=b::G) (by simp;omega) hf.tail hg
    rw [mergeV_lt h1]
    obtain ⟨b1,b2,b3⟩:=put_srt (v:=a.1) (q:=a.2) a1 (a3 _ hf.head fun t ht=>by
     rcases List.mem_cons.1 ht with rfl|ht
     ·exact h1
     ·have:=hg.head t ht;omega)
    refine ⟨b1,fun u=>?_,fun k h2 _=>b3 k (h2 a (by simp))⟩
    rw [b2,a2]
    by_cases e:u=a.1
    ·have e3:cof (b::G) u=0:=cof_low fun x hx=>by
      rcases List.mem_cons.1 hx with rfl|hx
      ·omega
      ·have:=hg.head x hx;omega
     have e4:cof (a::F) u=a.2:=cof_hd e
     rw [if_pos e,e3,e4];grind
    ·have e4:cof (a::F) u=cof F u:=cof_tl e
     rw [if_neg e,e4]
   ·obtain ⟨a1,a2,a3⟩:=merge_srt (c:=c) n (F:=F) (G:=G) (by omega) hf.tail hg.tail
    rw [mergeV_eq h1]
    obtain ⟨b1,b2,b3⟩:=put_srt (v:=a.1) (q:=a.2+b.2*c) a1 (a3 _ hf.head (by rw [h1];exact hg.head))
    refine ⟨b1,fun u=>?_,fun k h2 _=>b3 k (h2 a (by simp))⟩
    rw [b2,a2]
    by_cases e:u=a.1
    ·rw [if_pos e,cof_hd e,cof_hd (u:=u) (by omega)]
    ·have e3:cof (b::G) u=cof G u:=cof_tl (by omega)
     have e4:cof (a::F) u=cof F u:=cof_tl e
     rw [if_neg e,e3,e4]
   ·obtain ⟨a1,a2,a3⟩:=merge_srt (c:=c) n (F:=a::F) (G:=G) (by simp;omega) hf hg.tail
    rw [mergeV_gt h1]
    obtain ⟨b1,b2,b3⟩:=put_srt (v:=b.1) (q:=b.2*c) a1 (a3 _ (fun t ht=>by
     rcases List.mem_cons.1 ht with rfl|ht
     ·exact h1
     ·have:=hf.head t ht;omega) hg.head)
    refine ⟨b1,fun u=>?_,fun k _ h2=>b3 k (h2 b (by simp))⟩
    rw [b2,a2]
    by_cases e:u=b.1
    ·have e3:cof (a::F) u=0:=cof_low fun x hx=>by
      rcases List.mem_cons.1 hx with rfl|hx
      ·omega
      ·have:=hf.head x hx;omega
     have e4:cof (b::G) u=b.2:=cof_hd e
     rw [if_pos e,e3,e4];grind
    ·have e4:cof (b::G) u=cof G u:=cof_tl e
     rw [if_neg e,e4]
theorem merge_scl(c:Rat):∀(F:List (Int × Rat)),mergeV [] F c=sclV F c
 | []=>mergeV_nil c
 | t::F=>by rw [mergeV_b,merge_scl c F];simp [sclV]
theorem scl_srt{F:List (Int × Rat)}{c:Rat}(h:Srt F):Srt (sclV F c)∧∀u,cof (sclV F c) u=cof F u*c:=by
 rw [←merge_scl]
 obtain ⟨a1,a2,_⟩:=merge_srt (c:=c) _ (Nat.le_refl _) Srt.nil h
 exact ⟨a1,fun u=>by rw [a2,cof_nil];grind⟩
theorem merge_add{F G:List (Int × Rat)}{c:Rat}(hf:Srt F)(hg:Srt G):mergeV F G c=addV F (sclV G c):=by
 obtain ⟨a1,a2,_⟩:=merge_srt (c:=c) _ (Nat.le_refl _) hf hg
 obtain ⟨b1,b2⟩:=scl_srt (c:=c) hg
 obtain ⟨d1,d2⟩:=add_srt hf b1
 exact srt_ext a1 d1 fun u=>by rw [a2,d2,b2]
theorem OkFm.srt{f:Form}{vars:Int}(h:OkFm f vars):Srt f.1∧∀t∈f.1,0≤t.1∧t.1<vars:=by
 have key:∀(i:Nat) (hi:i<f.1.length),0≤(f.1[i]).1∧(f.1[i]).1<vars∧(f.1[i]).2≠0∧∀(h0:0<i),(f.1[i-1]'(by omega)).1<(f.1[i]).1:=fun i hi=>by
  obtain ⟨a1,a2,a3,a4⟩:=h i hi (f.1[i]).1 (f.1[i]).2 (List.getElem?_eq_getElem hi)
  exact ⟨a1,a2,a3,fun h0=>a4 _ (f.1[i-1]'(by omega)).2 h0 (List.getElem?_eq_getElem _)⟩
 have ord:∀(j i:Nat) (hj:j<f.1.length) (hij:i<j),(f.1[i]'(by omega)).1<(f.1[j]).1:=fun j=>by
  induction j with
  | zero=>intro i hj hij;omega
  | succ j ih=>
    intro i hj hij
    have h1:=(key (j+1) hj).2.2.2 (by omega)
    have h2:(f.1[j+1-1]'(by omega))=f.1[j]'(by omega):=rfl
    rw [h2] at h1
    by_cases e:i=j
    ·subst e;exact h1
    ·have:=ih i (by omega) (by omega);omega
 refine ⟨⟨List.pairwise_iff_getElem.2 fun i j hi hj hij=>ord j i hj hij,fun t ht=>?_⟩,fun t ht=>?_⟩
 ·obtain ⟨i,hi,rfl⟩:=List.getElem_of_mem ht
  exact (key i hi).2.2.1
 ·obtain ⟨i,hi,rfl⟩:=List.getElem_of_mem ht
  exact ⟨(key i hi).1,(key i hi).2.1⟩
section
attribute [local irreducible] run runL loopG exec
def evV(X:List Rat)(f:Form):Rat:=f.1.foldl (fun s t=>s+t.2*X.getD t.1.toNat 0) f.2
def evF(X:List Rat)(i:Nat)(s:Rat)(t:Int × Rat):Except Rat Rat:=
 if t.1<0∨(X.length:Int)≤t.1 then .error s else .ok (s+t.2*X.getD t.1.toNat 0)
theorem evF_ok{X:List Rat}:∀{F:List (Int × Rat)} (i:Nat) (s:Rat),(∀t∈F,0≤t.1∧t.1<(X.length:Int))→foldE (evF X) i s F=.ok (F.foldl (fun s t=>s+t.2*X.getD t.1.toNat 0) s)
 | [],i,s,_=>rfl
 | t::F,i,s,h=>by
   have h1:=h t List.mem_cons_self
   have e:evF X i s t=.ok (s+t.2*X.getD t.1.toNat 0):=if_neg (by omega)
   rw [foldE,e,List.foldl_cons]
   exact evF_ok (i+1) _ fun u hu=>h u (List.mem_cons_of_mem _ hu)
def evR(X:List Rat)(f:Form):AV:=
 match foldE (evF X) 0 f.2 f.1 with
 | .ok s=>.tup [ratV s,.lit (.int .i64 0)]
 | .error _=>.tup [.agg [.lit (.bool false),.sl 1 [],.sl 1 []],.lit (.int .i64 2)]
theorem eval_c{n:Nat}{f:Form}{X:List Rat}{a b k:Nat}(ha:∀t∈f.1,H t.2≤a)(hb:∀q∈X,H q≤b)(hk:H f.2≤k)(hX:X.length≤100000000)(hF:f.1.length≤100000000)(hs:k+f.1.length*(a+b+1)≤17179869184)(hab:a+b≤17179869184):
  run n 69 [formV f,.sl 3 (X.map ratC)]=some (evR X f)∧∀s,foldE (evF X) 0 f.2 f.1=.ok s→H s≤k+f.1.length*(a+b+1):=by
 have L:=loopG_E (O:=tab n) (P:= Tryz.prog) (m:=0) (N:=45) (lives:=livesOf 69) (r:=3) (C:=ev_C3) (L:=f.1) (f:=evF X) (enc:=fun i s=>ev_h3 f X i s) (exN:=.exit 0) (exE:=.ret) (out:=ev_o3b) (outE:=ev_o3a) (Inv:=fun i s=>H s≤k+i*(a+b+1)∧i≤f.1.length) f.2 ⟨by omega,by omega⟩ (by omega) (by simp) (by simp)
  (fun i t s hi hI=>by
   obtain ⟨v,c⟩:=t
   obtain ⟨hI,hle⟩:=hI
   have hlt:=(List.getElem?_eq_some_iff.1 hi).1
   have hm:(i+1)*(a+b+1)≤f.1.length*(a+b+1):=Nat.mul_le_mul_right _ hlt
   rw [Nat.add_mul,Nat.one_mul] at hm
   have C1:(i:Int)<(f.1.length:Int):=by omega
   have W:InI ((i:Int)+1):=⟨by omega,by omega⟩
   unfold evF
   by_cases hv:v<0∨(X.length:Int)≤v
   ·rw [if_pos hv]
    by_cases h0:v<0
    ·exact ev_x3_1 C1 hi h0
    ·exact ev_x3_2 C1 hi h0 (by omega)
   ·rw [if_neg hv]
    have hl:v.toNat<X.length:=by omega
    have h1:X[v.toNat]?=some (X.getD v.toNat 0):=by rw [List.getD_eq_getElem?_getD,List.getElem?_eq_getElem hl];rfl
    have hc:H c≤a:=ha _ (List.mem_of_getElem? hi)
    have hq:H (X.getD v.toNat 0)≤b:=hb _ (List.mem_of_getElem? h1)
    have h2:=H_mul c (X.getD v.toNat 0)
    have h3:=H_add s (c*X.getD v.toNat 0)
    dsimp only
    refine ⟨ev_r3_1 C1 hi (by omega) (by omega) h1 (by omega) (by omega) (by omega) (by omega) (by omega) W,?_,hlt⟩
    rw [Nat.add_mul,Nat.one_mul]
    omega)
  (fun b hI=>ev_x3_3 (by omega))
 refine ⟨?_,fun s hs'=>(L.2 s hs').1⟩
 unfold evR
 cases hE:foldE (evF X) 0 f.2 f.1 with
 | ok s=>rw [hE] at L;exact ev_f2 L.1
 | error s=>rw [hE] at L;exact ev_f1 L.1
theorem eval_ok{n:Nat}{f:Form}{X:List Rat}{a b k:Nat}(ha:∀t∈f.1,H t.2≤a)(hb:∀q∈X,H q≤b)(hk:H f.2≤k)(hX:X.length≤100000000)(hF:f.1.length≤100000000)(hs:k+f.1.length*(a+b+1)≤17179869184)(hab:a+b≤17179869184)(hv:∀t∈f.1,0≤t.1∧t.1<(X.length:Int)):
  run n 69 [formV f,.sl 3 (X.map ratC)]=some (.tup [ratV (evV X f),.lit (.int .i64 0)])∧H (evV X f)≤k+f.1.length*(a+b+1):=by
 have h:=eval_c (n:=n) ha hb hk hX hF hs hab
 have e:foldE (evF X) 0 f.2 f.1=.ok (evV X f):=evF_ok 0 f.2 hv
 refine ⟨?_,h.2 _ e⟩
 have h1:=h.1
 unfold evR at h1
 rw [e] at h1
 exact h1
end
def evS(X:List Rat):List (Int × Rat)→Rat
 | []=>0
 | t::F=>t.2*X.getD t.1.toNat 0+evS X F
theorem evS_fold(X:List Rat):∀(F:List (Int × Rat)) (s:Rat),F.foldl (fun s t=>s+t.2*X.getD t.1.toNat 0) s=s+evS X F
 | [],s=>by rw [List.foldl_nil,evS];grind
 | t::F,s=>by rw [List.foldl_cons,evS_fold X F,evS];grind
theorem evS_app(X:List Rat):∀(F G:List (Int × Rat)),evS X (F++G)=evS X F+evS X G
 | [],G=>by rw [List.nil_append,evS];grind
 | t::F,G=>by rw [List.cons_append,evS,evS_app X F G,evS];grind
theorem evS_put(X:List Rat)(v:Int)(q:Rat):evS X (put1 v q)=q*X.getD v.toNat 0:=by
 unfold put1
 split
 ·rename_i h;rw [h,evS];grind
 ·rw [evS,evS];grind
theorem evS_plus{X:List Rat}{v:Int}{c:Rat}:∀{F:List (Int × Rat)},Srt F→evS X (plusV false F v c)=evS X F+c*X.getD v.toNat 0
 | [],_=>by
   have e:plusV false [] v c=put1 v c:=rfl
   rw [e,evS_put,evS];grind
 | t::F,h=>by
   have hd:=h.head
   rcases Int.lt_trichotomy t.1 v with h1|h1|h1
   ·rw [plusV_lt (by omega) (.inr h1),evS_app,evS_put,evS_plus h.tail,evS];grind
   ·rw [plusV_eq h1,plus_done (by rw [←h1];exact hd) h.tail.2,evS_app,evS_put,evS,h1];grind
   ·rw [plusV_gt h1,plus_done (hd.mono (by omega)) h.tail.2,evS_app,evS_app,evS_put,evS_put,evS];grind
theorem evS_add{X:List Rat}:∀{G F:List (Int × Rat)},Srt F→Srt G→evS X (addV F G)=evS X F+evS X G
 | [],F,_,_=>by
   have e:addV F []=F:=rfl
   rw [e,evS];grind
 | t::G,F,hf,hg=>by
   have e:addV F (t::G)=addV (plusV false F t.1 t.2) G:=rfl
   rw [e,evS_add (plus_srt hf).1 hg.tail,evS_plus hf,evS];grind
theorem evS_scl(X:List Rat)(c:Rat):∀(F:List (Int × Rat)),evS X (sclV F c)=evS X F*c
 | []=>by
   have e:sclV [] c=[]:=rfl
   rw [e,evS];grind
 | t::F=>by
   have e:sclV (t::F) c=put1 t.1 (t.2*c)++sclV F c:=rfl
   rw [e,evS_app,evS_put,evS_scl X c F,evS];grind
def InR(k:Nat)(F:List (Int × Rat)):Prop:=∀t∈F,0≤t.1∧t.1<(k:Int)
theorem InR.app{k:Nat}{F G:List (Int × Rat)}(h:InR k F)(g:InR k G):InR k (F++G):=fun t ht=>(List.mem_append.1 ht).elim (h t) (g t)
theorem InR.put{k:Nat}{v:Int}{q:Rat}(h:0≤v∧v<(k:Int)):InR k (put1 v q):=fun t ht=>by
 obtain ⟨rfl,_⟩:=put1_mem ht
 exact h
theorem InR.plus{k:Nat}{v:Int}{c:Rat}(hv:0≤v∧v<(k:Int)):∀{d:Bool} {F:List (Int × Rat)},InR k F→InR k (plusV d F v c)
 | d,[],_=>by
   rw [plusV]
   split
   ·exact fun t ht=>by cases ht
   ·exact InR.put hv
 | d,t::F,h=>by
   have ht:0≤t.1∧t.1<(k:Int):=h t (by simp)
   have hF:InR k F:=fun u hu=>h u (by simp [hu])
   rw [plusV]
   split
   ·exact (InR.put ht).app (InR.plus hv hF)
   ·split
    ·exact (InR.put hv).app ((InR.put ht).app (InR.plus hv hF))
    ·exact (InR.put ht).app (InR.plus hv hF)
theorem InR.add{k:Nat}:∀{G F:List (Int × Rat)},InR k F→InR k G→InR k (addV F G)
 | [],F,h,_=>h
 | t::G,F,h,g=>by
   have e:addV F (t::G)=addV (plusV false F t.1 t.2) G:=rfl
   rw [e]
   exact InR.add (InR.plus (g t (by simp)) h) fun u hu=>g u (by simp [hu])
theorem InR.scl{k:Nat}{c:Rat}{F:List (Int × Rat)}(h:InR k F):InR k (sclV F c):=fun t ht=>by
 simp only [sclV,List.mem_flatMap] at ht
 obtain ⟨u,hu,h1⟩:=ht
 obtain ⟨rfl,_⟩:=put1_mem h1
 exact h u hu
theorem TmB.add{b:Nat}:∀{G F:List (Int × Rat)} {m:Nat},TmB m F→TmB b G→TmB (m+(b+1)*G.length) (addV F G)
 | [],F,m,h,_=>h
 | t::G,F,m,h,g=>by
   have e:addV F (t::G)=addV (plusV false F t.1 t.2) G:=rfl
   rw [e]
   refine (TmB.add (TmB.plus (g t (by simp)).2 h) fun u hu=>g u (by simp [hu])).mono ?_
   rw [List.length_cons,Nat.mul_add]
   omega
theorem TmB.scl{m b:Nat}{c:Rat}{F:List (Int × Rat)}(h:TmB m F)(hc:H c≤b):TmB (m+b) (sclV F c):=fun t ht=>by
 simp only [sclV,List.mem_flatMap] at ht
 obtain ⟨u,hu,h1⟩:=ht
 obtain ⟨rfl,h2⟩:=put1_mem h1
 have h3:=H_mul u.2 c
 have h4:=(h u hu).2
 exact ⟨h2,by dsimp only;omega⟩
def rst(F:List (Int × Rat))(v:Int):List (Int × Rat):=F.filter fun t=>decide (t.1≠v)
theorem rst_eq{t:Int × Rat}{F:List (Int × Rat)}{v:Int}(h:t.1=v):rst (t::F) v=rst F v:=by unfold rst;rw [List.filter_cons_of_neg];simp [h]
theorem rst_ne{t:Int × Rat}{F:List (Int × Rat)}{v:Int}(h:t.1≠v):rst (t::F) v=t::rst F v:=by unfold rst;rw [List.filter_cons_of_pos];simp [h]
theorem rst_mem{t:Int × Rat}{F:List (Int × Rat)}{v:Int}(h:t∈rst F v):t∈F:=(List.mem_filter.1 h).1
theorem rst_len(F:List (Int × Rat))(v:Int):(rst F v).length≤F.length:=List.length_filter_le _ _
theorem rst_srt{F:List (Int × Rat)}{v:Int}(h:Srt F):Srt (rst F v):=⟨h.1.filter _,fun t ht=>h.2 t (rst_mem ht)⟩
theorem rst_cof(v u:Int):∀(F:List (Int × Rat)),cof (rst F v) u=if u=v then 0 else cof F u
 | []=>by
   have e:rst [] v=[]:=rfl
   rw [e,cof_nil];split <;>rfl
 | t::F=>by
   by_cases h:t.1=v
   ·rw [rst_eq h,rst_cof v u F]
    split
    ·rfl
    ·rw [cof_tl (by omega)]
   ·rw [rst_ne h]
    by_cases h2:u=t.1
    ·rw [cof_hd h2,if_neg (by omega),cof_hd h2]
    ·rw [cof_tl h2,rst_cof v u F,cof_tl h2]
theorem InR.rst{k:Nat}{v:Int}{F:List (Int × Rat)}(h:InR k F):InR k (rst F v):=fun t ht=>h t (rst_mem ht)
end Go.Proofs.YtefdjbknmfeooaaGreatDoor
