import Derived.Test.YtdaonnnlgfhlaaaGreatDoorGF16
import Derived.Test.YtdaonnnlgfhlaaaGreatDoorGF23
import Derived.Test.YtdaonnnlgfhlaaaGreatDoorGF19
import Derived.Test.YtdaonnnlgfhlaaaGreatDoorGF21
import Derived.Test.YtdaonnnlgfhlaaaGreatDoorGF20
import Derived.Test.YtdaonnnlgfhlaaaGreatDoorGF17
import Derived.Test.YtdaonnnlgfhlaaaGreatDoorGF18
set_option linter.all false
set_option maxHeartbeats 6400000
set_option maxRecDepth 100000
namespace Go.Proofs.YtdaonnnlgfhlaaaGreatDoor
section
open Go.RowKit
noncomputable def QD:Code:=(Zb (ZP Tryz.f78)).getD 0 .skip
def YB(a0:Zf)(a1:Zf)(a2:Rat)(l_3:List (Int × Rat))(l2_3:List (Int × Rat))(out_3:List (Int × Rat)):St:=
 ⟨[(5,.ptr 0 0),(6,.ptr 1 0),(7,.ptr 2 0),(8,.sl 4 (l_3.map Zr)),(9,.sl 4 (l2_3.map Zr))],
  [(0,some (.box 26 [.lit (.bool (Zd a2).s),Zc (Zd a2).l1,Zc (Zd a2).l2] false)),
   (1,some (.box 28 [.nl 4,.lit (.bool false),.nl 1,.nl 1] false)),
   (2,some (.box 28 [.own 3 out_3.length,.lit (.bool (Zd (a0.2+(a1.2*a2))).s),Zc (Zd (a0.2+(a1.2*a2))).l1,Zc (Zd (a0.2+(a1.2*a2))).l2] false)),
   (3,some (.row 68 4 (out_3.map Zr) 0))],4⟩
def Zcn(a0:Zf)(a1:Zf)(a2:Rat)(out_3:List (Int × Rat)):St:=
 ⟨[(6,.ptr 0 0),(7,.ptr 1 0)],
  [(0,some (.box 28 [.nl 4,.lit (.bool false),.nl 1,.nl 1] false)),
   (1,some (.box 28 [.own 2 out_3.length,.lit (.bool (Zd (a0.2+(a1.2*a2))).s),Zc (Zd (a0.2+(a1.2*a2))).l1,Zc (Zd (a0.2+(a1.2*a2))).l2] false)),
   (2,some (.row 68 4 (out_3.map Zr) 0))],3⟩
section
variable{v11:Int}{q11:Rat}{a0:Zf}{l_3:List (Int × Rat)}{a1:Zf}{n:Nat}{a2:Rat}{l2_3:List (Int × Rat)}{out_3:List (Int × Rat)}{R11:List (Int × Rat)}{q9:Rat}{v10:Int}{v9:Int}{q10:Rat}{R12:List (Int × Rat)}{R13:List (Int × Rat)}{R14:List (Int × Rat)}{v12:Int}{q12:Rat}{R15:List (Int × Rat)}
section
variable(C1:0<(l_3.length:Int))
include C1
theorem ZsG(C2:(l2_3.length:Int)=0)(E3:l_3[0]?=some (v11,q11))(K4:Zp n 112 [.agg [.own 0 out_3.length,.lit (.bool (Zd (a0.2+(a1.2*a2))).s),Zc (Zd (a0.2+(a1.2*a2))).l1,Zc (Zd (a0.2+(a1.2*a2))).l2],.lit (.int .i64 v11),Zn q11] [.row 68 4 (out_3.map Zr) 0]=some (.agg [.own 0 out_3.length,.lit (.bool (Zd (a0.2+(a1.2*a2))).s),Zc (Zd (a0.2+(a1.2*a2))).l1,Zc (Zd (a0.2+(a1.2*a2))).l2],[(0,.row 68 4 (out_3.map Zr) 0)]))(U5:0≤1∧1≤(l_3.length:Int)):
  Zm 0 (exec Tryz.prog (tab (n+1)) 0 113 (Za 78) big QD) (Za 78 3) (YB a0 a1 a2 l_3 l2_3 out_3) (YB a0 a1 a2 (l_3.drop 1) l2_3 out_3):=by
 have C1_:0<l_3.length:=by omega
 have C2_:((l2_3.length:Int)==0)=true:=by rw [C2];simp
 obtain ⟨EL3,EG3⟩:=List.getElem?_eq_some_iff.1 E3
 simp only [Zn] at K4
 unfold Zm
 simp+decide [YB,Zb, Tryz.f78,QD,C1_,C2_,EG3,K4,U5]
theorem Zr9(C2:(l2_3.length:Int)=0)(E3:l_3[0]?=some (v11,q11))(K4:Zp n 112 [.agg [.own 0 out_3.length,.lit (.bool (Zd (a0.2+(a1.2*a2))).s),Zc (Zd (a0.2+(a1.2*a2))).l1,Zc (Zd (a0.2+(a1.2*a2))).l2],.lit (.int .i64 v11),Zn q11] [.row 68 4 (out_3.map Zr) 0]=some (.agg [.own 4 R11.length,.lit (.bool (Zd (a0.2+(a1.2*a2))).s),Zc (Zd (a0.2+(a1.2*a2))).l1,Zc (Zd (a0.2+(a1.2*a2))).l2],[(4,.row 68 4 (R11.map Zr) 0)]))(U5:0≤1∧1≤(l_3.length:Int)):
  Zm 0 (exec Tryz.prog (tab (n+1)) 0 113 (Za 78) big QD) (Za 78 3) (YB a0 a1 a2 l_3 l2_3 out_3) (YB a0 a1 a2 (l_3.drop 1) l2_3 R11):=by
 have C1_:0<l_3.length:=by omega
 have C2_:((l2_3.length:Int)==0)=true:=by rw [C2];simp
 obtain ⟨EL3,EG3⟩:=List.getElem?_eq_some_iff.1 E3
 simp only [Zn] at K4
 unfold Zm
 simp+decide [YB,Zb, Tryz.f78,QD,C1_,C2_,EG3,K4,U5]
section
variable(C2:¬(l2_3.length:Int)=0)(E3:l_3[0]?=some (v9,q9))(E4:l2_3[0]?=some (v10,q10))
include C2 E3 E4
theorem Zsx(C5:v9<v10)(K6:Zp n 112 [.agg [.own 0 out_3.length,.lit (.bool (Zd (a0.2+(a1.2*a2))).s),Zc (Zd (a0.2+(a1.2*a2))).l1,Zc (Zd (a0.2+(a1.2*a2))).l2],.lit (.int .i64 v9),Zn q9] [.row 68 4 (out_3.map Zr) 0]=some (.agg [.own 0 out_3.length,.lit (.bool (Zd (a0.2+(a1.2*a2))).s),Zc (Zd (a0.2+(a1.2*a2))).l1,Zc (Zd (a0.2+(a1.2*a2))).l2],[(0,.row 68 4 (out_3.map Zr) 0)]))(U7:0≤1∧1≤(l_3.length:Int)):
  Zm 0 (exec Tryz.prog (tab (n+1)) 0 113 (Za 78) big QD) (Za 78 3) (YB a0 a1 a2 l_3 l2_3 out_3) (YB a0 a1 a2 (l_3.drop 1) l2_3 out_3):=by
 have C1_:0<l_3.length:=by omega
 have C2_:((l2_3.length:Int)==0)=false:=by simpa using C2
 obtain ⟨EL3,EG3⟩:=List.getElem?_eq_some_iff.1 E3
 obtain ⟨EL4,EG4⟩:=List.getElem?_eq_some_iff.1 E4
 simp only [Zn] at K6
 unfold Zm
 simp+decide [YB,Zb, Tryz.f78,QD,C1_,C2_,EG3,EL4,EG4,C5,K6,U7]
theorem Zq0(C5:v9<v10)(K6:Zp n 112 [.agg [.own 0 out_3.length,.lit (.bool (Zd (a0.2+(a1.2*a2))).s),Zc (Zd (a0.2+(a1.2*a2))).l1,Zc (Zd (a0.2+(a1.2*a2))).l2],.lit (.int .i64 v9),Zn q9] [.row 68 4 (out_3.map Zr) 0]=some (.agg [.own 4 R12.length,.lit (.bool (Zd (a0.2+(a1.2*a2))).s),Zc (Zd (a0.2+(a1.2*a2))).l1,Zc (Zd (a0.2+(a1.2*a2))).l2],[(4,.row 68 4 (R12.map Zr) 0)]))(U7:0≤1∧1≤(l_3.length:Int)):
  Zm 0 (exec Tryz.prog (tab (n+1)) 0 113 (Za 78) big QD) (Za 78 3) (YB a0 a1 a2 l_3 l2_3 out_3) (YB a0 a1 a2 (l_3.drop 1) l2_3 R12):=by
 have C1_:0<l_3.length:=by omega
 have C2_:((l2_3.length:Int)==0)=false:=by simpa using C2
 obtain ⟨EL3,EG3⟩:=List.getElem?_eq_some_iff.1 E3
 obtain ⟨EL4,EG4⟩:=List.getElem?_eq_some_iff.1 E4
 simp only [Zn] at K6
 unfold Zm
 simp+decide [YB,Zb, Tryz.f78,QD,C1_,C2_,EG3,EL4,EG4,C5,K6,U7]
theorem ZrU(C5:¬v9<v10)(C6:v10<v9)(B7a:H q10≤17179869184)(B7b:H a2≤17179869184)(K8:Zp n 112 [.agg [.own 0 out_3.length,.lit (.bool (Zd (a0.2+(a1.2*a2))).s),Zc (Zd (a0.2+(a1.2*a2))).l1,Zc (Zd (a0.2+(a1.2*a2))).l2],.lit (.int .i64 v10),Zn (q10*a2)] [.row 68 4 (out_3.map Zr) 0]=some (.agg [.own 0 out_3.length,.lit (.bool (Zd (a0.2+(a1.2*a2))).s),Zc (Zd (a0.2+(a1.2*a2))).l1,Zc (Zd (a0.2+(a1.2*a2))).l2],[(0,.row 68 4 (out_3.map Zr) 0)]))(U9:0≤1∧1≤(l2_3.length:Int)):
  Zm 0 (exec Tryz.prog (tab (n+1)) 0 113 (Za 78) big QD) (Za 78 3) (YB a0 a1 a2 l_3 l2_3 out_3) (YB a0 a1 a2 l_3 (l2_3.drop 1) out_3):=by
 have C1_:0<l_3.length:=by omega
 have C1_z:(l_3.length:Int)≠0:=by omega
 have C1_e:((l_3.length:Int)==0)=false:=by simpa using C1_z
 have C2_:((l2_3.length:Int)==0)=false:=by simpa using C2
 obtain ⟨EL3,EG3⟩:=List.getElem?_eq_some_iff.1 E3
 obtain ⟨EL4,EG4⟩:=List.getElem?_eq_some_iff.1 E4
 have K7:=Jp (p:=q10) (q:=a2) B7a B7b
 simp only [Zn] at K8
 unfold Zm
 simp+decide [YB,Zb, Tryz.f78,QD,C1_,C1_e,C2_,EG3,EL4,EG4,C5,C6,K7,K8,U9]
theorem ZsA(C5:¬v9<v10)(C6:v10<v9)(B7a:H q10≤17179869184)(B7b:H a2≤17179869184)(K8:Zp n 112 [.agg [.own 0 out_3.length,.lit (.bool (Zd (a0.2+(a1.2*a2))).s),Zc (Zd (a0.2+(a1.2*a2))).l1,Zc (Zd (a0.2+(a1.2*a2))).l2],.lit (.int .i64 v10),Zn (q10*a2)] [.row 68 4 (out_3.map Zr) 0]=some (.agg [.own 4 R13.length,.lit (.bool (Zd (a0.2+(a1.2*a2))).s),Zc (Zd (a0.2+(a1.2*a2))).l1,Zc (Zd (a0.2+(a1.2*a2))).l2],[(4,.row 68 4 (R13.map Zr) 0)]))(U9:0≤1∧1≤(l2_3.length:Int)):
  Zm 0 (exec Tryz.prog (tab (n+1)) 0 113 (Za 78) big QD) (Za 78 3) (YB a0 a1 a2 l_3 l2_3 out_3) (YB a0 a1 a2 l_3 (l2_3.drop 1) R13):=by
 have C1_:0<l_3.length:=by omega
 have C1_z:(l_3.length:Int)≠0:=by omega
 have C1_e:((l_3.length:Int)==0)=false:=by simpa using C1_z
 have C2_:((l2_3.length:Int)==0)=false:=by simpa using C2
 obtain ⟨EL3,EG3⟩:=List.getElem?_eq_some_iff.1 E3
 obtain ⟨EL4,EG4⟩:=List.getElem?_eq_some_iff.1 E4
 have K7:=Jp (p:=q10) (q:=a2) B7a B7b
 simp only [Zn] at K8
 unfold Zm
 simp+decide [YB,Zb, Tryz.f78,QD,C1_,C1_e,C2_,EG3,EL4,EG4,C5,C6,K7,K8,U9]
section
variable(C5:¬v9<v10)(C6:¬v10<v9)(B7a:H q10≤17179869184)(B7b:H a2≤17179869184)(B8a:H q9≤17179869184)(B8b:H (q10*a2)≤17179869184)
include C5 C6 B7a B7b B8a B8b
theorem Zsm(K9:Zp n 112 [.agg [.own 0 out_3.length,.lit (.bool (Zd (a0.2+(a1.2*a2))).s),Zc (Zd (a0.2+(a1.2*a2))).l1,Zc (Zd (a0.2+(a1.2*a2))).l2],.lit (.int .i64 v9),Zn (q9+(q10*a2))] [.row 68 4 (out_3.map Zr) 0]=some (.agg [.own 0 out_3.length,.lit (.bool (Zd (a0.2+(a1.2*a2))).s),Zc (Zd (a0.2+(a1.2*a2))).l1,Zc (Zd (a0.2+(a1.2*a2))).l2],[(0,.row 68 4 (out_3.map Zr) 0)]))(U10:0≤1∧1≤(l_3.length:Int))(U11:0≤1∧1≤(l2_3.length:Int)):
  Zm 0 (exec Tryz.prog (tab (n+1)) 0 113 (Za 78) big QD) (Za 78 3) (YB a0 a1 a2 l_3 l2_3 out_3) (YB a0 a1 a2 (l_3.drop 1) (l2_3.drop 1) out_3):=by
 have C1_:0<l_3.length:=by omega
 have C1_z:(l_3.length:Int)≠0:=by omega
 have C1_e:((l_3.length:Int)==0)=false:=by simpa using C1_z
 have C2_:((l2_3.length:Int)==0)=false:=by simpa using C2
 obtain ⟨EL3,EG3⟩:=List.getElem?_eq_some_iff.1 E3
 obtain ⟨EL4,EG4⟩:=List.getElem?_eq_some_iff.1 E4
 have K7:=Jp (p:=q10) (q:=a2) B7a B7b
 have K8:=ZdV (p:=q9) (q:=q10*a2) B8a B8b
 simp only [Zn] at K9
 unfold Zm
 simp+decide [YB,Zb, Tryz.f78,QD,C1_,C1_e,C2_,EG3,EL4,EG4,C5,C6,K7,K8,K9,U10,U11]
theorem Zsd(K9:Zp n 112 [.agg [.own 0 out_3.length,.lit (.bool (Zd (a0.2+(a1.2*a2))).s),Zc (Zd (a0.2+(a1.2*a2))).l1,Zc (Zd (a0.2+(a1.2*a2))).l2],.lit (.int .i64 v9),Zn (q9+(q10*a2))] [.row 68 4 (out_3.map Zr) 0]=some (.agg [.own 4 R14.length,.lit (.bool (Zd (a0.2+(a1.2*a2))).s),Zc (Zd (a0.2+(a1.2*a2))).l1,Zc (Zd (a0.2+(a1.2*a2))).l2],[(4,.row 68 4 (R14.map Zr) 0)]))(U10:0≤1∧1≤(l_3.length:Int))(U11:0≤1∧1≤(l2_3.length:Int)):
  Zm 0 (exec Tryz.prog (tab (n+1)) 0 113 (Za 78) big QD) (Za 78 3) (YB a0 a1 a2 l_3 l2_3 out_3) (YB a0 a1 a2 (l_3.drop 1) (l2_3.drop 1) R14):=by
 have C1_:0<l_3.length:=by omega
 have C1_z:(l_3.length:Int)≠0:=by omega
 have C1_e:((l_3.length:Int)==0)=false:=by simpa using C1_z
 have C2_:((l2_3.length:Int)==0)=false:=by simpa using C2
 obtain ⟨EL3,EG3⟩:=List.getElem?_eq_some_iff.1 E3
 obtain ⟨EL4,EG4⟩:=List.getElem?_eq_some_iff.1 E4
 have K7:=Jp (p:=q10) (q:=a2) B7a B7b
 have K8:=ZdV (p:=q9) (q:=q10*a2) B8a B8b
 simp only [Zn] at K9
 unfold Zm
 simp+decide [YB,Zb, Tryz.f78,QD,C1_,C1_e,C2_,EG3,EL4,EG4,C5,C6,K7,K8,K9,U10,U11]
end
end
end
theorem ZsC(C1:¬0<(l_3.length:Int))(C2:0<(l2_3.length:Int))(E3:l2_3[0]?=some (v12,q12))(B4a:H q12≤17179869184)(B4b:H a2≤17179869184)(K5:Zp n 112 [.agg [.own 0 out_3.length,.lit (.bool (Zd (a0.2+(a1.2*a2))).s),Zc (Zd (a0.2+(a1.2*a2))).l1,Zc (Zd (a0.2+(a1.2*a2))).l2],.lit (.int .i64 v12),Zn (q12*a2)] [.row 68 4 (out_3.map Zr) 0]=some (.agg [.own 0 out_3.length,.lit (.bool (Zd (a0.2+(a1.2*a2))).s),Zc (Zd (a0.2+(a1.2*a2))).l1,Zc (Zd (a0.2+(a1.2*a2))).l2],[(0,.row 68 4 (out_3.map Zr) 0)]))(U6:0≤1∧1≤(l2_3.length:Int)):
  Zm 0 (exec Tryz.prog (tab (n+1)) 0 113 (Za 78) big QD) (Za 78 3) (YB a0 a1 a2 l_3 l2_3 out_3) (YB a0 a1 a2 l_3 (l2_3.drop 1) out_3):=by
 have C1_:¬0<l_3.length:=by omega
 have C1_z:(l_3.length:Int)=0:=by omega
 have C1_e:((l_3.length:Int)==0)=true:=by rw [C1_z];simp
 have C2_:0<l2_3.length:=by omega
 have C2_z:(l2_3.length:Int)≠0:=by omega
 have C2_e:((l2_3.length:Int)==0)=false:=by simpa using C2_z
 obtain ⟨EL3,EG3⟩:=List.getElem?_eq_some_iff.1 E3
 have K4:=Jp (p:=q12) (q:=a2) B4a B4b
 simp only [Zn] at K5
 unfold Zm
 simp+decide [YB,Zb, Tryz.f78,QD,C1_,C1_e,C2_,C2_e,EG3,K4,K5,U6]
theorem Zot(C1:¬0<(l_3.length:Int))(C2:0<(l2_3.length:Int))(E3:l2_3[0]?=some (v12,q12))(B4a:H q12≤17179869184)(B4b:H a2≤17179869184)(K5:Zp n 112 [.agg [.own 0 out_3.length,.lit (.bool (Zd (a0.2+(a1.2*a2))).s),Zc (Zd (a0.2+(a1.2*a2))).l1,Zc (Zd (a0.2+(a1.2*a2))).l2],.lit (.int .i64 v12),Zn (q12*a2)] [.row 68 4 (out_3.map Zr) 0]=some (.agg [.own 4 R15.length,.lit (.bool (Zd (a0.2+(a1.2*a2))).s),Zc (Zd (a0.2+(a1.2*a2))).l1,Zc (Zd (a0.2+(a1.2*a2))).l2],[(4,.row 68 4 (R15.map Zr) 0)]))(U6:0≤1∧1≤(l2_3.length:Int)):
  Zm 0 (exec Tryz.prog (tab (n+1)) 0 113 (Za 78) big QD) (Za 78 3) (YB a0 a1 a2 l_3 l2_3 out_3) (YB a0 a1 a2 l_3 (l2_3.drop 1) R15):=by
 have C1_:¬0<l_3.length:=by omega
 have C1_z:(l_3.length:Int)=0:=by omega
 have C1_e:((l_3.length:Int)==0)=true:=by rw [C1_z];simp
 have C2_:0<l2_3.length:=by omega
 have C2_z:(l2_3.length:Int)≠0:=by omega
 have C2_e:((l2_3.length:Int)==0)=false:=by simpa using C2_z
 obtain ⟨EL3,EG3⟩:=List.getElem?_eq_some_iff.1 E3
 have K4:=Jp (p:=q12) (q:=a2) B4a B4b
 simp only [Zn] at K5
 unfold Zm
 simp+decide [YB,Zb, Tryz.f78,QD,C1_,C1_e,C2_,C2_e,EG3,K4,K5,U6]
theorem ZsE(C1:¬0<(l_3.length:Int))(C2:¬0<(l2_3.length:Int)):
  Zj 0 (exec Tryz.prog (tab (n+1)) 0 113 (Za 78) big QD) (Za 78 (Zo 3)) (YB a0 a1 a2 l_3 l2_3 out_3) (.exit 0) (Zcn a0 a1 a2 out_3):=by
 have C1_:¬0<l_3.length:=by omega
 have C2_:¬0<l2_3.length:=by omega
 unfold Zj
 simp+decide [YB,Zb, Tryz.f78,Zcn,QD,C1_,C2_]
theorem ZxU(B1a:H a1.2≤17179869184)(B1b:H a2≤17179869184)(B2a:H a0.2≤17179869184)(B2b:H (a1.2*a2)≤17179869184)(L3:Zk Tryz.prog (tab (n+1)) 0 113 (Za 78) 3 QD (YB a0 a1 a2 a0.1 a1.1 [])=some (.exit 0,Zcn a0 a1 a2 out_3)):
  run (n+1) 78 [Ze a0,Ze a1,Zn a2]=some (Ze (out_3,a0.2+(a1.2*a2))):=by
 have K1:=Jp (p:=a1.2) (q:=a2) B1a B1b
 have K2:=ZdV (p:=a0.2) (q:=a1.2*a2) B2a B2b
 unfold run fnP
 simp+decide [Tryz.f78,K1,K2]
 rw [Zi (C':=QD) (e:=(YB a0 a1 a2 a0.1 a1.1 [])) ?_ ?_,L3]
 rotate_left
 ·kernel_rfl
 ·simp+decide [YB]
 simp+decide [Zcn]
end
theorem ZvQ{n:Nat}{a0:Zf}{a1:Zf}{r:Zf}(K2:run (n+1) 78 [Ze a0,Ze a1,Zn (ofQ 1)]=some (Ze r)):
  run (n+2) 48 [Ze a0,Ze a1]=some (Ze r):=by
 have K1:=WD (z:=1) (by omega) (by omega)
 simp only [Zn,Ze] at K2
 unfold run fnP
 simp+decide [Tryz.f48,K1,K2]
theorem Zuv{n:Nat}{a0:Zf}{a1:Zf}{r:Zf}(K2:run (n+1) 78 [Ze a0,Ze a1,Zn (ofQ (-1))]=some (Ze r)):
  run (n+2) 68 [Ze a0,Ze a1]=some (Ze r):=by
 have K1:=WD (z:=(-1)) (by omega) (by omega)
 simp only [Zn,Ze] at K2
 unfold run fnP
 simp+decide [Tryz.f68,K1,K2]
theorem Zwl{n:Nat}{a0:Zf}{a1:Rat}{r:Zf}(K1:run (n+1) 78 [.agg [.sl 4 [],.lit (.bool false),.sl 1 [],.sl 1 []],Ze a0,Zn a1]=some (Ze r)):
  run (n+2) 37 [Ze a0,Zn a1]=some (Ze r):=by
 simp only [Zn,Ze] at K1
 unfold run fnP
 simp+decide [Tryz.f37,K1]
end
section
open Go.RowKit
attribute [local irreducible] run Zp Zk exec
def mgK:List (Int × Rat)→List (Int × Rat)→Nat
 | [],m=>m.length
 | a::l,[]=>(a::l).length
 | a::l,b::m=>1+if a.1<b.1 then mgK l (b::m) else if b.1<a.1 then mgK (a::l) m else mgK l m
termination_by l m=>l.length+m.length
theorem UP(m:List (Int × Rat)):mgK [] m=m.length:=by rw [mgK]
theorem Zg3(a:Int × Rat)(l:List (Int × Rat)):mgK (a::l) []=l.length+1:=by rw [mgK];rfl
theorem Zfb(a b:Int × Rat)(l m:List (Int × Rat)):mgK (a::l) (b::m)=1+if a.1<b.1 then mgK l (b::m) else if b.1<a.1 then mgK (a::l) m else mgK l m:=by rw [mgK]
theorem ZrB(l:List (Int × Rat)):mgK l []=l.length:=by cases l;exact UP [];exact Zg3 _ _
theorem ZeM:∀(k:Nat) (l m:List (Int × Rat)),l.length+m.length≤k→mgK l m≤l.length+m.length
 | k,[],m,h=>by rw [UP];simp
 | k,a::l,[],h=>by rw [Zg3];simp
 | 0,a::l,b::m,h=>by simp at h
 | k+1,a::l,b::m,h=>by
   simp only [List.length_cons] at h
   have h1:=ZeM k l (b::m) (by simp <;>omega)
   have h2:=ZeM k (a::l) m (by simp <;>omega)
   have h3:=ZeM k l m (by omega)
   simp only [List.length_cons] at h1 h2
   rw [Zfb]
   simp only [List.length_cons]
   split
   ·omega
   ·split <;>omega
structure MgS where
 l:List (Int × Rat)
 m:List (Int × Rat)
 out:List (Int × Rat)
theorem Zcg{v:Int}{q:Rat}(h:q=0):Z4 v q=[]:=if_pos h
theorem Zal{v:Int}{q:Rat}(h:¬q=0):Z4 v q=[(v,q)]:=if_neg h
theorem ZeJ{n:Nat}{f g:Zf}{c:Rat}{b:Nat}(hF:∀t∈f.1,H t.2≤b)(hG:∀t∈g.1,H t.2≤b)(hb:b≤1000000)(hc:H c≤1000000)(hk:H f.2≤1000000)(hk2:H g.2≤1000000)(hlf:f.1.length≤1000000)(hlg:g.1.length≤1000000):
  run (n+1) 78 [Ze f,Ze g,Zn c]=some (Ze (Yl f.1 g.1 c,f.2+g.2*c)):=by
 have hm:=UX g.2 c
 have ha:=Zd2 f.2 (g.2*c)
 have hM:=ZeM _ f.1 g.1 (Nat.le_refl _)
 obtain ⟨b',hL,hI⟩:=QJ (O:=tab (n+1)) (P:= Tryz.prog) (m:=0) (N:=113) (lives:=Za 78) (r:=3) (C:=QD) (exN:=.exit 0) (M:=mgK f.1 g.1) (enc:=fun i (s:MgS)=>YB f g c s.l s.m s.out) (out:=fun s=>Zcn f g c s.out)
  (fun i s=>s.out++Yl s.l s.m c=Yl f.1 g.1 c∧mgK s.l s.m+i=mgK f.1 g.1∧s.out.length≤i∧(∀t∈s.l,H t.2≤b)∧∀t∈s.m,H t.2≤b) ⟨f.1,g.1,[]⟩ ⟨rfl,rfl,by simp,hF,hG⟩ (by omega) (by simp)
  (fun i s hi hI=>by
   obtain ⟨l,m,out⟩:=s
   obtain ⟨i1,i2,i3,i4,i5⟩:=hI
   dsimp only at i1 i2 i3 i4 i5 ⊢
   have fin:∀(l' m':List (Int × Rat)) (v:Int) (q:Rat),Yl l m c=Z4 v q++Yl l' m' c→mgK l m=1+mgK l' m'→(∀t∈l',H t.2≤b)→(∀t∈m',H t.2≤b)→∀(q':Rat),q'=q→
     (out++Z4 v q')++Yl l' m' c=Yl f.1 g.1 c∧mgK l' m'+(i+1)=mgK f.1 g.1∧(out++Z4 v q').length≤i+1∧(∀t∈l',H t.2≤b)∧∀t∈m',H t.2≤b:=fun l' m' v q h1 h2 h3 h4 q' hq=>by
    subst hq
    refine ⟨by rw [List.append_assoc,←h1];exact i1,by omega,?_,h3,h4⟩
    have:=YT v q'
    rw [List.length_append];omega
   match l,m with
   | [],[]=>rw [UP] at i2;simp at i2;omega
   | (v,q)::l,[]=>
     have e:=fin l [] v q (ZfC (v,q) l c) (by rw [Zg3,ZrB];omega) (fun t ht=>i4 t (by simp [ht])) i5 q rfl
     have hq:H q≤b:=i4 (v,q) (by simp)
     by_cases h0:q=0
     ·rw [Zcg h0,List.append_nil] at e
      exact ⟨⟨l,[],out⟩,ZsG (l_3:=(v,q)::l) (by simp <;>omega) (by simp) rfl (Zaa (by omega) h0) ⟨by omega,by simp <;>omega⟩,e⟩
     ·rw [Zal h0] at e
      exact ⟨⟨l,[],out++[(v,q)]⟩,Zr9 (l_3:=(v,q)::l) (by simp <;>omega) (by simp) rfl (ZcL (by omega) h0 (by omega)) ⟨by omega,by simp <;>omega⟩,e⟩
   | [],(u,p)::m=>
     have e:=fin [] m u (p*c) (Zco (u,p) m c) (by rw [UP,UP,List.length_cons];omega) i4 (fun t ht=>i5 t (by simp [ht])) (p*c) rfl
     have hp:H p≤b:=i5 (u,p) (by simp)
     have hpc:=UX p c
     by_cases h0:p*c=0
     ·rw [Zcg h0,List.append_nil] at e
      exact ⟨⟨[],m,out⟩,ZsC (l2_3:=(u,p)::m) (by simp) (by simp <;>omega) rfl (by omega) (by omega) (Zaa (by omega) h0) ⟨by omega,by simp <;>omega⟩,e⟩
     ·rw [Zal h0] at e
      exact ⟨⟨[],m,out++[(u,p*c)]⟩,Zot (l2_3:=(u,p)::m) (by simp) (by simp <;>omega) rfl (by omega) (by omega) (ZcL (by omega) h0 (by omega)) ⟨by omega,by simp <;>omega⟩,e⟩
   | (v,q)::l,(u,p)::m=>
     have hq:H q≤b:=i4 (v,q) (by simp)
     have hp:H p≤b:=i5 (u,p) (by simp)
     have hpc:=UX p c
     have hqp:=Zd2 q (p*c)
     have hk:=Zfb (v,q) (u,p) l m
     dsimp only at hk
     by_cases c1:v<u
     ·rw [if_pos c1] at hk
      have e:=fin l ((u,p)::m) v q (Zeo c1 l m c) hk (fun t ht=>i4 t (by simp [ht])) i5 q rfl
      by_cases h0:q=0
      ·rw [Zcg h0,List.append_nil] at e
       exact ⟨⟨l,(u,p)::m,out⟩,Zsx (l_3:=(v,q)::l) (l2_3:=(u,p)::m) (by simp <;>omega) (by simp <;>omega) rfl rfl c1 (Zaa (by omega) h0) ⟨by omega,by simp <;>omega⟩,e⟩
      ·rw [Zal h0] at e
       exact ⟨⟨l,(u,p)::m,out++[(v,q)]⟩,Zq0 (l_3:=(v,q)::l) (l2_3:=(u,p)::m) (by simp <;>omega) (by simp <;>omega) rfl rfl c1 (ZcL (by omega) h0 (by omega)) ⟨by omega,by simp <;>omega⟩,e⟩
     ·rw [if_neg c1] at hk
      by_cases c2:u<v
      ·rw [if_pos c2] at hk
       have e:=fin ((v,q)::l) m u (p*c) (Zd4 c2 l m c) hk i4 (fun t ht=>i5 t (by simp [ht])) (p*c) rfl
       by_cases h0:p*c=0
       ·rw [Zcg h0,List.append_nil] at e
        exact ⟨⟨(v,q)::l,m,out⟩,ZrU (l_3:=(v,q)::l) (l2_3:=(u,p)::m) (by simp <;>omega) (by simp <;>omega) rfl rfl c1 c2 (by omega) (by omega) (Zaa (by omega) h0) ⟨by omega,by simp <;>omega⟩,e⟩
       ·rw [Zal h0] at e
        exact ⟨⟨(v,q)::l,m,out++[(u,p*c)]⟩,ZsA (l_3:=(v,q)::l) (l2_3:=(u,p)::m) (by simp <;>omega) (by simp <;>omega) rfl rfl c1 c2 (by omega) (by omega) (ZcL (by omega) h0 (by omega)) ⟨by omega,by simp <;>omega⟩,e⟩
      ·rw [if_neg c2] at hk
       have huv:v=u:=by omega
       have e:=fin l m v (q+p*c) (Zel huv l m c) hk (fun t ht=>i4 t (by simp [ht])) (fun t ht=>i5 t (by simp [ht])) (q+p*c) rfl
       by_cases h0:q+p*c=0
       ·rw [Zcg h0,List.append_nil] at e
        exact ⟨⟨l,m,out⟩,Zsm (l_3:=(v,q)::l) (l2_3:=(u,p)::m) (by simp <;>omega) (by simp <;>omega) rfl rfl c1 c2 (by omega) (by omega) (by omega) (by omega) (Zaa (by omega) h0) ⟨by omega,by simp <;>omega⟩ ⟨by omega,by simp <;>omega⟩,e⟩
       ·rw [Zal h0] at e
        exact ⟨⟨l,m,out++[(v,q+p*c)]⟩,Zsd (l_3:=(v,q)::l) (l2_3:=(u,p)::m) (by simp <;>omega) (by simp <;>omega) rfl rfl c1 c2 (by omega) (by omega) (by omega) (by omega) (ZcL (by omega) h0 (by omega)) ⟨by omega,by simp <;>omega⟩ ⟨by omega,by simp <;>omega⟩,e⟩)
  (fun s hI=>by
   obtain ⟨l,m,out⟩:=s
   obtain ⟨_,i2,_⟩:=hI
   dsimp only at i2 ⊢
   have h0:l=[]∧m=[]:=by
    match l,m with
    | [],[]=>exact ⟨rfl,rfl⟩
    | a::l,[]=>rw [Zg3] at i2;omega
    | [],b::m=>rw [UP] at i2;simp at i2
    | a::l,b::m=>rw [Zfb] at i2;omega
   obtain ⟨rfl,rfl⟩:=h0
   exact ZsE (by simp) (by simp))
 obtain ⟨l,m,out⟩:=b'
 obtain ⟨i1,i2,_⟩:=hI
 dsimp only at i1 i2 hL
 have h0:l=[]∧m=[]:=by
  match l,m with
  | [],[]=>exact ⟨rfl,rfl⟩
  | a::l,[]=>rw [Zg3] at i2;omega
  | [],b::m=>rw [UP] at i2;simp at i2
  | a::l,b::m=>rw [Zfb] at i2;omega
 obtain ⟨rfl,rfl⟩:=h0
 rw [JL,List.append_nil] at i1
 subst i1
 exact ZxU (by omega) (by omega) (by omega) (by omega) hL
theorem ZvU{n:Nat}{f g:Zf}{b:Nat}(hF:∀t∈f.1,H t.2≤b)(hG:∀t∈g.1,H t.2≤b)(hb:b≤1000000)(hk:H f.2≤1000000)(hk2:H g.2≤1000000)(hlf:f.1.length≤1000000)(hlg:g.1.length≤1000000):
  run (n+2) 48 [Ze f,Ze g]=some (Ze (Yl f.1 g.1 1,f.2+g.2)):=by
 have e:ofQ 1=1:=by decide+kernel
 have h:=ZvQ (n:=n) (ZeJ (n:=n) (c:=ofQ 1) hF hG hb (by rw [e];decide) hk hk2 hlf hlg)
 rw [e,Rat.mul_one] at h
 exact h
theorem ZuE{n:Nat}{f g:Zf}{b:Nat}(hF:∀t∈f.1,H t.2≤b)(hG:∀t∈g.1,H t.2≤b)(hb:b≤1000000)(hk:H f.2≤1000000)(hk2:H g.2≤1000000)(hlf:f.1.length≤1000000)(hlg:g.1.length≤1000000):
  run (n+2) 68 [Ze f,Ze g]=some (Ze (Yl f.1 g.1 (-1),f.2-g.2)):=by
 have e:ofQ (-1)=-1:=by decide+kernel
 have h:=Zuv (n:=n) (ZeJ (n:=n) (c:=ofQ (-1)) hF hG hb (by rw [e];decide) hk hk2 hlf hlg)
 have e2:f.2+g.2*(-1)=f.2-g.2:=by grind
 rw [e,e2] at h
 exact h
theorem ZhE{n:Nat}{f:Zf}{c:Rat}{b:Nat}(hF:∀t∈f.1,H t.2≤b)(hb:b≤1000000)(hk:H f.2≤1000000)(hc:H c≤1000000)(hlf:f.1.length≤1000000):
  run (n+2) 37 [Ze f,Zn c]=some (Ze (Yl [] f.1 c,f.2*c)):=by
 have h:=ZeJ (n:=n) (f:=([],0)) (g:=f) (c:=c) (b:=b) (fun t ht=>by cases ht) hF hb hc (by decide) hk (by simp) hlf
 rw [Rat.zero_add] at h
 refine Zwl (n:=n) ?_
 simpa using h
end
section
open Go.RowKit
noncomputable def Wc:Code:=(Zb (ZP Tryz.f13)).getD 0 .skip
def Q7(a0:Zf)(a1:Zf)(i_4:Nat):St:=
 ⟨[(2,.ptr 0 0),(3,.ptr 1 0),(5,.lit (.int .i64 (i_4:Int)))],
  [(0,some (.box 28 [.sl 4 (a0.1.map Zr),.lit (.bool (Zd a0.2).s),Zc (Zd a0.2).l1,Zc (Zd a0.2).l2] false)),
   (1,some (.box 28 [.sl 4 (a1.1.map Zr),.lit (.bool (Zd a1.2).s),Zc (Zd a1.2).l1,Zc (Zd a1.2).l2] false))],2⟩
def Us:St:=
 ⟨[(4,.lit (.bool false))],
  [],0⟩
def Za2:St:=
 ⟨[(4,.any)],
  [],0⟩
section
variable {i_4 : Nat} {q5 : Rat} {v5 : Int} {v6 : Int} {a0 : Zf} {a1 : Zf} {n : Nat} {q6 : Rat}
section
variable(C1:(i_4:Int)<(a0.1.length:Int))(E2:a0.1[i_4]?=some (v5,q5))(E3:a1.1[i_4]?=some (v6,q6))
include C1 E2 E3
theorem Zqc(C4:v5=v6)(B5a:H q5≤17179869184)(B5b:H q6≤17179869184)(C6:q5=q6)(W7:InI ((i_4:Int)+1)):
  Zm 0 (exec Tryz.prog (tab n) 0 57 (Za 13) big Wc) (Za 13 4) (Q7 a0 a1 i_4) (Q7 a0 a1 (i_4+1)):=by
 have C1_:i_4<a0.1.length:=by omega
 obtain ⟨EL2,EG2⟩:=List.getElem?_eq_some_iff.1 E2
 obtain ⟨EL3,EG3⟩:=List.getElem?_eq_some_iff.1 E3
 have C4_n:(v5 !=v6)=false:=by rw [C4];simp
 have K5:=Zdg (p:=q5) (q:=q6) B5a B5b
 have C6_:decide (q5=q6)=true:=decide_eq_true C6
 have W7_:IntKind.i64.wrap ((i_4:Int)+1)=(i_4:Int)+1:=Zq W7.1 W7.2
 unfold Zm
 simp+decide [Q7,Zb, Tryz.f13,Wc,C1,C1_,EG2,EL3,EG3,C4_n,K5,C6_,W7_]
theorem Zoj(C4:¬v5=v6):
  Zj 0 (exec Tryz.prog (tab n) 0 57 (Za 13) big Wc) (Za 13 (Zo 4)) (Q7 a0 a1 i_4) (.ret) (Us):=by
 have C1_:i_4<a0.1.length:=by omega
 obtain ⟨EL2,EG2⟩:=List.getElem?_eq_some_iff.1 E2
 obtain ⟨EL3,EG3⟩:=List.getElem?_eq_some_iff.1 E3
 have C4_n:(v5 !=v6)=true:=by simpa using C4
 unfold Zj
 simp+decide [Q7,Zb, Tryz.f13,Us,Wc,C1,C1_,EG2,EL3,EG3,C4_n]
theorem ZlV(C4:v5=v6)(B5a:H q5≤17179869184)(B5b:H q6≤17179869184)(C6:¬(q5=q6)):
  Zj 0 (exec Tryz.prog (tab n) 0 57 (Za 13) big Wc) (Za 13 (Zo 4)) (Q7 a0 a1 i_4) (.ret) (Us):=by
 have C1_:i_4<a0.1.length:=by omega
 obtain ⟨EL2,EG2⟩:=List.getElem?_eq_some_iff.1 E2
 obtain ⟨EL3,EG3⟩:=List.getElem?_eq_some_iff.1 E3
 have C4_n:(v5 !=v6)=false:=by rw [C4];simp
 have K5:=Zdg (p:=q5) (q:=q6) B5a B5b
 unfold Zj
 simp+decide [Q7,Zb, Tryz.f13,Us,Wc,C1,C1_,EG2,EL3,EG3,C4_n,K5,C6]
end
theorem Zmt(C1:¬(i_4:Int)<(a0.1.length:Int)):
  Zj 0 (exec Tryz.prog (tab n) 0 57 (Za 13) big Wc) (Za 13 (Zo 4)) (Q7 a0 a1 i_4) (.exit 0) (Za2):=by
 unfold Zj
 simp+decide [Q7,Zb, Tryz.f13,Za2,Wc,C1]
theorem ZvI(C1:¬(a0.1.length:Int)=(a1.1.length:Int)):
  run n 13 [Ze a0,Ze a1]=some (.lit (.bool false)):=by
 have C1_n:((a0.1.length:Int) !=(a1.1.length:Int))=true:=by simpa using C1
 unfold run fnP
 simp+decide [Tryz.f13,C1_n]
section
variable(C1:(a0.1.length:Int)=(a1.1.length:Int))(B2a:H a0.2≤17179869184)(B2b:H a1.2≤17179869184)
include C1 B2a B2b
theorem Zvo(C3:¬(a0.2=a1.2)):
  run n 13 [Ze a0,Ze a1]=some (.lit (.bool false)):=by
 have C1_n:((a0.1.length:Int) !=(a1.1.length:Int))=false:=by rw [C1];simp
 have K2:=Zdg (p:=a0.2) (q:=a1.2) B2a B2b
 unfold run fnP
 simp+decide [Tryz.f13,C1_n,K2,C3]
theorem Zvy(C3:a0.2=a1.2)(L4:Zk Tryz.prog (tab n) 0 57 (Za 13) 4 Wc (Q7 a0 a1 0)=some (.ret,Us)):
  run n 13 [Ze a0,Ze a1]=some (.lit (.bool false)):=by
 have C1_n:((a0.1.length:Int) !=(a1.1.length:Int))=false:=by rw [C1];simp
 have K2:=Zdg (p:=a0.2) (q:=a1.2) B2a B2b
 have C3_:decide (a0.2=a1.2)=true:=decide_eq_true C3
 unfold run fnP
 simp+decide [Tryz.f13,C1_n,K2,C3_]
 rw [Zi (C':=Wc) (e:=(Q7 a0 a1 0)) ?_ ?_,L4]
 rotate_left
 ·kernel_rfl
 ·simp+decide [Q7]
 simp+decide [Us]
theorem Zu5(C3:a0.2=a1.2)(L4:Zk Tryz.prog (tab n) 0 57 (Za 13) 4 Wc (Q7 a0 a1 0)=some (.exit 0,Za2)):
  run n 13 [Ze a0,Ze a1]=some (.lit (.bool true)):=by
 have C1_n:((a0.1.length:Int) !=(a1.1.length:Int))=false:=by rw [C1];simp
 have K2:=Zdg (p:=a0.2) (q:=a1.2) B2a B2b
 have C3_:decide (a0.2=a1.2)=true:=decide_eq_true C3
 unfold run fnP
 simp+decide [Tryz.f13,C1_n,K2,C3_]
 rw [Zi (C':=Wc) (e:=(Q7 a0 a1 0)) ?_ ?_,L4]
 rotate_left
 ·kernel_rfl
 ·simp+decide [Q7]
 simp+decide [Za2]
end
end
end
section
open Go.RowKit
attribute [local irreducible] run Zp Zk exec
theorem Zn3{α:Type}{l m:List α}(hl:l.length=m.length):(∀i,i<l.length→l[i]?=m[i]?)→l=m:=fun h=>by
 apply List.ext_getElem?
 intro i
 rcases Nat.lt_or_ge i l.length with hi|hi
 ·exact h i hi
 ·rw [List.getElem?_eq_none hi,List.getElem?_eq_none (by omega)]
theorem Zx9{n:Nat}{f g:Zf}(hf:BdF 17179869184 f)(hg:BdF 17179869184 g):run n 13 [Ze f,Ze g]=some (.lit (.bool (tv (f=g)))):=by
 have l1:=hf.l
 have l2:=hg.l
 by_cases hl:f.1.length=g.1.length
 ·by_cases hk:f.2=g.2
  ·have L:=Q1 (O:=tab n) (P:= Tryz.prog) (m:=0) (N:=57) (lives:=Za 13) (r:=4) (C:=Wc) (M:=f.1.length) (enc:=Q7 f g) (p:=fun i=>tv (f.1[i]?=g.1[i]?)) (exN:=.exit 0) (exE:=.ret) (out:=Za2) (outE:=Us) (by omega) (fun h=>by cases h) (fun h=>by cases h)
    (fun i hi _=>by
     have hx:f.1[i]?=some f.1[i]:=List.getElem?_eq_getElem hi
     have hy:g.1[i]?=some (g.1[i]'(by omega)):=List.getElem?_eq_getElem _
     obtain ⟨t,ht⟩:∃t,f.1[i]=t:=⟨_,rfl⟩
     obtain ⟨u,hu⟩:∃u,(g.1[i]'(by omega))=u:=⟨_,rfl⟩
     rw [ht] at hx
     rw [hu] at hy
     obtain ⟨v,q⟩:=t
     obtain ⟨v',q'⟩:=u
     have hq:=hf.t _ (List.mem_of_getElem? hx)
     have hq':=hg.t _ (List.mem_of_getElem? hy)
     dsimp only at hq hq'
     refine ⟨fun hp=>?_,fun hp=>?_⟩
     ·have hp:=YG hp
      rw [hx,hy] at hp
      cases hp
      exact Zqc (by omega) hx hy rfl hq hq' rfl ⟨by omega,by omega⟩
     ·have hp:=QV hp
      rw [hx,hy] at hp
      by_cases e1:v=v'
      ·exact ZlV (by omega) hx hy e1 hq hq' fun e2=>hp (by rw [e1,e2])
      ·exact Zoj (by omega) hx hy e1)
    (Zmt (by omega))
   by_cases hA:∀i,i<f.1.length→tv (f.1[i]?=g.1[i]?)=true
   ·rw [if_pos hA] at L
    rw [Q8 (Prod.ext (Zn3 hl fun i hi=>YG (hA i hi)) hk)]
    exact Zu5 (by omega) hf.k hg.k hk L
   ·rw [if_neg hA] at L
    rw [Xx fun h=>hA fun i hi=>Q8 (by rw [h])]
    exact Zvy (by omega) hf.k hg.k hk L
  ·rw [Xx fun h=>hk (by rw [h])]
   exact Zvo (by omega) hf.k hg.k hk
 ·rw [Xx fun h=>hl (by rw [h])]
  exact ZvI (by omega)
end
section
open Go.RowKit
attribute [local irreducible] run Zp Zk exec
theorem Km{q:Rat}:q.num<0↔q<0:=by
 have:=Rat.num_nonneg (q:=q)
 constructor
 ·intro h
  have h1:¬0≤q:=fun h2=>by have:=this.2 h2;omega
  grind
 ·intro h
  have h1:¬0≤q.num:=fun h2=>by have:=this.1 h2;grind
  omega
theorem Znr{q:Rat}:0<q.num↔0<q:=by
 have h:=Km (q:=-q)
 rw [Rat.neg_num] at h
 constructor
 ·intro h1
  have:=h.1 (by omega)
  grind
 ·intro h1
  have:=h.2 (by grind)
  omega
theorem Zrx{q:Rat}(h:0<q):sgR q=1:=Int.sign_eq_one_of_pos (Znr.2 h)
theorem Zoi{q:Rat}(h:q<0):sgR q=-1:=Int.sign_eq_neg_one_of_neg (Km.2 h)
theorem Wd(q:Rat):(0<q∧sgR q=1)∨(q<0∧sgR q=-1)∨(q=0∧sgR q=0):=by
 by_cases h1:0<q
 ·exact .inl ⟨h1,Zrx h1⟩
 ·by_cases h2:q<0
  ·exact .inr (.inl ⟨h2,Zoi h2⟩)
  ·have:q=0:=by grind
   exact .inr (.inr ⟨this,Yi.2 this⟩)
theorem Znz(q:Rat):InI (sgR q):=by
 rcases Wd q with ⟨_,h⟩|⟨_,h⟩|⟨_,h⟩ <;>rw [h] <;>exact ⟨by omega,by omega⟩
theorem UE{q:Rat}:sgR q<0↔q<0:=by
 rcases Wd q with ⟨h1,h⟩|⟨h1,h⟩|⟨h1,h⟩ <;>rw [h]
 ·exact ⟨fun h=>absurd h (by omega),fun h=>by grind⟩
 ·exact ⟨fun _=>h1,fun _=>by omega⟩
 ·exact ⟨fun h=>absurd h (by omega),fun h=>by grind⟩
theorem ZiV{q:Rat}:0≤sgR q↔0≤q:=by
 have:=UE (q:=q)
 constructor
 ·intro h
  false_or_by_contra
  have:=this.2 (by grind)
  omega
 ·intro h
  false_or_by_contra
  have:=this.1 (by omega)
  grind
theorem UF:ofQ 1=1:=by decide+kernel
theorem Zjh(q:Rat):ofQ (sgR q)=sgQ q:=by
 unfold sgQ
 rcases Wd q with ⟨h1,h⟩|⟨h1,h⟩|⟨h1,h⟩ <;>rw [h]
 ·rw [if_pos h1];decide+kernel
 ·rw [if_neg (by grind),if_pos h1];decide+kernel
 ·rw [if_neg (by grind),if_neg (by grind)];decide+kernel
theorem Zfq(q:Rat):Zc0 q=Qt q:=by
 unfold Zc0 Qt
 by_cases h:q<0
 ·rw [if_pos (Km.2 h),if_pos h]
 ·rw [if_neg (fun e=>h (Km.1 e)),if_neg h]
theorem Zl0{q:Rat}:(Zd q).s=true↔q<0:=by
 show decide (q.num<0)=true↔q<0
 rw [decide_eq_true_iff]
 exact Km
theorem Zwz{q:Rat}(h:¬q<0):(Zd q).s=false:=by
 rcases Bool.eq_false_or_eq_true (Zd q).s with h1|h1
 ·exact absurd (Zl0.1 h1) h
 ·exact h1
structure FB (m:Nat) (f:Zf):Prop where
 s:Srt f.1
 h:FH m f
 l:f.1.length≤100
 v:∀t∈f.1,0≤t.1∧t.1<1099511627776
theorem FB.mono{m k:Nat}{f:Zf}(h:FB m f)(hk:m≤k):FB k f:=⟨h.s,⟨fun t ht=>Nat.le_trans (h.h.1 t ht) hk,Nat.le_trans h.h.2 hk⟩,h.l,h.v⟩
theorem FB.tm{m:Nat}{f:Zf}(h:FB m f):TmB m f.1:=fun t ht=>⟨h.s.2 t ht,h.h.1 t ht⟩
theorem FB.bd{m k:Nat}{f:Zf}(h:FB m f)(hk:m≤k):BdF k f:=⟨by have:=h.l;omega,fun t ht=>Nat.le_trans (h.h.1 t ht) hk,Nat.le_trans h.h.2 hk⟩
theorem Zd3{f:Zf}(hs:Srt f.1):(Zs f).1.length=f.1.length∧∀t∈(Zs f).1,∃u∈f.1,u.1=t.1:=by
 obtain ⟨F,q⟩:=f
 cases F with
 | nil=>exact ⟨rfl,fun t ht=>(by cases ht)⟩
 | cons t F=>
   have hp:=Zah (WB (hs.2 t List.mem_cons_self))
   have e:(Zs (t::F,q)).1=(t::F).map fun u=>(u.1,u.2*(1 / Qt t.2)):=ZeY (fun e=>by rw [e] at hp;exact absurd hp (by decide)) hs.2
   rw [e]
   refine ⟨by rw [List.length_map],fun u hu=>?_⟩
   obtain ⟨w,hw,rfl⟩:=List.mem_map.1 hu
   exact ⟨w,hw,rfl⟩
theorem FB.norm{m:Nat}{f:Zf}(h:FB m f)(h1:1≤m):FB (m+m) (Zs f):=by
 obtain ⟨a,b⟩:=Zd3 h.s
 refine ⟨Vv h.s,FH.norm h.s h.h h1,by rw [a];exact h.l,fun t ht=>?_⟩
 obtain ⟨u,hu,e⟩:=b t ht
 rw [←e]
 exact h.v u hu
theorem FB.tx{m:Nat}{f:Zf}(h:FB m f)(hm:m≤10000):TxB f:=⟨h.l,fun t ht=>⟨Nat.le_trans (h.h.1 t ht) hm,(h.v t ht).1,by have:=(h.v t ht).2;omega⟩,Nat.le_trans h.h.2 hm⟩
section
variable {n m : Nat} {f : Zf} {L : List Zf}
theorem ZyG(h:FB m f)(hm:m≤5000):run (n+7) 11 [Ze f]=some (Ze (Zs f)):=by
 obtain ⟨F,q⟩:=f
 have hq:H q≤5000:=Nat.le_trans h.h.2 hm
 cases F with
 | nil=>
   have e:=Zv9 (n:=n) (a0:=(([],q):Zf)) rfl (by dsimp only;omega) (Znz _)
   dsimp only at e
   rw [Zjh] at e
   exact e
 | cons t F=>
   obtain ⟨v,c⟩:=t
   have hc0:c≠0:=h.s.nz
   have hc1:Qt c≠0:=fun e=>by have:=WB hc0;rw [e] at this;exact absurd this (by decide)
   have hcH:H c≤5000:=Nat.le_trans (h.h.1 (v,c) List.mem_cons_self) hm
   have hl:=h.l
   have D:=ZuQ (n:=n) (a:=ofQ 1) (c:=Zd (Zc0 c)) (by rw [UF];decide+kernel) (Zbn (by rw [Zwk];omega)) (by rw [Qx,Zfq];exact hc1)
   rw [Qx,Zfq,UF] at D
   rw [←Zfq,Zac,Zfq] at D
   dsimp only at D
   have hi:H (1 / Qt c)≤5000:=Nat.le_trans (Zfr hc1) (by rw [Zhv];exact hcH)
   have S:=ZhE (n:=n+4) (f:=(((v,c)::F,q):Zf)) (c:=1 / Qt c) (b:=5000) (fun t ht=>Nat.le_trans (h.h.1 t ht) hm) (by omega) (by dsimp only;omega) (by omega) (by omega)
   rw [Jl] at S
   rw [←UF] at D
   exact ZuU (n:=n) (a0:=(((v,c)::F,q):Zf)) (by simp;omega) rfl D S
theorem Zxs(h:FB m f)(hm:m≤5000):run (n+7) 14 [Ze f]=some (Ze (Zs f)):=by
 obtain ⟨F,q⟩:=f
 have hq:H q≤5000:=Nat.le_trans h.h.2 hm
 cases F with
 | nil=>
   have e:=Zvk (n:=n) (a0:=(([],q):Zf)) rfl (by dsimp only;omega) (Znz _)
   dsimp only at e
   rw [Zjh] at e
   exact e
 | cons t F=>
   obtain ⟨v,c⟩:=t
   have hc0:c≠0:=h.s.nz
   have hc1:Qt c≠0:=fun e=>by have:=WB hc0;rw [e] at this;exact absurd this (by decide)
   have hcH:H c≤5000:=Nat.le_trans (h.h.1 (v,c) List.mem_cons_self) hm
   have hl:=h.l
   have hi:H (1 / Qt c)≤5000:=Nat.le_trans (Zfr hc1) (by rw [Zhv];exact hcH)
   have S:=Zay (n:=n+5) (f:=(((v,c)::F,q):Zf)) (c:=1 / Qt c) (fun t ht=>⟨h.s.2 t ht,Nat.le_trans (h.h.1 t ht) (by omega)⟩) (by omega) (by dsimp only;omega) (by omega)
   by_cases hneg:c<0
   ·have e:Qt c=-c:=if_pos hneg
    have D:=Zmk (n:=n) (a:=ofQ 1) (c:=Zd (-c)) (by rw [UF];decide+kernel) (Zbn (by rw [Zcz];omega)) (by rw [Qx,←e];exact hc1)
    rw [Qx] at D
    have e2:ofQ 1 / -c=1 / Qt c:=by rw [UF,e]
    rw [e2] at D
    exact Zwp (n:=n) (a0:=(((v,c)::F,q):Zf)) (by simp;omega) rfl (by omega) (UE.2 hneg) D S
   ·have e:Qt c=c:=if_neg hneg
    have D:=Zmk (n:=n) (a:=ofQ 1) (c:=Zd c) (by rw [UF];decide+kernel) (Zbn (by omega)) (by rw [Qx];exact hc0)
    rw [Qx] at D
    have e2:ofQ 1 / c=1 / Qt c:=by rw [UF,e]
    rw [e2] at D
    exact Zwd (n:=n) (a0:=(((v,c)::F,q):Zf)) (by simp;omega) rfl (by omega) (fun h=>hneg (UE.1 h)) D S
def Vpos(L:List Zf):Prop:=∀g∈L,∀t∈g.1,0≤t.1
theorem Vpos.nil:Vpos []:=fun g hg=>by cases hg
theorem Vpos.col(hL:Vpos L)(h:FB m f):Vpos (ZV L f):=fun g hg t ht=>by
 unfold ZV at hg
 split at hg
 ·exact hL g hg t ht
 split at hg
 ·exact hL g hg t ht
 ·rcases List.mem_append.1 hg with h1|h1
  ·exact hL g h1 t ht
  ·rw [List.mem_singleton.1 h1] at ht
   obtain ⟨u,hu,e⟩:=(Zd3 h.s).2 t ht
   rw [←e]
   exact (h.v u hu).1
theorem US(L:List Zf)(f:Zf):(ZV L f).length≤L.length+1:=by
 unfold ZV
 split
 ·omega
 split
 ·omega
 ·rw [List.length_append];simp
theorem Zgp(L:List Zf)(r:Zf):L.length+1=(L++[r]).length:=by simp
theorem Zhr(h:FB m f)(h1:1≤m)(hm:m≤5000)(hL:Vpos L)(hl:L.length≤10000000):
  (ZV L f=L∧Zp (n+8) 46 [.ptr 0 0,Ze f] [.box 78 [.own 1 L.length,.mp 2] false,.row 28 4 (L.map Zh) 0,.mp (Qp L)]=some (.tup [],[(0,.box 78 [.own 1 L.length,.mp 2] false),(1,.row 28 4 (L.map Zh) 0),(2,.mp (Qp L))]))∨
  Zp (n+8) 46 [.ptr 0 0,Ze f] [.box 78 [.own 1 L.length,.mp 2] false,.row 28 4 (L.map Zh) 0,.mp (Qp L)]=some (.tup [],[(0,.box 78 [.own 6 (ZV L f).length,.mp 2] false),(2,.mp (Qp (ZV L f))),(6,.row 28 4 ((ZV L f).map Zh) 0)]):=by
 have K1:=ZyG (n:=n) h hm
 have hN:=h.norm h1
 have K2:=ZyJ (n:=n) (hN.tx (by omega))
 have inj:∀g∈L,txt (Zs f)=txt g→Zs f=g:=fun g hg e=>Ztj (fun t ht=>(hN.v t ht).1) (hL g hg) e
 have hF:=Zeh (L:=L) inj
 by_cases ht:(Zs f).1=[]∧0≤(Zs f).2
 ·refine .inl ⟨if_pos ht,?_⟩
  exact Zv7 K1 K2 (by rw [ht.1];rfl) (Zwz (by have:=ht.2;grind))
 by_cases hin:Zs f∈L
 ·rw [if_pos hin] at hF
  refine .inl ⟨by unfold ZV;rw [if_neg ht,if_pos hin],?_⟩
  by_cases h0:(Zs f).1=[]
  ·exact Zwv K1 K2 (by rw [h0];rfl) (Zl0.2 (by have:=fun e=>ht ⟨h0,e⟩;grind)) hF rfl
  ·exact ZuF K1 K2 (fun e=>h0 (List.eq_nil_of_length_eq_zero (by omega))) hF rfl
 ·rw [if_neg hin] at hF
  have e:ZV L f=L++[Zs f]:=by unfold ZV;rw [if_neg ht,if_neg hin]
  have hP:=Zgw (n:=Zs f) (L:=L) (fun g hg e=>hin (by rw [inj g hg e];exact hg))
  refine .inr ?_
  rw [e,←hP,←Zgp]
  by_cases h0:(Zs f).1=[]
  ·exact Zu8 (L:=L) K1 K2 (by rw [h0];rfl) (Zl0.2 (by have:=fun e=>ht ⟨h0,e⟩;grind)) hF (by omega)
  ·exact Zvi (L:=L) K1 K2 (fun e=>h0 (List.eq_nil_of_length_eq_zero (by omega))) hF (by omega)
theorem Zh9(h:FB m f)(h1:1≤m)(hm:m≤5000)(hL:∀g∈L,BdF 17179869184 g)(hl:L.length≤10000000):
  (ZV L f=L∧Zp (n+8) 49 [.own 0 L.length,Ze f] [.row 28 4 (L.map Zh) 0]=some (.own 0 L.length,[(0,.row 28 4 (L.map Zh) 0)]))∨
  Zp (n+8) 49 [.own 0 L.length,Ze f] [.row 28 4 (L.map Zh) 0]=some (.own 3 (ZV L f).length,[(3,.row 28 4 ((ZV L f).map Zh) 0)]):=by
 have K1:=Zxs (n:=n) h hm
 have hN:=h.norm h1
 have hNb:=hN.bd (k:=17179869184) (by omega)
 have hk:=hNb.k
 by_cases ht:(Zs f).1=[]∧0≤(Zs f).2
 ·exact .inl ⟨if_pos ht,ZvM K1 (by rw [ht.1];rfl) hk (ZiV.2 ht.2)⟩
 have hsg:(Zs f).1=[]→¬0≤sgR (Zs f).2:=fun h0 e=>ht ⟨h0,ZiV.1 e⟩
 have X:=Q1 (O:=tab (n+8)) (P:= Tryz.prog) (m:=1) (N:=37) (lives:=Za 49) (r:=5) (C:=Xo) (M:=L.length) (enc:=fun i=>Qm L i (Zs f)) (p:=fun i=>tv (L[i]?≠some (Zs f))) (exN:=.exit 0) (exE:=.ret) (out:=UH L (Zs f)) (outE:=UJ L (Zs f)) (by omega) (by simp) (by simp)
  (fun i hi _=>by
   have hx:L[i]?=some L[i]:=List.getElem?_eq_getElem hi
   obtain ⟨g,hg⟩:∃g,L[i]=g:=⟨_,rfl⟩
   rw [hg] at hx
   obtain ⟨G,q⟩:=g
   have K4:=Zx9 (n:=n+7) (hL _ (List.mem_of_getElem? hx)) hNb
   refine ⟨fun hp=>?_,fun hp=>?_⟩
   ·have hp:=YG hp
    exact Zpj (by omega) hi hx K4 (Xx fun e=>hp (by rw [hx,e])) ⟨by omega,by omega⟩
   ·have hp:=QV hp
    refine Zpg (by omega) hi hx K4 (Q8 ?_)
    rw [hx] at hp
    false_or_by_contra
    rename_i h9
    exact hp fun e=>h9 (Option.some.inj e))
  (Zqg (by omega))
 by_cases hin:Zs f∈L
 ·obtain ⟨i,hi⟩:=List.mem_iff_getElem?.1 hin
  rw [if_neg (fun (h9:∀i,i<L.length→tv (L[i]?≠some (Zs f))=true)=>(YG (h9 i (List.getElem?_eq_some_iff.1 hi).1)) hi)] at X
  refine .inl ⟨by unfold ZV;rw [if_neg ht,if_pos hin],?_⟩
  by_cases h0:(Zs f).1=[]
  ·exact ZuA K1 (by rw [h0];rfl) hk (hsg h0) X
  ·exact Zwq K1 (fun e=>h0 (List.eq_nil_of_length_eq_zero (by omega))) X
 ·rw [if_pos (fun i hi=>Q8 fun e=>hin (List.mem_of_getElem? e))] at X
  have e:ZV L f=L++[Zs f]:=by unfold ZV;rw [if_neg ht,if_neg hin]
  refine .inr ?_
  rw [e,←Zgp]
  by_cases h0:(Zs f).1=[]
  ·exact ZtW K1 (by rw [h0];rfl) hk (hsg h0) X (by omega)
  ·exact Zvl K1 (fun e=>h0 (List.eq_nil_of_length_eq_zero (by omega))) X (by omega)
end
end
section
set_option maxHeartbeats 1600000
open Go.RowKit
attribute [local irreducible] run Zp Zk exec
theorem EndsI.nil:EndsI [] false false 0 0:={z:=(fun r h=>by cases h),lo:=(fun h=>by cases h),nlo:=(fun _ r h=>by cases h),hi:=(fun h=>by cases h),nhi:=(fun _ r h=>by cases h)}
section
variable{l:List (Rat × Rat)}{low high:Bool}{least most:Rat}{a c v:Rat}
theorem EndsI.zeroR(h:EndsI l low high least most)(ha:a=0)(hc:0≤c):EndsI (l++[(a,c)]) low high least most:=by
 have mem:∀r,r∈l++[(a,c)]→r∈l∨r=(a,c):=fun r hr=>by simpa using hr
 refine ⟨fun r hr h0=>?_,fun hl=>⟨?_,fun r hr h1=>?_⟩,fun hl r hr h1=>?_,fun hl=>⟨?_,fun r hr h1=>?_⟩,fun hl r hr h1=>?_⟩
 ·rcases mem r hr with h9|rfl
  ·exact h.z r h9 h0
  ·exact hc
 ·obtain ⟨⟨r,h1,h2⟩,_⟩:=h.lo hl;exact ⟨r,List.mem_append_left _ h1,h2⟩
 ·rcases mem r hr with h9|rfl
  ·exact (h.lo hl).2 r h9 h1
  ·dsimp only at h1;grind
 ·rcases mem r hr with h9|rfl
  ·exact h.nlo hl r h9 h1
  ·dsimp only at h1;grind
 ·obtain ⟨⟨r,h1,h2⟩,_⟩:=h.hi hl;exact ⟨r,List.mem_append_left _ h1,h2⟩
 ·rcases mem r hr with h9|rfl
  ·exact (h.hi hl).2 r h9 h1
  ·dsimp only at h1;grind
 ·rcases mem r hr with h9|rfl
  ·exact h.nhi hl r h9 h1
  ·dsimp only at h1;grind
theorem EndsI.upNew(h:EndsI l low high least most)(ha:0<a)(hv:v*a+c=0)(hn:low=false∨least≤v):EndsI (l++[(a,c)]) true high v most:=by
 have mem:∀r,r∈l++[(a,c)]→r∈l∨r=(a,c):=fun r hr=>by simpa using hr
 refine ⟨fun r hr h0=>?_,fun _=>⟨⟨(a,c),by simp,ha,hv⟩,fun r hr h1=>?_⟩,(fun hl=>by cases hl),fun hl=>⟨?_,fun r hr h1=>?_⟩,fun hl r hr h1=>?_⟩
 ·rcases mem r hr with h9|rfl
  ·exact h.z r h9 h0
  ·dsimp only at h0;grind
 ·rcases mem r hr with h9|rfl
  ·cases hlow:low with
   | false=>exact absurd h1 (h.nlo hlow r h9)
   | true=>
     have h2:=(h.lo hlow).2 r h9 h1
     have h3:least≤v:=by rcases hn with h8|h8;rw [hlow] at h8;cases h8;exact h8
     have:=VV (a:=r.1) (by grind) h3
     grind
  ·show 0≤v*a+c;grind
 ·obtain ⟨⟨r,h1,h2⟩,_⟩:=h.hi hl;exact ⟨r,List.mem_append_left _ h1,h2⟩
 ·rcases mem r hr with h9|rfl
  ·exact (h.hi hl).2 r h9 h1
  ·dsimp only at h1;grind
 ·rcases mem r hr with h9|rfl
  ·exact h.nhi hl r h9 h1
  ·dsimp only at h1;grind
theorem EndsI.upOld(h:EndsI l true high least most)(ha:0<a)(hv:v*a+c=0)(hn:v≤least):EndsI (l++[(a,c)]) true high least most:=by
 have mem:∀r,r∈l++[(a,c)]→r∈l∨r=(a,c):=fun r hr=>by simpa using hr
 refine ⟨fun r hr h0=>?_,fun _=>⟨?_,fun r hr h1=>?_⟩,(fun hl=>by cases hl),fun hl=>⟨?_,fun r hr h1=>?_⟩,fun hl r hr h1=>?_⟩
 ·rcases mem r hr with h9|rfl
  ·exact h.z r h9 h0
  ·dsimp only at h0;grind
 ·obtain ⟨⟨r,h1,h2⟩,_⟩:=h.lo rfl;exact ⟨r,List.mem_append_left _ h1,h2⟩
 ·rcases mem r hr with h9|rfl
  ·exact (h.lo rfl).2 r h9 h1
  ·have:=VV (a:=a) (by grind) hn
   show 0≤least*a+c;grind
 ·obtain ⟨⟨r,h1,h2⟩,_⟩:=h.hi hl;exact ⟨r,List.mem_append_left _ h1,h2⟩
 ·rcases mem r hr with h9|rfl
  ·exact (h.hi hl).2 r h9 h1
  ·dsimp only at h1;grind
 ·rcases mem r hr with h9|rfl
  ·exact h.nhi hl r h9 h1
  ·dsimp only at h1;grind
theorem EndsI.downNew(h:EndsI l low high least most)(ha:a<0)(hv:v*a+c=0)(hn:high=false∨v≤most):EndsI (l++[(a,c)]) low true least v:=by
 have mem:∀r,r∈l++[(a,c)]→r∈l∨r=(a,c):=fun r hr=>by simpa using hr
 refine ⟨fun r hr h0=>?_,fun hl=>⟨?_,fun r hr h1=>?_⟩,fun hl r hr h1=>?_,fun _=>⟨⟨(a,c),by simp,ha,hv⟩,fun r hr h1=>?_⟩,(fun hl=>by cases hl)⟩
 ·rcases mem r hr with h9|rfl
  ·exact h.z r h9 h0
  ·dsimp only at h0;grind
 ·obtain ⟨⟨r,h1,h2⟩,_⟩:=h.lo hl;exact ⟨r,List.mem_append_left _ h1,h2⟩
 ·rcases mem r hr with h9|rfl
  ·exact (h.lo hl).2 r h9 h1
  ·dsimp only at h1;grind
 ·rcases mem r hr with h9|rfl
  ·exact h.nlo hl r h9 h1
  ·dsimp only at h1;grind
 ·rcases mem r hr with h9|rfl
  ·cases hhi:high with
   | false=>exact absurd h1 (h.nhi hhi r h9)
   | true=>
     have h2:=(h.hi hhi).2 r h9 h1
     have h3:v≤most:=by rcases hn with h8|h8;rw [hhi] at h8;cases h8;exact h8
     have:=VV (a:=-r.1) (by grind) h3
     grind
  ·show 0≤v*a+c;grind
theorem EndsI.downOld(h:EndsI l low true least most)(ha:a<0)(hv:v*a+c=0)(hn:most≤v):EndsI (l++[(a,c)]) low true least most:=by
 have mem:∀r,r∈l++[(a,c)]→r∈l∨r=(a,c):=fun r hr=>by simpa using hr
 refine ⟨fun r hr h0=>?_,fun hl=>⟨?_,fun r hr h1=>?_⟩,fun hl r hr h1=>?_,fun _=>⟨?_,fun r hr h1=>?_⟩,(fun hl=>by cases hl)⟩
 ·rcases mem r hr with h9|rfl
  ·exact h.z r h9 h0
  ·dsimp only at h0;grind
 ·obtain ⟨⟨r,h1,h2⟩,_⟩:=h.lo hl;exact ⟨r,List.mem_append_left _ h1,h2⟩
 ·rcases mem r hr with h9|rfl
  ·exact (h.lo hl).2 r h9 h1
  ·dsimp only at h1;grind
 ·rcases mem r hr with h9|rfl
  ·exact h.nlo hl r h9 h1
  ·dsimp only at h1;grind
 ·obtain ⟨⟨r,h1,h2⟩,_⟩:=h.hi rfl;exact ⟨r,List.mem_append_left _ h1,h2⟩
 ·rcases mem r hr with h9|rfl
  ·exact (h.hi rfl).2 r h9 h1
  ·have:=VV (a:=-a) (by grind) hn
   show 0≤most*a+c;grind
end
theorem ZgQ:Zn 0=.agg [.lit (.bool false),.sl 1 [],.sl 1 []]:=by
 show AV.agg [.lit (.bool (Zd 0).s),Zc (Zd 0).l1,Zc (Zd 0).l2]=_
 rw [show Zd 0=⟨false,[],[]⟩ from by decide+kernel]
 rfl
theorem ZtK{z:Int}(h:-1073741824≤z∧z≤1073741824):H (z:Rat)≤1:=by
 unfold H
 rw [Rat.num_intCast,Rat.den_intCast]
 have h1:(lmb z.natAbs).length≤1:=Yc (by omega)
 have h2:(lmb 1).length≤1:=Yc (by omega)
 omega
theorem Zx6{a b:Rat}(h:b≠0):H (a / b)≤H a+H b:=by
 have e:a / b=a*(1 / b):=by rw [Rat.div_def,Rat.div_def,Rat.one_mul]
 rw [e]
 have:=UX a (1 / b)
 have:=Zfr h
 omega
theorem Zng{a c:Int}(ha:a≠0)(hab:-1073741824≤a∧a≤1073741824)(hcb:-1073741824≤c∧c≤1073741824):YW (-c) a*(a:Rat)+(c:Rat)=0∧H (YW (-c) a)≤2:=by
 have h0:(a:Rat)≠0:=by exact_mod_cast ha
 unfold YW
 refine ⟨by push_cast;grind,?_⟩
 have h1:=Zx6 (a:=((-c:Int):Rat)) h0
 have h2:=ZtK hab
 have h3:=ZtK (z:=-c) ⟨by omega,by omega⟩
 omega
def Js(m:Nat)(r:ZC):Rat × Rat:=(((r.c.getD m 0:Int):Rat),((r.c.getD (m+1) 0:Int):Rat))
theorem Zuu{n m:Nat}{l:List ZC}(hT:∀r∈l,TrB (m+2) r)(hl:l.length≤100000000)(hm:m≤1000):
  ∃(s:Int) (z:Rat),run n 66 [.sl 2 (l.map Ye),.lit (.int .i64 (m:Int))]=some (.tup [.lit (.int .i64 s),Zn z])∧MinG (ZdQ (l.map (Js m))) s z∧(s≠1→z=0)∧H z≤2:=by
 obtain ⟨ex,t,L,hQ⟩:=Q3 (O:=tab n) (P:= Tryz.prog) (m:=0) (N:=85) (lives:=Za 66) (r:=4) (C:=Yh) (M:=l.length) (enc:=fun i (b:Bool × Bool × Rat × Rat)=>ZM l (m:Int) b.1 b.2.1 i b.2.2.1 b.2.2.2)
  (fun i b=>EndsI ((l.map (Js m)).take i) b.1 b.2.1 b.2.2.1 b.2.2.2∧H b.2.2.1≤2∧H b.2.2.2≤2)
  (fun ex t=>(ex=.exit 0∧∃b:Bool × Bool × Rat × Rat,t=WO b.1 b.2.1 b.2.2.1 b.2.2.2∧EndsI (l.map (Js m)) b.1 b.2.1 b.2.2.1 b.2.2.2∧H b.2.2.1≤2∧H b.2.2.2≤2)∨(ex=.ret∧(∃b:Bool × Bool × Rat × Rat,t=KD b.1 b.2.1 b.2.2.1 b.2.2.2)∧∀t,¬ZdQ (l.map (Js m)) t))
  (false,false,0,0) ⟨EndsI.nil,by decide+kernel,by decide+kernel⟩ (by omega)
  (fun i b hi hI=>by
   obtain ⟨low,high,least,most⟩:=b
   obtain ⟨I,Hl,Hm⟩:=hI
   dsimp only at I Hl Hm
   have hx:l[i]?=some l[i]:=List.getElem?_eq_getElem hi
   obtain ⟨r,hr⟩:∃r,l[i]=r:=⟨_,rfl⟩
   rw [hr] at hx
   have hmem:=List.mem_of_getElem? hx
   have hrT:=hT r hmem
   have hc1:r.c[(m:Int).toNat]?=some (r.c.getD m 0):=Xa (by rw [hrT.len];omega)
   have hc2:r.c[((m:Int)+1).toNat]?=some (r.c.getD (m+1) 0):=by
    rw [show ((m:Int)+1).toNat=m+1 by omega]
    exact Xa (by rw [hrT.len];omega)
   have htk:(l.map (Js m)).take (i+1)=(l.map (Js m)).take i++[Js m r]:=by
    rw [List.take_add_one,List.getElem?_map,hx];rfl
   have B1:=hrT.bd m
   have B2:=hrT.bd (m+1)
   obtain ⟨a,ha⟩:∃a,r.c.getD m 0=a:=⟨_,rfl⟩
   obtain ⟨c,hc⟩:∃c,r.c.getD (m+1) 0=c:=⟨_,rfl⟩
   have hlp:Js m r=((a:Rat),(c:Rat)):=by unfold Js;rw [ha,hc]
   rw [ha] at hc1 B1
   rw [hc] at hc2 B2
   have W:InI ((i:Int)+1):=⟨by omega,by omega⟩
   have W4:InI ((m:Int)+1):=⟨by omega,by omega⟩
   have W7:InI (-c):=⟨by omega,by omega⟩
   have Y8:InI a:=⟨by omega,by omega⟩
   by_cases h0:a=0
   ·by_cases h1:c<0
    ·refine .inr ⟨.ret,_,by simp,Zla (by omega) hx hc1 (by omega) W4 hc2 (by omega) h0 h1,.inr ⟨rfl,⟨(low,high,least,most),rfl⟩,fun t ht=>?_⟩⟩
     have h2:=ht (Js m r) (List.mem_map_of_mem hmem)
     rw [hlp,h0] at h2
     have h3:(c:Rat)<0:=by exact_mod_cast h1
     dsimp only at h2
     push_cast at h2
     grind
    ·refine .inl ⟨(low,high,least,most),Zk1 (by omega) hx hc1 (by omega) W4 hc2 (by omega) h0 h1 W,?_,Hl,Hm⟩
     rw [htk,hlp]
     exact I.zeroR (by rw [h0];rfl) (by exact_mod_cast (show (0:Int)≤c by omega))
   ·obtain ⟨fl,fH⟩:=Zng (a:=a) (c:=c) h0 B1 B2
    by_cases h1:0<a
    ·have h1':(0:Rat)<(a:Rat):=by exact_mod_cast h1
     cases low with
     | false=>
       refine .inl ⟨(true,high,YW (-c) a,most),Zlh (by omega) hx hc1 (by omega) W4 hc2 (by omega) h0 W7 W7 Y8 h1 rfl W,?_,fH,Hm⟩
       rw [htk,hlp]
       exact I.upNew h1' fl (.inl rfl)
     | true=>
       by_cases h2:0<sgR (YW (-c) a-least)
       ·refine .inl ⟨(true,high,YW (-c) a,most),Zj5 (by omega) hx hc1 (by omega) W4 hc2 (by omega) h0 W7 W7 Y8 h1 rfl (Nat.le_trans fH (by omega)) (Nat.le_trans Hl (by omega)) h2 W,?_,fH,Hm⟩
        rw [htk,hlp]
        refine I.upNew h1' fl (.inr ?_)
        rcases Wd (YW (-c) a-least) with ⟨d1,d2⟩|⟨d1,d2⟩|⟨d1,d2⟩
        ·grind
        ·omega
        ·omega
       ·refine .inl ⟨(true,high,least,most),Zk5 (by omega) hx hc1 (by omega) W4 hc2 (by omega) h0 W7 W7 Y8 h1 rfl (Nat.le_trans fH (by omega)) (Nat.le_trans Hl (by omega)) h2 W,?_,Hl,Hm⟩
        rw [htk,hlp]
        refine I.upOld h1' fl ?_
        rcases Wd (YW (-c) a-least) with ⟨d1,d2⟩|⟨d1,d2⟩|⟨d1,d2⟩
        ·omega
        ·grind
        ·grind
    ·have h1':(a:Rat)<0:=by exact_mod_cast (show a<0 by omega)
     cases high with
     | false=>
       refine .inl ⟨(low,true,least,YW (-c) a),Zj8 (by omega) hx hc1 (by omega) W4 hc2 (by omega) h0 W7 W7 Y8 h1 rfl W,?_,Hl,fH⟩
       rw [htk,hlp]
       exact I.downNew h1' fl (.inl rfl)
     | true=>
       by_cases h2:sgR (YW (-c) a-most)<0
       ·refine .inl ⟨(low,true,least,YW (-c) a),Zj1 (by omega) hx hc1 (by omega) W4 hc2 (by omega) h0 W7 W7 Y8 h1 rfl (Nat.le_trans fH (by omega)) (Nat.le_trans Hm (by omega)) h2 W,?_,Hl,fH⟩
        rw [htk,hlp]
        refine I.downNew h1' fl (.inr ?_)
        have:=UE.1 h2
        grind
       ·refine .inl ⟨(low,true,least,most),Zks (by omega) hx hc1 (by omega) W4 hc2 (by omega) h0 W7 W7 Y8 h1 rfl (Nat.le_trans fH (by omega)) (Nat.le_trans Hm (by omega)) h2 W,?_,Hl,Hm⟩
        rw [htk,hlp]
        refine I.downOld h1' fl ?_
        have:¬YW (-c) a-most<0:=fun h=>h2 (UE.2 h)
        grind)
  (fun b hI=>by
   obtain ⟨I,Hl,Hm⟩:=hI
   rw [List.take_of_length_le (by simp)] at I
   exact ⟨.exit 0,_,by simp,ZkY (by omega),.inl ⟨rfl,b,rfl,I,Hl,Hm⟩⟩)
 have H0:H 0≤2:=by decide+kernel
 rcases hQ with ⟨rfl,⟨low,high,least,most⟩,rfl,I,Hl,Hm⟩|⟨rfl,⟨b,rfl⟩,hno⟩
 ·dsimp only at I Hl Hm L
  cases low with
  | false=>exact ⟨3,0,by rw [ZgQ];exact Zti L rfl,.inr (.inl ⟨rfl,fun B=>I.free B⟩),fun _=>rfl,H0⟩
  | true=>
    cases high with
    | false=>
      obtain ⟨h1,h2⟩:=I.best (fun h=>by cases h)
      exact ⟨1,least,Zrb L rfl rfl,.inr (.inr ⟨rfl,h1,h2⟩),fun h=>absurd rfl h,Hl⟩
    | true=>
      by_cases h:sgR (most-least)<0
      ·have h3:=UE.1 h
       exact ⟨2,0,by rw [ZgQ];exact Zrk L rfl rfl (Nat.le_trans Hm (by omega)) (Nat.le_trans Hl (by omega)) h,.inl ⟨rfl,fun t=>I.none rfl rfl (by grind) t⟩,fun _=>rfl,H0⟩
      ·have h3:¬most-least<0:=fun h9=>h (UE.2 h9)
       obtain ⟨h1,h2⟩:=I.best (fun _=>by grind)
       exact ⟨1,least,Zs2 L rfl rfl (Nat.le_trans Hm (by omega)) (Nat.le_trans Hl (by omega)) h,.inr (.inr ⟨rfl,h1,h2⟩),fun h=>absurd rfl h,Hl⟩
 ·exact ⟨2,0,by rw [ZgQ];exact Zry L,.inl ⟨rfl,hno⟩,fun _=>rfl,H0⟩
end
section
open Go.RowKit
end
section
open Go.RowKit
attribute [local irreducible] run Zp Zk exec
theorem Zrt:ofQ (-1)=-1:=by decide+kernel
theorem of1:ofQ 1=1:=by decide+kernel
structure SB (m j:Nat) (f:Zf):Prop where
 s:Srt f.1
 t:TmB m f.1
 k:H f.2≤m
 l:f.1.length≤j
theorem SB.mono{m k m' k':Nat}{f:Zf}(h:SB m k f)(hm:m≤m')(hk:k≤k'):SB m' k' f:=⟨h.s,TmB.mono h.t hm,by have:=h.k;omega,by have:=h.l;omega⟩
def Zwy(f g:Zf):Zf:=(X7 f.1 (Yf g.1 (-1)),f.2-g.2)
def Zag(v:Int):Zf:=([(v,ofQ 1)],0)
theorem Zoe{n m k b j:Nat}{f g:Zf}(hf:SB m k f)(hg:SB b j g)(hm:m≤10000)(hb:b≤1000)(hk:k≤1000)(hj:j≤100):
  run (n+2) 68 [Ze f,Ze g]=some (Ze (Zwy f g))∧run (n+3) 61 [Ze f,Ze g]=some (Ze (Zwy f g)):=by
 have h1:H (-1)≤1:=by decide+kernel
 have k1:=hf.k
 have k2:=hg.k
 have l1:=hf.l
 have l2:=hg.l
 have D:=ZuE (n:=n) (f:=f) (g:=g) (b:=10000) (fun t ht=>by have:=(hf.t t ht).2;omega) (fun t ht=>by have:=(hg.t t ht).2;omega) (by omega) (by omega) (by omega) (by omega) (by omega)
 rw [ZdJ hf.s hg.s] at D
 have sc:=Zay (n:=n+1) (f:=g) (c:=ofQ (-1)) (TmB.mono hg.t (by omega)) (by omega) (by omega) (by rw [Zrt];omega)
 rw [Zrt] at sc
 have lS:=Zga (-1) g.1
 have tS:=TmB.scl hg.t h1
 have hgm:=UX g.2 (-1)
 have hmul:(b+1+1)*((Yf g.1 (-1)).length+1)≤1002*101:=Nat.mul_le_mul (by omega) (by omega)
 have fS:=ZtI (n:=n) (f:=f) (g:=(Yf g.1 (-1),g.2*(-1))) (m:=m) (b:=b+1) tS (by dsimp only;omega) hf.t (by omega) (by dsimp only;omega) (by omega) (by dsimp only;omega)
 have fD:=ZuV (n:=n) (a0:=f) (a1:=g) (by rw [Zrt];exact sc) fS
 have eD:f.2+g.2*(-1)=f.2-g.2:=by grind
 dsimp only at fD
 rw [eD] at fD
 exact ⟨D,fD⟩
theorem Zny(v:Int):SB 1 1 (Zag v):=by
 have h1:H (ofQ 1)≤1:=by decide+kernel
 have h0:ofQ 1≠0:=by rw [of1];decide
 refine ⟨⟨by simp [Zag],fun t ht=>?_⟩,fun t ht=>?_,by show H 0≤1;decide,by simp [Zag]⟩
 ·rw [List.mem_singleton.1 ht];exact h0
 ·rw [List.mem_singleton.1 ht];exact ⟨h0,h1⟩
theorem ZxV(v:Int):Ze (Zag v)=.agg [.sl 4 [[.lit (.int .i64 v),.lit (.bool (Zd (ofQ 1)).s),Zc (Zd (ofQ 1)).l1,Zc (Zd (ofQ 1)).l2]],.lit (.bool false),.sl 1 [],.sl 1 []]:=by simp [Zag]
theorem ZA3{n:Nat}(v:Int):run n 62 [.lit (.int .i64 v)]=some (Ze (Zag v)):=by rw [ZxV];exact Ztz
def Vt(m:Nat)(f:Zf):Zf:=Zwy (Zag (m:Int)) f
def Zbx(m:Nat)(f:Zf):Zf:=(Yf (Vt m f).1 (-1),(Vt m f).2*(-1))
def Ux(m:Nat)(f:Zf)(R:List Zf):List Zf:=[Vt m f,Zbx m f]++R
theorem FB.sb{m:Nat}{f:Zf}(h:FB m f):SB m 100 f:=⟨h.s,h.tm,h.h.2,h.l⟩
theorem Znh(m:Nat)(u:Int):cof (Zag (m:Int)).1 u=if u=(m:Int) then 1 else 0:=by
 unfold Zag
 by_cases h:u=(m:Int)
 ·rw [if_pos h,Y7 h,of1]
 ·rw [if_neg h,QH h,Qg]
section
variable {m k : Nat} {f : Zf}
theorem ZiA(hf:Srt f.1):(∀u,cof (Vt m f).1 u=(if u=(m:Int) then 1 else 0)-cof f.1 u)∧(∀u,cof (Zbx m f).1 u=cof f.1 u-(if u=(m:Int) then 1 else 0))∧Srt (Vt m f).1∧Srt (Zbx m f).1∧(Vt m f).2=-f.2∧(Zbx m f).2=f.2:=by
 have h1:=YH (c:=-1) hf
 have h2:=Za3 (F:=(Zag (m:Int)).1) (G:=Yf f.1 (-1)) (Zny _).s h1.1
 have c1:∀u,cof (Vt m f).1 u=(if u=(m:Int) then 1 else 0)-cof f.1 u:=fun u=>by
  show cof (X7 (Zag (m:Int)).1 (Yf f.1 (-1))) u=_
  rw [h2.2,h1.2,Znh];grind
 have h3:=YH (c:=-1) (F:=(Vt m f).1) h2.1
 have e2:(Vt m f).2=-f.2:=by
  show (0:Rat)-f.2=_
  grind
 refine ⟨c1,fun u=>?_,h2.1,h3.1,e2,?_⟩
 ·show cof (Yf (Vt m f).1 (-1)) u=_
  rw [h3.2,c1];grind
 ·show (Vt m f).2*(-1)=_
  rw [e2];grind
theorem Zfm{F:List (Int × Rat)}(hi:InR m F){u:Int}(h:¬(0≤u∧u<(m:Int))):cof F u=0:=Va fun t ht e=>h (e▸hi t ht)
theorem Zh0(hf:FB k f)(hk:1≤k)(hi:InR m f.1)(hm:m≤50):FB k (Vt m f)∧FB k (Zbx m f)∧InR (m+1) (Vt m f).1∧InR (m+1) (Zbx m f).1:=by
 obtain ⟨c1,c2,s1,s2,e1,e2⟩:=ZiA (m:=m) hf.s
 have H1:H 1≤1:=by decide+kernel
 have Hm1:H (-1)≤1:=by decide+kernel
 have hcf:∀u,H (cof f.1 u)≤k:=fun u=>J7 hk hf.h.1
 have key:∀(g:Zf),Srt g.1→(∀u,cof g.1 u=(if u=(m:Int) then 1 else 0)-cof f.1 u∨cof g.1 u=cof f.1 u-(if u=(m:Int) then 1 else 0))→InR (m+1) g.1∧(∀t∈g.1,H t.2≤k):=fun g hs hc=>by
  have hin:InR (m+1) g.1:=fun t ht=>by
   have h1:=ZeV hs t ht
   have h2:=hs.2 t ht
   by_cases hu:t.1=(m:Int)
   ·rw [hu];omega
   ·by_cases h9:0≤t.1∧t.1<(m:Int)
    ·omega
    ·exfalso
     rcases hc t.1 with h|h
     ·rw [if_neg hu,Zfm hi h9,h1] at h;exact h2 (by rw [h];decide+kernel)
     ·rw [if_neg hu,Zfm hi h9,h1] at h;exact h2 (by rw [h];decide+kernel)
  refine ⟨hin,fun t ht=>?_⟩
  have h1:=ZeV hs t ht
  by_cases hu:t.1=(m:Int)
  ·have h0:=Zfm hi (u:=(m:Int)) (by omega)
   rcases hc t.1 with h|h
   ·rw [if_pos hu,hu,h0] at h
    rw [←h1,hu,h,show (1:Rat)-0=1 from by grind];omega
   ·rw [if_pos hu,hu,h0] at h
    rw [←h1,hu,h,show (0:Rat)-1=-1 from by grind];omega
  ·have h3:=hcf t.1
   rcases hc t.1 with h|h
   ·rw [if_neg hu] at h
    rw [←h1,h,show (0:Rat)-cof f.1 t.1=-cof f.1 t.1 from by grind,Zcz];exact h3
   ·rw [if_neg hu] at h
    rw [←h1,h,show cof f.1 t.1-0=cof f.1 t.1 from by grind];exact h3
 obtain ⟨i1,t1⟩:=key (Vt m f) s1 fun u=>.inl (c1 u)
 obtain ⟨i2,t2⟩:=key (Zbx m f) s2 fun u=>.inr (c2 u)
 have len:∀g:Zf,Srt g.1→InR (m+1) g.1→g.1.length≤100:=fun g hs hi=>by
  have key2:∀{F:List (Int × Rat)} {a:Int},Srt F→(∀t∈F,a≤t.1∧t.1<((m+1:Nat):Int))→F.length≤(((m+1:Nat):Int)-a).toNat:=fun {F}=>by
   induction F with
   | nil=>intro a _ _;exact Nat.zero_le _
   | cons t F ih=>
     intro a hs h
     have h1:=h t List.mem_cons_self
     have:=ih (a:=t.1+1) hs.tail fun u hu=>⟨by have:=hs.head u hu;omega,(h u (List.mem_cons_of_mem _ hu)).2⟩
     rw [List.length_cons]
     omega
  have:=key2 (a:=0) hs hi
  omega
 have vv:∀g:Zf,InR (m+1) g.1→∀t∈g.1,0≤t.1∧t.1<1099511627776:=fun g hi t ht=>by
  have:=hi t ht
  omega
 exact ⟨⟨s1,⟨t1,by rw [e1,Zcz];exact hf.h.2⟩,len _ s1 i1,vv _ i1⟩,⟨s2,⟨t2,by rw [e2];exact hf.h.2⟩,len _ s2 i2,vv _ i2⟩,i1,i2⟩
theorem Zx4{n:Nat}(hf:FB 2 f)(hi:InR m f.1)(hm:m≤50):run (n+3) 61 [Ze (Zag (m:Int)),Ze f]=some (Ze (Vt m f))∧run (n+3) 41 [Ze (Vt m f),Zn (ofQ (-1))]=some (Ze (Zbx m f)):=by
 obtain ⟨b1,_,_,_⟩:=Zh0 hf (by omega) hi hm
 have h1:H (-1)≤1:=by decide+kernel
 refine ⟨(Zoe (n:=n) (Zny (m:Int)) hf.sb (by omega) (by omega) (by omega) (by omega)).2,?_⟩
 rw [Zrt]
 have:=b1.l
 exact Zay (n:=n+2) (f:=Vt m f) (c:=-1) (b1.mono (k:=1000000) (by omega)).tm (by omega) (by have:=b1.h.2;omega) (by omega)
theorem ZuH{R:List Zf}(hf:FB 2 f)(hi:InR m f.1)(hm:m≤50)(hR:∀g∈R,FB 2 g∧InR m g.1):∀g∈Ux m f R,FB 2 g∧InR (m+1) g.1:=fun g hg=>by
 obtain ⟨b1,b2,i1,i2⟩:=Zh0 hf (by omega) hi hm
 rcases List.mem_append.1 hg with h|h
 ·simp only [List.mem_cons,List.not_mem_nil,or_false] at h
  rcases h with rfl|rfl
  ·exact ⟨b1,i1⟩
  ·exact ⟨b2,i2⟩
 ·exact ⟨(hR g h).1,fun t ht=>by have:=(hR g h).2 t ht;omega⟩
end
end
end Go.Proofs.YtdaonnnlgfhlaaaGreatDoor
