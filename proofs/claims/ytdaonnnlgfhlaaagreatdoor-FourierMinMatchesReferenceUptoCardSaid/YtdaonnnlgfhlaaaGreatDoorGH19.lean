import Derived.Test.YtdaonnnlgfhlaaaGreatDoorGH16
import Derived.Test.YtdaonnnlgfhlaaaGreatDoorGH17
import Derived.Test.YtdaonnnlgfhlaaaGreatDoorGH18
set_option linter.all false
set_option maxHeartbeats 6400000
set_option maxRecDepth 100000
namespace Go.Proofs.YtdaonnnlgfhlaaaGreatDoor
open Go.RowKit
theorem ZcL{n:Nat}{F:List (Int × Rat)}{v:Int}{q k:Rat}(hq:H q≤17179869184)(h0:q≠0)(hF:F.length≤10000000):
  Zr n 112 [.agg [.own 0 F.length,.lit (.bool (Ze k).s),Zd (Ze k).l1,Zd (Ze k).l2],.lit (.int .i64 v),.agg [.lit (.bool (Ze q).s),Zd (Ze q).l1,Zd (Ze q).l2]] [.row 68 4 (F.map Zs) 0]=some (.agg [.own 4 (F++[(v,q)]).length,.lit (.bool (Ze k).s),Zd (Ze k).l1,Zd (Ze k).l2],[(4,.row 68 4 ((F++[(v,q)]).map Zs) 0)]):=by
 unfold Zr fnL
 have hs:=ZN (p:=q) hq
 have hc:=Zai (p:=q) hq
 have e2:(sgR q==0)=false:=by simpa using fun h=>h0 (Yl.1 h)
 have e3:(sgR q !=0)=true:=by simpa using fun h=>h0 (Yl.1 h)
 have hr:∀b,b≤10000→ZG (F.length+1) b=true:=fun b hb=>Zq (by omega) hb
 simp+decide [Tryz.f112,hs,hc,e2,e3,hr]
theorem ZaQ{n:Nat}{F:List (Int × Rat)}{v:Int}{q k:Rat}(hq:H q≤17179869184)(h0:q=0):
  Zr n 112 [.agg [.own 0 F.length,.lit (.bool (Ze k).s),Zd (Ze k).l1,Zd (Ze k).l2],.lit (.int .i64 v),.agg [.lit (.bool (Ze q).s),Zd (Ze q).l1,Zd (Ze q).l2]] [.row 68 4 (F.map Zs) 0]=some (.agg [.own 0 F.length,.lit (.bool (Ze k).s),Zd (Ze k).l1,Zd (Ze k).l2],[(0,.row 68 4 (F.map Zs) 0)]):=by
 unfold Zr fnL
 have hs:=ZN (p:=q) hq
 have e2:(sgR q==0)=true:=by rw [Yl.2 h0];rfl
 have e3:(sgR q !=0)=false:=by rw [Yl.2 h0];rfl
 simp+decide [Tryz.f112,hs,e2,e3]
noncomputable def QM:Code:=(Zb (ZR Tryz.f78)).getD 0 .skip
def YI(a0:Zf)(a1:Zf)(a2:Rat)(l_3:List (Int × Rat))(l2_3:List (Int × Rat))(out_3:List (Int × Rat)):St:=
 ⟨[(5,.ptr 0 0),(6,.ptr 1 0),(7,.ptr 2 0),(8,.sl 4 (l_3.map Zs)),(9,.sl 4 (l2_3.map Zs))],
  [(0,some (.box 26 [.lit (.bool (Ze a2).s),Zd (Ze a2).l1,Zd (Ze a2).l2] false)),
   (1,some (.box 28 [.nl 4,.lit (.bool false),.nl 1,.nl 1] false)),
   (2,some (.box 28 [.own 3 out_3.length,.lit (.bool (Ze (a0.2+(a1.2*a2))).s),Zd (Ze (a0.2+(a1.2*a2))).l1,Zd (Ze (a0.2+(a1.2*a2))).l2] false)),
   (3,some (.row 68 4 (out_3.map Zs) 0))],4⟩
def ZcF(a0:Zf)(a1:Zf)(a2:Rat)(out_3:List (Int × Rat)):St:=
 ⟨[(6,.ptr 0 0),(7,.ptr 1 0)],
  [(0,some (.box 28 [.nl 4,.lit (.bool false),.nl 1,.nl 1] false)),
   (1,some (.box 28 [.own 2 out_3.length,.lit (.bool (Ze (a0.2+(a1.2*a2))).s),Zd (Ze (a0.2+(a1.2*a2))).l1,Zd (Ze (a0.2+(a1.2*a2))).l2] false)),
   (2,some (.row 68 4 (out_3.map Zs) 0))],3⟩
section
variable{a1:Zf}{l2_3:List (Int × Rat)}{l_3:List (Int × Rat)}{v11:Int}{q11:Rat}{n:Nat}{a2:Rat}{out_3:List (Int × Rat)}{a0:Zf}{R11:List (Int × Rat)}{v9:Int}{v10:Int}{q9:Rat}{q10:Rat}{R12:List (Int × Rat)}{R13:List (Int × Rat)}{R14:List (Int × Rat)}{v12:Int}{q12:Rat}{R15:List (Int × Rat)}
section
variable(C1:0<(l_3.length:Int))
include C1
theorem Zuo(C2:(l2_3.length:Int)=0)(E3:l_3[0]?=some (v11,q11))(K4:Zr n 112 [.agg [.own 0 out_3.length,.lit (.bool (Ze (a0.2+(a1.2*a2))).s),Zd (Ze (a0.2+(a1.2*a2))).l1,Zd (Ze (a0.2+(a1.2*a2))).l2],.lit (.int .i64 v11),Zk q11] [.row 68 4 (out_3.map Zs) 0]=some (.agg [.own 0 out_3.length,.lit (.bool (Ze (a0.2+(a1.2*a2))).s),Zd (Ze (a0.2+(a1.2*a2))).l1,Zd (Ze (a0.2+(a1.2*a2))).l2],[(0,.row 68 4 (out_3.map Zs) 0)]))(U5:0≤1∧1≤(l_3.length:Int)):
  Zm 0 (exec Tryz.prog (tab (n+1)) 0 113 (Za 78) big QM) (Za 78 3) (YI a0 a1 a2 l_3 l2_3 out_3) (YI a0 a1 a2 (l_3.drop 1) l2_3 out_3):=by
 have C1_:0<l_3.length:=by omega
 have C2_:((l2_3.length:Int)==0)=true:=by rw [C2];simp
 obtain ⟨EL3,EG3⟩:=gEi E3
 simp only [Zk] at K4
 unfold Zm
 simp+decide [YI,Zb, Tryz.f78,QM,C1_,C2_,EG3,K4,U5]
theorem Ztk(C2:(l2_3.length:Int)=0)(E3:l_3[0]?=some (v11,q11))(K4:Zr n 112 [.agg [.own 0 out_3.length,.lit (.bool (Ze (a0.2+(a1.2*a2))).s),Zd (Ze (a0.2+(a1.2*a2))).l1,Zd (Ze (a0.2+(a1.2*a2))).l2],.lit (.int .i64 v11),Zk q11] [.row 68 4 (out_3.map Zs) 0]=some (.agg [.own 4 R11.length,.lit (.bool (Ze (a0.2+(a1.2*a2))).s),Zd (Ze (a0.2+(a1.2*a2))).l1,Zd (Ze (a0.2+(a1.2*a2))).l2],[(4,.row 68 4 (R11.map Zs) 0)]))(U5:0≤1∧1≤(l_3.length:Int)):
  Zm 0 (exec Tryz.prog (tab (n+1)) 0 113 (Za 78) big QM) (Za 78 3) (YI a0 a1 a2 l_3 l2_3 out_3) (YI a0 a1 a2 (l_3.drop 1) l2_3 R11):=by
 have C1_:0<l_3.length:=by omega
 have C2_:((l2_3.length:Int)==0)=true:=by rw [C2];simp
 obtain ⟨EL3,EG3⟩:=gEi E3
 simp only [Zk] at K4
 unfold Zm
 simp+decide [YI,Zb, Tryz.f78,QM,C1_,C2_,EG3,K4,U5]
section
variable(C2:¬(l2_3.length:Int)=0)(E3:l_3[0]?=some (v9,q9))(E4:l2_3[0]?=some (v10,q10))
include C2 E3 E4
theorem Zt6(C5:v9<v10)(K6:Zr n 112 [.agg [.own 0 out_3.length,.lit (.bool (Ze (a0.2+(a1.2*a2))).s),Zd (Ze (a0.2+(a1.2*a2))).l1,Zd (Ze (a0.2+(a1.2*a2))).l2],.lit (.int .i64 v9),Zk q9] [.row 68 4 (out_3.map Zs) 0]=some (.agg [.own 0 out_3.length,.lit (.bool (Ze (a0.2+(a1.2*a2))).s),Zd (Ze (a0.2+(a1.2*a2))).l1,Zd (Ze (a0.2+(a1.2*a2))).l2],[(0,.row 68 4 (out_3.map Zs) 0)]))(U7:0≤1∧1≤(l_3.length:Int)):
  Zm 0 (exec Tryz.prog (tab (n+1)) 0 113 (Za 78) big QM) (Za 78 3) (YI a0 a1 a2 l_3 l2_3 out_3) (YI a0 a1 a2 (l_3.drop 1) l2_3 out_3):=by
 have C1_:0<l_3.length:=by omega
 have C2_:((l2_3.length:Int)==0)=false:=by simpa using C2
 obtain ⟨EL3,EG3⟩:=gEi E3
 obtain ⟨EL4,EG4⟩:=gEi E4
 simp only [Zk] at K6
 unfold Zm
 simp+decide [YI,Zb, Tryz.f78,QM,C1_,C2_,EG3,EL4,EG4,C5,K6,U7]
theorem ZuD(C5:v9<v10)(K6:Zr n 112 [.agg [.own 0 out_3.length,.lit (.bool (Ze (a0.2+(a1.2*a2))).s),Zd (Ze (a0.2+(a1.2*a2))).l1,Zd (Ze (a0.2+(a1.2*a2))).l2],.lit (.int .i64 v9),Zk q9] [.row 68 4 (out_3.map Zs) 0]=some (.agg [.own 4 R12.length,.lit (.bool (Ze (a0.2+(a1.2*a2))).s),Zd (Ze (a0.2+(a1.2*a2))).l1,Zd (Ze (a0.2+(a1.2*a2))).l2],[(4,.row 68 4 (R12.map Zs) 0)]))(U7:0≤1∧1≤(l_3.length:Int)):
  Zm 0 (exec Tryz.prog (tab (n+1)) 0 113 (Za 78) big QM) (Za 78 3) (YI a0 a1 a2 l_3 l2_3 out_3) (YI a0 a1 a2 (l_3.drop 1) l2_3 R12):=by
 have C1_:0<l_3.length:=by omega
 have C2_:((l2_3.length:Int)==0)=false:=by simpa using C2
 obtain ⟨EL3,EG3⟩:=gEi E3
 obtain ⟨EL4,EG4⟩:=gEi E4
 simp only [Zk] at K6
 unfold Zm
 simp+decide [YI,Zb, Tryz.f78,QM,C1_,C2_,EG3,EL4,EG4,C5,K6,U7]
theorem Zuw(C5:¬v9<v10)(C6:v10<v9)(B7a:H q10≤17179869184)(B7b:H a2≤17179869184)(K8:Zr n 112 [.agg [.own 0 out_3.length,.lit (.bool (Ze (a0.2+(a1.2*a2))).s),Zd (Ze (a0.2+(a1.2*a2))).l1,Zd (Ze (a0.2+(a1.2*a2))).l2],.lit (.int .i64 v10),Zk (q10*a2)] [.row 68 4 (out_3.map Zs) 0]=some (.agg [.own 0 out_3.length,.lit (.bool (Ze (a0.2+(a1.2*a2))).s),Zd (Ze (a0.2+(a1.2*a2))).l1,Zd (Ze (a0.2+(a1.2*a2))).l2],[(0,.row 68 4 (out_3.map Zs) 0)]))(U9:0≤1∧1≤(l2_3.length:Int)):
  Zm 0 (exec Tryz.prog (tab (n+1)) 0 113 (Za 78) big QM) (Za 78 3) (YI a0 a1 a2 l_3 l2_3 out_3) (YI a0 a1 a2 l_3 (l2_3.drop 1) out_3):=by
 have C1_:0<l_3.length:=by omega
 have C1_z:(l_3.length:Int)≠0:=by omega
 have C1_e:((l_3.length:Int)==0)=false:=by simpa using C1_z
 have C2_:((l2_3.length:Int)==0)=false:=by simpa using C2
 obtain ⟨EL3,EG3⟩:=gEi E3
 obtain ⟨EL4,EG4⟩:=gEi E4
 have K7:=JK (p:=q10) (q:=a2) B7a B7b
 simp only [Zk] at K8
 unfold Zm
 simp+decide [YI,Zb, Tryz.f78,QM,C1_,C1_e,C2_,EG3,EL4,EG4,C5,C6,K7,K8,U9]
theorem ZuE(C5:¬v9<v10)(C6:v10<v9)(B7a:H q10≤17179869184)(B7b:H a2≤17179869184)(K8:Zr n 112 [.agg [.own 0 out_3.length,.lit (.bool (Ze (a0.2+(a1.2*a2))).s),Zd (Ze (a0.2+(a1.2*a2))).l1,Zd (Ze (a0.2+(a1.2*a2))).l2],.lit (.int .i64 v10),Zk (q10*a2)] [.row 68 4 (out_3.map Zs) 0]=some (.agg [.own 4 R13.length,.lit (.bool (Ze (a0.2+(a1.2*a2))).s),Zd (Ze (a0.2+(a1.2*a2))).l1,Zd (Ze (a0.2+(a1.2*a2))).l2],[(4,.row 68 4 (R13.map Zs) 0)]))(U9:0≤1∧1≤(l2_3.length:Int)):
  Zm 0 (exec Tryz.prog (tab (n+1)) 0 113 (Za 78) big QM) (Za 78 3) (YI a0 a1 a2 l_3 l2_3 out_3) (YI a0 a1 a2 l_3 (l2_3.drop 1) R13):=by
 have C1_:0<l_3.length:=by omega
 have C1_z:(l_3.length:Int)≠0:=by omega
 have C1_e:((l_3.length:Int)==0)=false:=by simpa using C1_z
 have C2_:((l2_3.length:Int)==0)=false:=by simpa using C2
 obtain ⟨EL3,EG3⟩:=gEi E3
 obtain ⟨EL4,EG4⟩:=gEi E4
 have K7:=JK (p:=q10) (q:=a2) B7a B7b
 simp only [Zk] at K8
 unfold Zm
 simp+decide [YI,Zb, Tryz.f78,QM,C1_,C1_e,C2_,EG3,EL4,EG4,C5,C6,K7,K8,U9]
section
variable(C5:¬v9<v10)(C6:¬v10<v9)(B7a:H q10≤17179869184)(B7b:H a2≤17179869184)(B8a:H q9≤17179869184)(B8b:H (q10*a2)≤17179869184)
include C5 C6 B7a B7b B8a B8b
theorem Zst(K9:Zr n 112 [.agg [.own 0 out_3.length,.lit (.bool (Ze (a0.2+(a1.2*a2))).s),Zd (Ze (a0.2+(a1.2*a2))).l1,Zd (Ze (a0.2+(a1.2*a2))).l2],.lit (.int .i64 v9),Zk (q9+(q10*a2))] [.row 68 4 (out_3.map Zs) 0]=some (.agg [.own 0 out_3.length,.lit (.bool (Ze (a0.2+(a1.2*a2))).s),Zd (Ze (a0.2+(a1.2*a2))).l1,Zd (Ze (a0.2+(a1.2*a2))).l2],[(0,.row 68 4 (out_3.map Zs) 0)]))(U10:0≤1∧1≤(l_3.length:Int))(U11:0≤1∧1≤(l2_3.length:Int)):
  Zm 0 (exec Tryz.prog (tab (n+1)) 0 113 (Za 78) big QM) (Za 78 3) (YI a0 a1 a2 l_3 l2_3 out_3) (YI a0 a1 a2 (l_3.drop 1) (l2_3.drop 1) out_3):=by
 have C1_:0<l_3.length:=by omega
 have C1_z:(l_3.length:Int)≠0:=by omega
 have C1_e:((l_3.length:Int)==0)=false:=by simpa using C1_z
 have C2_:((l2_3.length:Int)==0)=false:=by simpa using C2
 obtain ⟨EL3,EG3⟩:=gEi E3
 obtain ⟨EL4,EG4⟩:=gEi E4
 have K7:=JK (p:=q10) (q:=a2) B7a B7b
 have K8:=ZeF (p:=q9) (q:=q10*a2) B8a B8b
 simp only [Zk] at K9
 unfold Zm
 simp+decide [YI,Zb, Tryz.f78,QM,C1_,C1_e,C2_,EG3,EL4,EG4,C5,C6,K7,K8,K9,U10,U11]
theorem Ztv(K9:Zr n 112 [.agg [.own 0 out_3.length,.lit (.bool (Ze (a0.2+(a1.2*a2))).s),Zd (Ze (a0.2+(a1.2*a2))).l1,Zd (Ze (a0.2+(a1.2*a2))).l2],.lit (.int .i64 v9),Zk (q9+(q10*a2))] [.row 68 4 (out_3.map Zs) 0]=some (.agg [.own 4 R14.length,.lit (.bool (Ze (a0.2+(a1.2*a2))).s),Zd (Ze (a0.2+(a1.2*a2))).l1,Zd (Ze (a0.2+(a1.2*a2))).l2],[(4,.row 68 4 (R14.map Zs) 0)]))(U10:0≤1∧1≤(l_3.length:Int))(U11:0≤1∧1≤(l2_3.length:Int)):
  Zm 0 (exec Tryz.prog (tab (n+1)) 0 113 (Za 78) big QM) (Za 78 3) (YI a0 a1 a2 l_3 l2_3 out_3) (YI a0 a1 a2 (l_3.drop 1) (l2_3.drop 1) R14):=by
 have C1_:0<l_3.length:=by omega
 have C1_z:(l_3.length:Int)≠0:=by omega
 have C1_e:((l_3.length:Int)==0)=false:=by simpa using C1_z
 have C2_:((l2_3.length:Int)==0)=false:=by simpa using C2
 obtain ⟨EL3,EG3⟩:=gEi E3
 obtain ⟨EL4,EG4⟩:=gEi E4
 have K7:=JK (p:=q10) (q:=a2) B7a B7b
 have K8:=ZeF (p:=q9) (q:=q10*a2) B8a B8b
 simp only [Zk] at K9
 unfold Zm
 simp+decide [YI,Zb, Tryz.f78,QM,C1_,C1_e,C2_,EG3,EL4,EG4,C5,C6,K7,K8,K9,U10,U11]
end
end
end
theorem ZuC(C1:¬0<(l_3.length:Int))(C2:0<(l2_3.length:Int))(E3:l2_3[0]?=some (v12,q12))(B4a:H q12≤17179869184)(B4b:H a2≤17179869184)(K5:Zr n 112 [.agg [.own 0 out_3.length,.lit (.bool (Ze (a0.2+(a1.2*a2))).s),Zd (Ze (a0.2+(a1.2*a2))).l1,Zd (Ze (a0.2+(a1.2*a2))).l2],.lit (.int .i64 v12),Zk (q12*a2)] [.row 68 4 (out_3.map Zs) 0]=some (.agg [.own 0 out_3.length,.lit (.bool (Ze (a0.2+(a1.2*a2))).s),Zd (Ze (a0.2+(a1.2*a2))).l1,Zd (Ze (a0.2+(a1.2*a2))).l2],[(0,.row 68 4 (out_3.map Zs) 0)]))(U6:0≤1∧1≤(l2_3.length:Int)):
  Zm 0 (exec Tryz.prog (tab (n+1)) 0 113 (Za 78) big QM) (Za 78 3) (YI a0 a1 a2 l_3 l2_3 out_3) (YI a0 a1 a2 l_3 (l2_3.drop 1) out_3):=by
 have C1_:¬0<l_3.length:=by omega
 have C1_z:(l_3.length:Int)=0:=by omega
 have C1_e:((l_3.length:Int)==0)=true:=by rw [C1_z];simp
 have C2_:0<l2_3.length:=by omega
 have C2_z:(l2_3.length:Int)≠0:=by omega
 have C2_e:((l2_3.length:Int)==0)=false:=by simpa using C2_z
 obtain ⟨EL3,EG3⟩:=gEi E3
 have K4:=JK (p:=q12) (q:=a2) B4a B4b
 simp only [Zk] at K5
 unfold Zm
 simp+decide [YI,Zb, Tryz.f78,QM,C1_,C1_e,C2_,C2_e,EG3,K4,K5,U6]
theorem Zo0(C1:¬0<(l_3.length:Int))(C2:0<(l2_3.length:Int))(E3:l2_3[0]?=some (v12,q12))(B4a:H q12≤17179869184)(B4b:H a2≤17179869184)(K5:Zr n 112 [.agg [.own 0 out_3.length,.lit (.bool (Ze (a0.2+(a1.2*a2))).s),Zd (Ze (a0.2+(a1.2*a2))).l1,Zd (Ze (a0.2+(a1.2*a2))).l2],.lit (.int .i64 v12),Zk (q12*a2)] [.row 68 4 (out_3.map Zs) 0]=some (.agg [.own 4 R15.length,.lit (.bool (Ze (a0.2+(a1.2*a2))).s),Zd (Ze (a0.2+(a1.2*a2))).l1,Zd (Ze (a0.2+(a1.2*a2))).l2],[(4,.row 68 4 (R15.map Zs) 0)]))(U6:0≤1∧1≤(l2_3.length:Int)):
  Zm 0 (exec Tryz.prog (tab (n+1)) 0 113 (Za 78) big QM) (Za 78 3) (YI a0 a1 a2 l_3 l2_3 out_3) (YI a0 a1 a2 l_3 (l2_3.drop 1) R15):=by
 have C1_:¬0<l_3.length:=by omega
 have C1_z:(l_3.length:Int)=0:=by omega
 have C1_e:((l_3.length:Int)==0)=true:=by rw [C1_z];simp
 have C2_:0<l2_3.length:=by omega
 have C2_z:(l2_3.length:Int)≠0:=by omega
 have C2_e:((l2_3.length:Int)==0)=false:=by simpa using C2_z
 obtain ⟨EL3,EG3⟩:=gEi E3
 have K4:=JK (p:=q12) (q:=a2) B4a B4b
 simp only [Zk] at K5
 unfold Zm
 simp+decide [YI,Zb, Tryz.f78,QM,C1_,C1_e,C2_,C2_e,EG3,K4,K5,U6]
theorem Zue(C1:¬0<(l_3.length:Int))(C2:¬0<(l2_3.length:Int)):
  Zj 0 (exec Tryz.prog (tab (n+1)) 0 113 (Za 78) big QM) (Za 78 (Zo 3)) (YI a0 a1 a2 l_3 l2_3 out_3) (.exit 0) (ZcF a0 a1 a2 out_3):=by
 have C1_:¬0<l_3.length:=by omega
 have C2_:¬0<l2_3.length:=by omega
 unfold Zj
 simp+decide [YI,Zb, Tryz.f78,ZcF,QM,C1_,C2_]
theorem ZzA(B1a:H a1.2≤17179869184)(B1b:H a2≤17179869184)(B2a:H a0.2≤17179869184)(B2b:H (a1.2*a2)≤17179869184)(L3:Zl Tryz.prog (tab (n+1)) 0 113 (Za 78) 3 QM (YI a0 a1 a2 a0.1 a1.1 [])=some (.exit 0,ZcF a0 a1 a2 out_3)):
  run (n+1) 78 [Zc a0,Zc a1,Zk a2]=some (Zc (out_3,a0.2+(a1.2*a2))):=by
 have K1:=JK (p:=a1.2) (q:=a2) B1a B1b
 have K2:=ZeF (p:=a0.2) (q:=a1.2*a2) B2a B2b
 unfold run fnP
 simp+decide [Tryz.f78,K1,K2]
 rw [Zi (C':=QM) (e:=(YI a0 a1 a2 a0.1 a1.1 [])) ?_ ?_,L3]
 rotate_left
 ·kernel_rfl
 ·simp+decide [YI]
 simp+decide [ZcF]
end
theorem Zxg{n:Nat}{a0:Zf}{a1:Zf}{r:Zf}(K2:run (n+1) 78 [Zc a0,Zc a1,Zk (ofQ 1)]=some (Zc r)):
  run (n+2) 48 [Zc a0,Zc a1]=some (Zc r):=by
 have K1:=YD (z:=1) (by omega) (by omega)
 simp only [Zk,Zc] at K2
 unfold run fnP
 simp+decide [Tryz.f48,K1,K2]
theorem Zwr{n:Nat}{a0:Zf}{a1:Zf}{r:Zf}(K2:run (n+1) 78 [Zc a0,Zc a1,Zk (ofQ (-1))]=some (Zc r)):
  run (n+2) 68 [Zc a0,Zc a1]=some (Zc r):=by
 have K1:=YD (z:=(-1)) (by omega) (by omega)
 simp only [Zk,Zc] at K2
 unfold run fnP
 simp+decide [Tryz.f68,K1,K2]
theorem ZxU{n:Nat}{a0:Zf}{a1:Rat}{r:Zf}(K1:run (n+1) 78 [.agg [.sl 4 [],.lit (.bool false),.sl 1 [],.sl 1 []],Zc a0,Zk a1]=some (Zc r)):
  run (n+2) 37 [Zc a0,Zk a1]=some (Zc r):=by
 simp only [Zk,Zc] at K1
 unfold run fnP
 simp+decide [Tryz.f37,K1]
section
attribute [local irreducible] run Zr Zl exec
def mgK:List (Int × Rat)→List (Int × Rat)→Nat
 | [],m=>m.length
 | a::l,[]=>(a::l).length
 | a::l,b::m=>1+if a.1<b.1 then mgK l (b::m) else if b.1<a.1 then mgK (a::l) m else mgK l m
termination_by l m=>l.length+m.length
theorem UK(m:List (Int × Rat)):mgK [] m=m.length:=by rw [mgK]
theorem Zg6(a:Int × Rat)(l:List (Int × Rat)):mgK (a::l) []=l.length+1:=by rw [mgK];rfl
theorem Zf2(a b:Int × Rat)(l m:List (Int × Rat)):mgK (a::l) (b::m)=1+if a.1<b.1 then mgK l (b::m) else if b.1<a.1 then mgK (a::l) m else mgK l m:=by rw [mgK]
theorem ZtT(l:List (Int × Rat)):mgK l []=l.length:=by cases l;exact UK [];exact Zg6 _ _
theorem ZfM:∀(k:Nat) (l m:List (Int × Rat)),l.length+m.length≤k→mgK l m≤l.length+m.length
 | k,[],m,h=>by rw [UK];simp
 | k,a::l,[],h=>by rw [Zg6];simp
 | 0,a::l,b::m,h=>by simp at h
 | k+1,a::l,b::m,h=>by
   simp only [List.length_cons] at h
   have h1:=ZfM k l (b::m) (by simp <;>omega)
   have h2:=ZfM k (a::l) m (by simp <;>omega)
   have h3:=ZfM k l m (by omega)
   simp only [List.length_cons] at h1 h2
   rw [Zf2]
   simp only [List.length_cons]
   split
   ·omega
   ·split <;>omega
structure MgS where
 l:List (Int × Rat)
 m:List (Int × Rat)
 out:List (Int × Rat)
theorem ZcS{v:Int}{q:Rat}(h:q=0):Ya v q=[]:=if_pos h
theorem Zbn{v:Int}{q:Rat}(h:¬q=0):Ya v q=[(v,q)]:=if_neg h
theorem ZfX{n:Nat}{f g:Zf}{c:Rat}{b:Nat}(hF:∀t∈f.1,H t.2≤b)(hG:∀t∈g.1,H t.2≤b)(hb:b≤1000000)(hc:H c≤1000000)(hk:H f.2≤1000000)(hk2:H g.2≤1000000)(hlf:f.1.length≤1000000)(hlg:g.1.length≤1000000):
  run (n+1) 78 [Zc f,Zc g,Zk c]=some (Zc (Yr f.1 g.1 c,f.2+g.2*c)):=by
 have hm:=Kk g.2 c
 have ha:=Zek f.2 (g.2*c)
 have hM:=ZfM _ f.1 g.1 (Nat.le_refl _)
 obtain ⟨b',hL,hI⟩:=QV (O:=tab (n+1)) (P:= Tryz.prog) (m:=0) (N:=113) (lives:=Za 78) (r:=3) (C:=QM) (exN:=.exit 0) (M:=mgK f.1 g.1) (enc:=fun i (s:MgS)=>YI f g c s.l s.m s.out) (out:=fun s=>ZcF f g c s.out)
  (fun i s=>s.out++Yr s.l s.m c=Yr f.1 g.1 c∧mgK s.l s.m+i=mgK f.1 g.1∧s.out.length≤i∧(∀t∈s.l,H t.2≤b)∧∀t∈s.m,H t.2≤b) ⟨f.1,g.1,[]⟩ ⟨rfl,rfl,by simp,hF,hG⟩ (by omega) (by simp)
  (fun i s hi hI=>by
   obtain ⟨l,m,out⟩:=s
   obtain ⟨i1,i2,i3,i4,i5⟩:=hI
   dsimp only at i1 i2 i3 i4 i5 ⊢
   have fin:∀(l' m':List (Int × Rat)) (v:Int) (q:Rat),Yr l m c=Ya v q++Yr l' m' c→mgK l m=1+mgK l' m'→(∀t∈l',H t.2≤b)→(∀t∈m',H t.2≤b)→∀(q':Rat),q'=q→
     (out++Ya v q')++Yr l' m' c=Yr f.1 g.1 c∧mgK l' m'+(i+1)=mgK f.1 g.1∧(out++Ya v q').length≤i+1∧(∀t∈l',H t.2≤b)∧∀t∈m',H t.2≤b:=fun l' m' v q h1 h2 h3 h4 q' hq=>by
    subst hq
    refine ⟨by rw [List.append_assoc,←h1];exact i1,by omega,?_,h3,h4⟩
    have:=Y6 v q'
    rw [List.length_append];omega
   match l,m with
   | [],[]=>rw [UK] at i2;simp at i2;omega
   | (v,q)::l,[]=>
     have e:=fin l [] v q (Zf9 (v,q) l c) (by rw [Zg6,ZtT];omega) (fun t ht=>i4 t (by simp [ht])) i5 q rfl
     have hq:H q≤b:=i4 (v,q) (by simp)
     by_cases h0:q=0
     ·rw [ZcS h0,List.append_nil] at e
      exact ⟨⟨l,[],out⟩,Zuo (l_3:=(v,q)::l) (by simp <;>omega) (by simp) rfl (ZaQ (by omega) h0) ⟨by omega,by simp <;>omega⟩,e⟩
     ·rw [Zbn h0] at e
      exact ⟨⟨l,[],out++[(v,q)]⟩,Ztk (l_3:=(v,q)::l) (by simp <;>omega) (by simp) rfl (ZcL (by omega) h0 (by omega)) ⟨by omega,by simp <;>omega⟩,e⟩
   | [],(u,p)::m=>
     have e:=fin [] m u (p*c) (ZcM (u,p) m c) (by rw [UK,UK,List.length_cons];omega) i4 (fun t ht=>i5 t (by simp [ht])) (p*c) rfl
     have hp:H p≤b:=i5 (u,p) (by simp)
     have hpc:=Kk p c
     by_cases h0:p*c=0
     ·rw [ZcS h0,List.append_nil] at e
      exact ⟨⟨[],m,out⟩,ZuC (l2_3:=(u,p)::m) (by simp) (by simp <;>omega) rfl (by omega) (by omega) (ZaQ (by omega) h0) ⟨by omega,by simp <;>omega⟩,e⟩
     ·rw [Zbn h0] at e
      exact ⟨⟨[],m,out++[(u,p*c)]⟩,Zo0 (l2_3:=(u,p)::m) (by simp) (by simp <;>omega) rfl (by omega) (by omega) (ZcL (by omega) h0 (by omega)) ⟨by omega,by simp <;>omega⟩,e⟩
   | (v,q)::l,(u,p)::m=>
     have hq:H q≤b:=i4 (v,q) (by simp)
     have hp:H p≤b:=i5 (u,p) (by simp)
     have hpc:=Kk p c
     have hqp:=Zek q (p*c)
     have hk:=Zf2 (v,q) (u,p) l m
     dsimp only at hk
     by_cases c1:v<u
     ·rw [if_pos c1] at hk
      have e:=fin l ((u,p)::m) v q (Zem c1 l m c) hk (fun t ht=>i4 t (by simp [ht])) i5 q rfl
      by_cases h0:q=0
      ·rw [ZcS h0,List.append_nil] at e
       exact ⟨⟨l,(u,p)::m,out⟩,Zt6 (l_3:=(v,q)::l) (l2_3:=(u,p)::m) (by simp <;>omega) (by simp <;>omega) rfl rfl c1 (ZaQ (by omega) h0) ⟨by omega,by simp <;>omega⟩,e⟩
      ·rw [Zbn h0] at e
       exact ⟨⟨l,(u,p)::m,out++[(v,q)]⟩,ZuD (l_3:=(v,q)::l) (l2_3:=(u,p)::m) (by simp <;>omega) (by simp <;>omega) rfl rfl c1 (ZcL (by omega) h0 (by omega)) ⟨by omega,by simp <;>omega⟩,e⟩
     ·rw [if_neg c1] at hk
      by_cases c2:u<v
      ·rw [if_pos c2] at hk
       have e:=fin ((v,q)::l) m u (p*c) (ZeO c2 l m c) hk i4 (fun t ht=>i5 t (by simp [ht])) (p*c) rfl
       by_cases h0:p*c=0
       ·rw [ZcS h0,List.append_nil] at e
        exact ⟨⟨(v,q)::l,m,out⟩,Zuw (l_3:=(v,q)::l) (l2_3:=(u,p)::m) (by simp <;>omega) (by simp <;>omega) rfl rfl c1 c2 (by omega) (by omega) (ZaQ (by omega) h0) ⟨by omega,by simp <;>omega⟩,e⟩
       ·rw [Zbn h0] at e
        exact ⟨⟨(v,q)::l,m,out++[(u,p*c)]⟩,ZuE (l_3:=(v,q)::l) (l2_3:=(u,p)::m) (by simp <;>omega) (by simp <;>omega) rfl rfl c1 c2 (by omega) (by omega) (ZcL (by omega) h0 (by omega)) ⟨by omega,by simp <;>omega⟩,e⟩
      ·rw [if_neg c2] at hk
       have huv:v=u:=by omega
       have e:=fin l m v (q+p*c) (Zet huv l m c) hk (fun t ht=>i4 t (by simp [ht])) (fun t ht=>i5 t (by simp [ht])) (q+p*c) rfl
       by_cases h0:q+p*c=0
       ·rw [ZcS h0,List.append_nil] at e
        exact ⟨⟨l,m,out⟩,Zst (l_3:=(v,q)::l) (l2_3:=(u,p)::m) (by simp <;>omega) (by simp <;>omega) rfl rfl c1 c2 (by omega) (by omega) (by omega) (by omega) (ZaQ (by omega) h0) ⟨by omega,by simp <;>omega⟩ ⟨by omega,by simp <;>omega⟩,e⟩
       ·rw [Zbn h0] at e
        exact ⟨⟨l,m,out++[(v,q+p*c)]⟩,Ztv (l_3:=(v,q)::l) (l2_3:=(u,p)::m) (by simp <;>omega) (by simp <;>omega) rfl rfl c1 c2 (by omega) (by omega) (by omega) (by omega) (ZcL (by omega) h0 (by omega)) ⟨by omega,by simp <;>omega⟩ ⟨by omega,by simp <;>omega⟩,e⟩)
  (fun s hI=>by
   obtain ⟨l,m,out⟩:=s
   obtain ⟨_,i2,_⟩:=hI
   dsimp only at i2 ⊢
   have h0:l=[]∧m=[]:=by
    match l,m with
    | [],[]=>exact ⟨rfl,rfl⟩
    | a::l,[]=>rw [Zg6] at i2;omega
    | [],b::m=>rw [UK] at i2;simp at i2
    | a::l,b::m=>rw [Zf2] at i2;omega
   obtain ⟨rfl,rfl⟩:=h0
   exact Zue (by simp) (by simp))
 obtain ⟨l,m,out⟩:=b'
 obtain ⟨i1,i2,_⟩:=hI
 dsimp only at i1 i2 hL
 have h0:l=[]∧m=[]:=by
  match l,m with
  | [],[]=>exact ⟨rfl,rfl⟩
  | a::l,[]=>rw [Zg6] at i2;omega
  | [],b::m=>rw [UK] at i2;simp at i2
  | a::l,b::m=>rw [Zf2] at i2;omega
 obtain ⟨rfl,rfl⟩:=h0
 rw [JZ,List.append_nil] at i1
 subst i1
 exact ZzA (by omega) (by omega) (by omega) (by omega) hL
theorem Zv1{n:Nat}{f g:Zf}{b:Nat}(hF:∀t∈f.1,H t.2≤b)(hG:∀t∈g.1,H t.2≤b)(hb:b≤1000000)(hk:H f.2≤1000000)(hk2:H g.2≤1000000)(hlf:f.1.length≤1000000)(hlg:g.1.length≤1000000):
  run (n+2) 48 [Zc f,Zc g]=some (Zc (Yr f.1 g.1 1,f.2+g.2)):=by
 have e:ofQ 1=1:=by decide+kernel
 have h:=Zxg (n:=n) (ZfX (n:=n) (c:=ofQ 1) hF hG hb (by rw [e];decide) hk hk2 hlf hlg)
 rw [e,Rat.mul_one] at h
 exact h
theorem ZwK{n:Nat}{f g:Zf}{b:Nat}(hF:∀t∈f.1,H t.2≤b)(hG:∀t∈g.1,H t.2≤b)(hb:b≤1000000)(hk:H f.2≤1000000)(hk2:H g.2≤1000000)(hlf:f.1.length≤1000000)(hlg:g.1.length≤1000000):
  run (n+2) 68 [Zc f,Zc g]=some (Zc (Yr f.1 g.1 (-1),f.2-g.2)):=by
 have e:ofQ (-1)=-1:=by decide+kernel
 have h:=Zwr (n:=n) (ZfX (n:=n) (c:=ofQ (-1)) hF hG hb (by rw [e];decide) hk hk2 hlf hlg)
 have e2:f.2+g.2*(-1)=f.2-g.2:=by grind
 rw [e,e2] at h
 exact h
theorem Zf1{n:Nat}{f:Zf}{c:Rat}{b:Nat}(hF:∀t∈f.1,H t.2≤b)(hb:b≤1000000)(hk:H f.2≤1000000)(hc:H c≤1000000)(hlf:f.1.length≤1000000):
  run (n+2) 37 [Zc f,Zk c]=some (Zc (Yr [] f.1 c,f.2*c)):=by
 have h:=ZfX (n:=n) (f:=([],0)) (g:=f) (c:=c) (b:=b) (fun t ht=>by cases ht) hF hb hc (by decide) hk (by simp) hlf
 rw [Rat.zero_add] at h
 refine ZxU (n:=n) ?_
 simpa using h
end
noncomputable def Wt:Code:=(Zb (ZR Tryz.f13)).getD 0 .skip
def Xj(a0:Zf)(a1:Zf)(i_4:Nat):St:=
 ⟨[(2,.ptr 0 0),(3,.ptr 1 0),(5,.lit (.int .i64 (i_4:Int)))],
  [(0,some (.box 28 [.sl 4 (a0.1.map Zs),.lit (.bool (Ze a0.2).s),Zd (Ze a0.2).l1,Zd (Ze a0.2).l2] false)),
   (1,some (.box 28 [.sl 4 (a1.1.map Zs),.lit (.bool (Ze a1.2).s),Zd (Ze a1.2).l1,Zd (Ze a1.2).l2] false))],2⟩
def UV:St:=
 ⟨[(4,.lit (.bool false))],
  [],0⟩
def Zab:St:=
 ⟨[(4,.any)],
  [],0⟩
section
variable {v5 : Int} {a1 : Zf} {q6 : Rat} {q5 : Rat} {i_4 : Nat} {n : Nat} {v6 : Int} {a0 : Zf}
section
variable(C1:(i_4:Int)<(a0.1.length:Int))(E2:a0.1[i_4]?=some (v5,q5))(E3:a1.1[i_4]?=some (v6,q6))
include C1 E2 E3
theorem Zoa(C4:v5=v6)(B5a:H q5≤17179869184)(B5b:H q6≤17179869184)(C6:q5=q6)(W7:InI ((i_4:Int)+1)):
  Zm 0 (exec Tryz.prog (tab n) 0 57 (Za 13) big Wt) (Za 13 4) (Xj a0 a1 i_4) (Xj a0 a1 (i_4+1)):=by
 have C1_:i_4<a0.1.length:=by omega
 obtain ⟨EL2,EG2⟩:=gEi E2
 obtain ⟨EL3,EG3⟩:=gEi E3
 have C4_n:(v5 !=v6)=false:=by rw [C4];simp
 have K5:=ZcJ (p:=q5) (q:=q6) B5a B5b
 have C6_:decide (q5=q6)=true:=decide_eq_true C6
 have W7_:IntKind.i64.wrap ((i_4:Int)+1)=(i_4:Int)+1:=Zp W7.1 W7.2
 unfold Zm
 simp+decide [Xj,Zb, Tryz.f13,Wt,C1,C1_,EG2,EL3,EG3,C4_n,K5,C6_,W7_]
theorem Zrb(C4:¬v5=v6):
  Zj 0 (exec Tryz.prog (tab n) 0 57 (Za 13) big Wt) (Za 13 (Zo 4)) (Xj a0 a1 i_4) (.ret) (UV):=by
 have C1_:i_4<a0.1.length:=by omega
 obtain ⟨EL2,EG2⟩:=gEi E2
 obtain ⟨EL3,EG3⟩:=gEi E3
 have C4_n:(v5 !=v6)=true:=by simpa using C4
 unfold Zj
 simp+decide [Xj,Zb, Tryz.f13,UV,Wt,C1,C1_,EG2,EL3,EG3,C4_n]
theorem Zq7(C4:v5=v6)(B5a:H q5≤17179869184)(B5b:H q6≤17179869184)(C6:¬(q5=q6)):
  Zj 0 (exec Tryz.prog (tab n) 0 57 (Za 13) big Wt) (Za 13 (Zo 4)) (Xj a0 a1 i_4) (.ret) (UV):=by
 have C1_:i_4<a0.1.length:=by omega
 obtain ⟨EL2,EG2⟩:=gEi E2
 obtain ⟨EL3,EG3⟩:=gEi E3
 have C4_n:(v5 !=v6)=false:=by rw [C4];simp
 have K5:=ZcJ (p:=q5) (q:=q6) B5a B5b
 unfold Zj
 simp+decide [Xj,Zb, Tryz.f13,UV,Wt,C1,C1_,EG2,EL3,EG3,C4_n,K5,C6]
end
theorem Zpl(C1:¬(i_4:Int)<(a0.1.length:Int)):
  Zj 0 (exec Tryz.prog (tab n) 0 57 (Za 13) big Wt) (Za 13 (Zo 4)) (Xj a0 a1 i_4) (.exit 0) (Zab):=by
 unfold Zj
 simp+decide [Xj,Zb, Tryz.f13,Zab,Wt,C1]
theorem Zxc(C1:¬(a0.1.length:Int)=(a1.1.length:Int)):
  run n 13 [Zc a0,Zc a1]=some (.lit (.bool false)):=by
 have C1_n:((a0.1.length:Int) !=(a1.1.length:Int))=true:=by simpa using C1
 unfold run fnP
 simp+decide [Tryz.f13,C1_n]
section
variable(C1:(a0.1.length:Int)=(a1.1.length:Int))(B2a:H a0.2≤17179869184)(B2b:H a1.2≤17179869184)
include C1 B2a B2b
theorem Zxe(C3:¬(a0.2=a1.2)):
  run n 13 [Zc a0,Zc a1]=some (.lit (.bool false)):=by
 have C1_n:((a0.1.length:Int) !=(a1.1.length:Int))=false:=by rw [C1];simp
 have K2:=ZcJ (p:=a0.2) (q:=a1.2) B2a B2b
 unfold run fnP
 simp+decide [Tryz.f13,C1_n,K2,C3]
theorem Zxh(C3:a0.2=a1.2)(L4:Zl Tryz.prog (tab n) 0 57 (Za 13) 4 Wt (Xj a0 a1 0)=some (.ret,UV)):
  run n 13 [Zc a0,Zc a1]=some (.lit (.bool false)):=by
 have C1_n:((a0.1.length:Int) !=(a1.1.length:Int))=false:=by rw [C1];simp
 have K2:=ZcJ (p:=a0.2) (q:=a1.2) B2a B2b
 have C3_:decide (a0.2=a1.2)=true:=decide_eq_true C3
 unfold run fnP
 simp+decide [Tryz.f13,C1_n,K2,C3_]
 rw [Zi (C':=Wt) (e:=(Xj a0 a1 0)) ?_ ?_,L4]
 rotate_left
 ·kernel_rfl
 ·simp+decide [Xj]
 simp+decide [UV]
theorem Zv4(C3:a0.2=a1.2)(L4:Zl Tryz.prog (tab n) 0 57 (Za 13) 4 Wt (Xj a0 a1 0)=some (.exit 0,Zab)):
  run n 13 [Zc a0,Zc a1]=some (.lit (.bool true)):=by
 have C1_n:((a0.1.length:Int) !=(a1.1.length:Int))=false:=by rw [C1];simp
 have K2:=ZcJ (p:=a0.2) (q:=a1.2) B2a B2b
 have C3_:decide (a0.2=a1.2)=true:=decide_eq_true C3
 unfold run fnP
 simp+decide [Tryz.f13,C1_n,K2,C3_]
 rw [Zi (C':=Wt) (e:=(Xj a0 a1 0)) ?_ ?_,L4]
 rotate_left
 ·kernel_rfl
 ·simp+decide [Xj]
 simp+decide [Zab]
end
end
section
attribute [local irreducible] run Zr Zl exec
theorem Zp0{α:Type}{l m:List α}(hl:l.length=m.length):(∀i,i<l.length→l[i]?=m[i]?)→l=m:=fun h=>by
 apply List.ext_getElem?
 intro i
 rcases Nat.lt_or_ge i l.length with hi|hi
 ·exact h i hi
 ·rw [List.getElem?_eq_none hi,List.getElem?_eq_none (by omega)]
theorem Zz2{n:Nat}{f g:Zf}(hf:BdF 17179869184 f)(hg:BdF 17179869184 g):run n 13 [Zc f,Zc g]=some (.lit (.bool (tv (f=g)))):=by
 have l1:=hf.l
 have l2:=hg.l
 by_cases hl:f.1.length=g.1.length
 ·by_cases hk:f.2=g.2
  ·have L:=Xb (O:=tab n) (P:= Tryz.prog) (m:=0) (N:=57) (lives:=Za 13) (r:=4) (C:=Wt) (M:=f.1.length) (enc:=Xj f g) (p:=fun i=>tv (f.1[i]?=g.1[i]?)) (exN:=.exit 0) (exE:=.ret) (out:=Zab) (outE:=UV) (by omega) (fun h=>by cases h) (fun h=>by cases h)
    (fun i hi _=>by
     have hx:f.1[i]?=some f.1[i]:=gEt hi
     have hy:g.1[i]?=some (g.1[i]'(by omega)):=gEt _
     obtain ⟨t,ht⟩:∃t,f.1[i]=t:=⟨_,rfl⟩
     obtain ⟨u,hu⟩:∃u,(g.1[i]'(by omega))=u:=⟨_,rfl⟩
     rw [ht] at hx
     rw [hu] at hy
     obtain ⟨v,q⟩:=t
     obtain ⟨v',q'⟩:=u
     have hq:=hf.t _ (gMe hx)
     have hq':=hg.t _ (gMe hy)
     dsimp only at hq hq'
     refine ⟨fun hp=>?_,fun hp=>?_⟩
     ·have hp:=YS hp
      rw [hx,hy] at hp
      cases hp
      exact Zoa (by omega) hx hy rfl hq hq' rfl ⟨by omega,by omega⟩
     ·have hp:=Q3 hp
      rw [hx,hy] at hp
      by_cases e1:v=v'
      ·exact Zq7 (by omega) hx hy e1 hq hq' fun e2=>hp (by rw [e1,e2])
      ·exact Zrb (by omega) hx hy e1)
    (Zpl (by omega))
   by_cases hA:∀i,i<f.1.length→tv (f.1[i]?=g.1[i]?)=true
   ·rw [if_pos hA] at L
    rw [Xk (Prod.ext (Zp0 hl fun i hi=>YS (hA i hi)) hk)]
    exact Zv4 (by omega) hf.k hg.k hk L
   ·rw [if_neg hA] at L
    rw [XJ fun h=>hA fun i hi=>Xk (by rw [h])]
    exact Zxh (by omega) hf.k hg.k hk L
  ·rw [XJ fun h=>hk (by rw [h])]
   exact Zxe (by omega) hf.k hg.k hk
 ·rw [XJ fun h=>hl (by rw [h])]
  exact Zxc (by omega)
theorem KA{q:Rat}:q.num<0↔q<0:=by
 have:=Rat.num_nonneg (q:=q)
 constructor
 ·intro h
  have h1:¬0≤q:=fun h2=>by have:=this.2 h2;omega
  grind
 ·intro h
  have h1:¬0≤q.num:=fun h2=>by have:=this.1 h2;grind
  omega
theorem Zqf{q:Rat}:0<q.num↔0<q:=by
 have h:=KA (q:=-q)
 rw [Rat.neg_num] at h
 constructor
 ·intro h1
  have:=h.1 (by omega)
  grind
 ·intro h1
  have:=h.2 (by grind)
  omega
theorem Zs2{q:Rat}(h:0<q):sgR q=1:=Int.sign_eq_one_of_pos (Zqf.2 h)
theorem Znw{q:Rat}(h:q<0):sgR q=-1:=Int.sign_eq_neg_one_of_neg (KA.2 h)
theorem YH(q:Rat):(0<q∧sgR q=1)∨(q<0∧sgR q=-1)∨(q=0∧sgR q=0):=by
 by_cases h1:0<q
 ·exact .inl ⟨h1,Zs2 h1⟩
 ·by_cases h2:q<0
  ·exact .inr (.inl ⟨h2,Znw h2⟩)
  ·have:q=0:=by grind
   exact .inr (.inr ⟨this,Yl.2 this⟩)
theorem Zql(q:Rat):InI (sgR q):=by
 rcases YH q with ⟨_,h⟩|⟨_,h⟩|⟨_,h⟩ <;>rw [h] <;>exact ⟨by omega,by omega⟩
theorem Xa{q:Rat}:sgR q<0↔q<0:=by
 rcases YH q with ⟨h1,h⟩|⟨h1,h⟩|⟨h1,h⟩ <;>rw [h]
 ·exact ⟨fun h=>absurd h (by omega),fun h=>by grind⟩
 ·exact ⟨fun _=>h1,fun _=>by omega⟩
 ·exact ⟨fun h=>absurd h (by omega),fun h=>by grind⟩
theorem Zjl{q:Rat}:0≤sgR q↔0≤q:=by
 have:=Xa (q:=q)
 constructor
 ·intro h
  false_or_by_contra
  have:=this.2 (by grind)
  omega
 ·intro h
  false_or_by_contra
  have:=this.1 (by omega)
  grind
theorem U0:ofQ 1=1:=by decide+kernel
theorem ZjN(q:Rat):ofQ (sgR q)=sgQ q:=by
 unfold sgQ
 rcases YH q with ⟨h1,h⟩|⟨h1,h⟩|⟨h1,h⟩ <;>rw [h]
 ·rw [if_pos h1];decide+kernel
 ·rw [if_neg (by grind),if_pos h1];decide+kernel
 ·rw [if_neg (by grind),if_neg (by grind)];decide+kernel
theorem Zff(q:Rat):ZcE q=Y0 q:=by
 unfold ZcE Y0
 by_cases h:q<0
 ·rw [if_pos (KA.2 h),if_pos h]
 ·rw [if_neg (fun e=>h (KA.1 e)),if_neg h]
theorem ZqI{q:Rat}:(Ze q).s=true↔q<0:=by
 show decide (q.num<0)=true↔q<0
 rw [decide_eq_true_iff]
 exact KA
theorem ZvF{q:Rat}(h:¬q<0):(Ze q).s=false:=by
 rcases Bool.eq_false_or_eq_true (Ze q).s with h1|h1
 ·exact absurd (ZqI.1 h1) h
 ·exact h1
structure FB (m:Nat) (f:Zf):Prop where
 s:Srt f.1
 h:FH m f
 l:f.1.length≤100
 v:∀t∈f.1,0≤t.1∧t.1<1099511627776
theorem FB.mono{m k:Nat}{f:Zf}(h:FB m f)(hk:m≤k):FB k f:=⟨h.s,⟨fun t ht=>Nat.le_trans (h.h.1 t ht) hk,Nat.le_trans h.h.2 hk⟩,h.l,h.v⟩
theorem FB.tm{m:Nat}{f:Zf}(h:FB m f):TmB m f.1:=fun t ht=>⟨h.s.2 t ht,h.h.1 t ht⟩
theorem FB.bd{m k:Nat}{f:Zf}(h:FB m f)(hk:m≤k):BdF k f:=⟨by have:=h.l;omega,fun t ht=>Nat.le_trans (h.h.1 t ht) hk,Nat.le_trans h.h.2 hk⟩
theorem ZeG{f:Zf}(hs:Srt f.1):(Zv f).1.length=f.1.length∧∀t∈(Zv f).1,∃u∈f.1,u.1=t.1:=by
 obtain ⟨F,q⟩:=f
 cases F with
 | nil=>exact ⟨rfl,fun t ht=>(by cases ht)⟩
 | cons t F=>
   have hp:=KR (Wh (hs.2 t List.mem_cons_self))
   have e:(Zv (t::F,q)).1=(t::F).map fun u=>(u.1,u.2*(1 / Y0 t.2)):=Ze6 (fun e=>by rw [e] at hp;exact absurd hp (by decide)) hs.2
   rw [e]
   refine ⟨by rw [List.length_map],fun u hu=>?_⟩
   obtain ⟨w,hw,rfl⟩:=List.mem_map.1 hu
   exact ⟨w,hw,rfl⟩
theorem FB.norm{m:Nat}{f:Zf}(h:FB m f)(h1:1≤m):FB (m+m) (Zv f):=by
 obtain ⟨a,b⟩:=ZeG h.s
 refine ⟨X9 h.s,FH.norm h.s h.h h1,by rw [a];exact h.l,fun t ht=>?_⟩
 obtain ⟨u,hu,e⟩:=b t ht
 rw [←e]
 exact h.v u hu
theorem FB.tx{m:Nat}{f:Zf}(h:FB m f)(hm:m≤10000):TxB f:=⟨h.l,fun t ht=>⟨Nat.le_trans (h.h.1 t ht) hm,(h.v t ht).1,by have:=(h.v t ht).2;omega⟩,Nat.le_trans h.h.2 hm⟩
section
variable {n m : Nat} {f : Zf} {L : List Zf}
theorem ZyT(h:FB m f)(hm:m≤5000):run (n+7) 11 [Zc f]=some (Zc (Zv f)):=by
 obtain ⟨F,q⟩:=f
 have hq:H q≤5000:=Nat.le_trans h.h.2 hm
 cases F with
 | nil=>
   have e:=Zx9 (n:=n) (a0:=(([],q):Zf)) rfl (by dsimp only;omega) (Zql _)
   dsimp only at e
   rw [ZjN] at e
   exact e
 | cons t F=>
   obtain ⟨v,c⟩:=t
   have hc0:c≠0:=h.s.nz
   have hc1:Y0 c≠0:=fun e=>by have:=Wh hc0;rw [e] at this;exact absurd this (by decide)
   have hcH:H c≤5000:=Nat.le_trans (h.h.1 (v,c) List.mem_cons_self) hm
   have hl:=h.l
   have D:=Zw0 (n:=n) (a:=ofQ 1) (c:=Ze (ZcE c)) (by rw [U0];decide+kernel) (ZbZ (by rw [Zx2];omega)) (by rw [QI,Zff];exact hc1)
   rw [QI,Zff,U0] at D
   rw [←Zff,Zah,Zff] at D
   dsimp only at D
   have hi:H (1 / Y0 c)≤5000:=Nat.le_trans (ZfU hc1) (by rw [Zh6];exact hcH)
   have S:=Zf1 (n:=n+4) (f:=(((v,c)::F,q):Zf)) (c:=1 / Y0 c) (b:=5000) (fun t ht=>Nat.le_trans (h.h.1 t ht) hm) (by omega) (by dsimp only;omega) (by omega) (by omega)
   rw [Uq] at S
   rw [←U0] at D
   exact Zwx (n:=n) (a0:=(((v,c)::F,q):Zf)) (by simp;omega) rfl D S
theorem ZyS(h:FB m f)(hm:m≤5000):run (n+7) 14 [Zc f]=some (Zc (Zv f)):=by
 obtain ⟨F,q⟩:=f
 have hq:H q≤5000:=Nat.le_trans h.h.2 hm
 cases F with
 | nil=>
   have e:=ZvM (n:=n) (a0:=(([],q):Zf)) rfl (by dsimp only;omega) (Zql _)
   dsimp only at e
   rw [ZjN] at e
   exact e
 | cons t F=>
   obtain ⟨v,c⟩:=t
   have hc0:c≠0:=h.s.nz
   have hc1:Y0 c≠0:=fun e=>by have:=Wh hc0;rw [e] at this;exact absurd this (by decide)
   have hcH:H c≤5000:=Nat.le_trans (h.h.1 (v,c) List.mem_cons_self) hm
   have hl:=h.l
   have hi:H (1 / Y0 c)≤5000:=Nat.le_trans (ZfU hc1) (by rw [Zh6];exact hcH)
   have S:=ZaG (n:=n+5) (f:=(((v,c)::F,q):Zf)) (c:=1 / Y0 c) (fun t ht=>⟨h.s.2 t ht,Nat.le_trans (h.h.1 t ht) (by omega)⟩) (by omega) (by dsimp only;omega) (by omega)
   by_cases hneg:c<0
   ·have e:Y0 c=-c:=if_pos hneg
    have D:=Zoz (n:=n) (a:=ofQ 1) (c:=Ze (-c)) (by rw [U0];decide+kernel) (ZbZ (by rw [Zbb];omega)) (by rw [QI,←e];exact hc1)
    rw [QI] at D
    have e2:ofQ 1 / -c=1 / Y0 c:=by rw [U0,e]
    rw [e2] at D
    exact Zv0 (n:=n) (a0:=(((v,c)::F,q):Zf)) (by simp;omega) rfl (by omega) (Xa.2 hneg) D S
   ·have e:Y0 c=c:=if_neg hneg
    have D:=Zoz (n:=n) (a:=ofQ 1) (c:=Ze c) (by rw [U0];decide+kernel) (ZbZ (by omega)) (by rw [QI];exact hc0)
    rw [QI] at D
    have e2:ofQ 1 / c=1 / Y0 c:=by rw [U0,e]
    rw [e2] at D
    exact Zvr (n:=n) (a0:=(((v,c)::F,q):Zf)) (by simp;omega) rfl (by omega) (fun h=>hneg (Xa.1 h)) D S
def Vpos(L:List Zf):Prop:=∀g∈L,∀t∈g.1,0≤t.1
theorem Vpos.nil:Vpos []:=fun g hg=>by cases hg
theorem Vpos.col(hL:Vpos L)(h:FB m f):Vpos (ZU L f):=fun g hg t ht=>by
 unfold ZU at hg
 split at hg
 ·exact hL g hg t ht
 split at hg
 ·exact hL g hg t ht
 ·rcases List.mem_append.1 hg with h1|h1
  ·exact hL g h1 t ht
  ·rw [List.mem_singleton.1 h1] at ht
   obtain ⟨u,hu,e⟩:=(ZeG h.s).2 t ht
   rw [←e]
   exact (h.v u hu).1
theorem UZ(L:List Zf)(f:Zf):(ZU L f).length≤L.length+1:=by
 unfold ZU
 split
 ·omega
 split
 ·omega
 ·rw [List.length_append];simp
theorem ZhC(L:List Zf)(r:Zf):L.length+1=(L++[r]).length:=by simp
theorem ZiV(h:FB m f)(h1:1≤m)(hm:m≤5000)(hL:Vpos L)(hl:L.length≤10000000):
  (ZU L f=L∧Zr (n+8) 46 [.ptr 0 0,Zc f] [.box 78 [.own 1 L.length,.mp 2] false,.row 28 4 (L.map Zh) 0,.mp (Qz L)]=some (.tup [],[(0,.box 78 [.own 1 L.length,.mp 2] false),(1,.row 28 4 (L.map Zh) 0),(2,.mp (Qz L))]))∨
  Zr (n+8) 46 [.ptr 0 0,Zc f] [.box 78 [.own 1 L.length,.mp 2] false,.row 28 4 (L.map Zh) 0,.mp (Qz L)]=some (.tup [],[(0,.box 78 [.own 6 (ZU L f).length,.mp 2] false),(2,.mp (Qz (ZU L f))),(6,.row 28 4 ((ZU L f).map Zh) 0)]):=by
 have K1:=ZyT (n:=n) h hm
 have hN:=h.norm h1
 have K2:=ZAf (n:=n) (hN.tx (by omega))
 have inj:∀g∈L,txt (Zv f)=txt g→Zv f=g:=fun g hg e=>Zut (fun t ht=>(hN.v t ht).1) (hL g hg) e
 have hF:=Zei (L:=L) inj
 by_cases ht:(Zv f).1=[]∧0≤(Zv f).2
 ·refine .inl ⟨if_pos ht,?_⟩
  exact ZxO K1 K2 (by rw [ht.1];rfl) (ZvF (by have:=ht.2;grind))
 by_cases hin:Zv f∈L
 ·rw [if_pos hin] at hF
  refine .inl ⟨by unfold ZU;rw [if_neg ht,if_pos hin],?_⟩
  by_cases h0:(Zv f).1=[]
  ·exact ZxN K1 K2 (by rw [h0];rfl) (ZqI.2 (by have:=fun e=>ht ⟨h0,e⟩;grind)) hF rfl
  ·exact Zw4 K1 K2 (fun e=>h0 (List.eq_nil_of_length_eq_zero (by omega))) hF rfl
 ·rw [if_neg hin] at hF
  have e:ZU L f=L++[Zv f]:=by unfold ZU;rw [if_neg ht,if_neg hin]
  have hP:=Zhs (n:=Zv f) (L:=L) (fun g hg e=>hin (by rw [inj g hg e];exact hg))
  refine .inr ?_
  rw [e,←hP,←ZhC]
  by_cases h0:(Zv f).1=[]
  ·exact ZxJ (L:=L) K1 K2 (by rw [h0];rfl) (ZqI.2 (by have:=fun e=>ht ⟨h0,e⟩;grind)) hF (by omega)
  ·exact ZxI (L:=L) K1 K2 (fun e=>h0 (List.eq_nil_of_length_eq_zero (by omega))) hF (by omega)
theorem ZhS(h:FB m f)(h1:1≤m)(hm:m≤5000)(hL:∀g∈L,BdF 17179869184 g)(hl:L.length≤10000000):
  (ZU L f=L∧Zr (n+8) 49 [.own 0 L.length,Zc f] [.row 28 4 (L.map Zh) 0]=some (.own 0 L.length,[(0,.row 28 4 (L.map Zh) 0)]))∨
  Zr (n+8) 49 [.own 0 L.length,Zc f] [.row 28 4 (L.map Zh) 0]=some (.own 3 (ZU L f).length,[(3,.row 28 4 ((ZU L f).map Zh) 0)]):=by
 have K1:=ZyS (n:=n) h hm
 have hN:=h.norm h1
 have hNb:=hN.bd (k:=17179869184) (by omega)
 have hk:=hNb.k
 by_cases ht:(Zv f).1=[]∧0≤(Zv f).2
 ·exact .inl ⟨if_pos ht,ZxW K1 (by rw [ht.1];rfl) hk (Zjl.2 ht.2)⟩
 have hsg:(Zv f).1=[]→¬0≤sgR (Zv f).2:=fun h0 e=>ht ⟨h0,Zjl.1 e⟩
 have X:=Xb (O:=tab (n+8)) (P:= Tryz.prog) (m:=1) (N:=37) (lives:=Za 49) (r:=5) (C:=XG) (M:=L.length) (enc:=fun i=>Qt L i (Zv f)) (p:=fun i=>tv (L[i]?≠some (Zv f))) (exN:=.exit 0) (exE:=.ret) (out:=Ke L (Zv f)) (outE:=Kd L (Zv f)) (by omega) (by simp) (by simp)
  (fun i hi _=>by
   have hx:L[i]?=some L[i]:=gEt hi
   obtain ⟨g,hg⟩:∃g,L[i]=g:=⟨_,rfl⟩
   rw [hg] at hx
   obtain ⟨G,q⟩:=g
   have K4:=Zz2 (n:=n+7) (hL _ (gMe hx)) hNb
   refine ⟨fun hp=>?_,fun hp=>?_⟩
   ·have hp:=YS hp
    exact Znp (by omega) hi hx K4 (XJ fun e=>hp (by rw [hx,e])) ⟨by omega,by omega⟩
   ·have hp:=Q3 hp
    refine Znz (by omega) hi hx K4 (Xk ?_)
    rw [hx] at hp
    false_or_by_contra
    rename_i h9
    exact hp fun e=>h9 (Option.some.inj e))
  (ZpJ (by omega))
 by_cases hin:Zv f∈L
 ·obtain ⟨i,hi⟩:=List.mem_iff_getElem?.1 hin
  rw [if_neg (fun (h9:∀i,i<L.length→tv (L[i]?≠some (Zv f))=true)=>(YS (h9 i (gEi hi).1)) hi)] at X
  refine .inl ⟨by unfold ZU;rw [if_neg ht,if_pos hin],?_⟩
  by_cases h0:(Zv f).1=[]
  ·exact Zw9 K1 (by rw [h0];rfl) hk (hsg h0) X
  ·exact Zxv K1 (fun e=>h0 (List.eq_nil_of_length_eq_zero (by omega))) X
 ·rw [if_pos (fun i hi=>Xk fun e=>hin (gMe e))] at X
  have e:ZU L f=L++[Zv f]:=by unfold ZU;rw [if_neg ht,if_neg hin]
  refine .inr ?_
  rw [e,←ZhC]
  by_cases h0:(Zv f).1=[]
  ·exact ZxQ K1 (by rw [h0];rfl) hk (hsg h0) X (by omega)
  ·exact ZvN K1 (fun e=>h0 (List.eq_nil_of_length_eq_zero (by omega))) X (by omega)
end
end
noncomputable def VD:Code:=(Zb (ZR Tryz.f44)).getD 0 .skip
def Wa(a0:List Zf)(a1:Int)(i_2:Nat):St:=
 ⟨[(1,.lit (.int .i64 a1)),(7,.sl 4 (a0.map Zh)),(8,.lit (.int .i64 (a0.length:Int))),(9,.lit (.int .i64 (i_2:Int)))],
  [],0⟩
def ZaC:St:=
 ⟨[(4,.lit (.bool false))],
  [],0⟩
def Zaz:St:=
 ⟨[(4,.any)],
  [],0⟩
section
variable{a1:Int}{i_2:Nat}{q3:Rat}{n:Nat}{F3:List (Int × Rat)}{r3:Bool}{a0:List Zf}
section
variable(C1:(i_2:Int)<(a0.length:Int))(E2:a0[i_2]?=some (F3,q3))(K3:run n 67 [Zc (F3,q3),.lit (.int .i64 a1)]=some (.lit (.bool r3)))
include C1 E2 K3
theorem Znt(C4:r3=true)(W5:InI ((i_2:Int)+1)):
  Zm 0 (exec Tryz.prog (tab (n+1)) 0 18 (Za 44) big VD) (Za 44 2) (Wa a0 a1 i_2) (Wa a0 a1 (i_2+1)):=by
 have C1_:i_2<a0.length:=by omega
 obtain ⟨EL2,EG2⟩:=gEi E2
 simp only [Zc] at K3
 have W5_:IntKind.i64.wrap ((i_2:Int)+1)=(i_2:Int)+1:=Zp W5.1 W5.2
 unfold Zm
 simp+decide [Wa,Zb, Tryz.f44,VD,C1,C1_,EG2,K3,C4,W5_]
theorem ZpC(C4:r3=false):
  Zj 0 (exec Tryz.prog (tab (n+1)) 0 18 (Za 44) big VD) (Za 44 (Zo 2)) (Wa a0 a1 i_2) (.ret) (ZaC):=by
 have C1_:i_2<a0.length:=by omega
 obtain ⟨EL2,EG2⟩:=gEi E2
 simp only [Zc] at K3
 unfold Zj
 simp+decide [Wa,Zb, Tryz.f44,ZaC,VD,C1,C1_,EG2,K3,C4]
end
theorem ZpT(C1:¬(i_2:Int)<(a0.length:Int)):
  Zj 0 (exec Tryz.prog (tab (n+1)) 0 18 (Za 44) big VD) (Za 44 (Zo 2)) (Wa a0 a1 i_2) (.exit 0) (Zaz):=by
 unfold Zj
 simp+decide [Wa,Zb, Tryz.f44,Zaz,VD,C1]
theorem Zx7(L1:Zl Tryz.prog (tab (n+1)) 0 18 (Za 44) 2 VD (Wa a0 a1 0)=some (.ret,ZaC)):
  run (n+1) 44 [.sl 4 (a0.map Zh),.lit (.int .i64 a1)]=some (.lit (.bool false)):=by
 unfold run fnP
 simp+decide [Tryz.f44]
 rw [Zi (C':=VD) (e:=(Wa a0 a1 0)) ?_ ?_,L1]
 rotate_left
 ·kernel_rfl
 ·simp+decide [Wa]
 simp+decide [ZaC]
theorem Zxy(L1:Zl Tryz.prog (tab (n+1)) 0 18 (Za 44) 2 VD (Wa a0 a1 0)=some (.exit 0,Zaz)):
  run (n+1) 44 [.sl 4 (a0.map Zh),.lit (.int .i64 a1)]=some (.lit (.bool true)):=by
 unfold run fnP
 simp+decide [Tryz.f44]
 rw [Zi (C':=VD) (e:=(Wa a0 a1 0)) ?_ ?_,L1]
 rotate_left
 ·kernel_rfl
 ·simp+decide [Wa]
 simp+decide [Zaz]
end
noncomputable def X6:Code:=(Zb (ZR Tryz.f17)).getD 0 .skip
noncomputable def Xy:Code:=(Zb (ZR Tryz.f17)).getD 1 .skip
noncomputable def WH:Code:=(Zb Xy).getD 0 .skip
def QE(a0:List Zf)(a1:Int)(out_6:List Zf)(out2_6:List Zf)(i_6:Nat)(out3_6:List Zf)(mp_6:List (ByteArray × Value)):St:=
 ⟨[(1,.lit (.int .i64 a1)),(6,.ptr 0 0),(7,.own 3 out_6.length),(8,.own 4 out2_6.length),(27,.sl 4 (a0.map Zh)),(28,.lit (.int .i64 (a0.length:Int))),(29,.lit (.int .i64 (i_6:Int)))],
  [(0,some (.box 78 [.own 1 out3_6.length,.mp 2] false)),
   (1,some (.row 28 4 (out3_6.map Zh) 0)),
   (2,some (.mp mp_6)),
   (3,some (.row 28 4 (out_6.map Zh) 0)),
   (4,some (.row 28 4 (out2_6.map Zh) 0))],5⟩
def Q8(a1:Int)(out2_6:List Zf)(out_6:List Zf)(i_16:Nat)(i_20:Nat)(out_20:List Zf)(mp_20:List (ByteArray × Value))(F12:List (Int × Rat))(q12:Rat)(r31:Rat):St:=
 ⟨[(1,.lit (.int .i64 a1)),(6,.ptr 0 0),(8,.own 3 out2_6.length),(12,.ptr 4 0),(13,.ptr 5 0),(53,.own 6 out_6.length),(54,.lit (.int .i64 (out_6.length:Int))),(55,.lit (.int .i64 (i_16:Int))),(62,.own 3 out2_6.length),(63,.lit (.int .i64 (out2_6.length:Int))),(64,.lit (.int .i64 (i_20:Int)))],
  [(0,some (.box 78 [.own 1 out_20.length,.mp 2] false)),
   (1,some (.row 28 4 (out_20.map Zh) 0)),
   (2,some (.mp mp_20)),
   (3,some (.row 28 4 (out2_6.map Zh) 0)),
   (4,some (.box 28 [.sl 4 (F12.map Zs),.lit (.bool (Ze q12).s),Zd (Ze q12).l1,Zd (Ze q12).l2] false)),
   (5,some (.box 26 [.lit (.bool (Ze r31).s),Zd (Ze r31).l1,Zd (Ze r31).l2] false)),
   (6,some (.row 28 4 (out_6.map Zh) 0))],7⟩
def WG(a1:Int)(out2_6:List Zf)(out_6:List Zf)(i_16:Nat)(out_16:List Zf)(mp_16:List (ByteArray × Value)):St:=
 ⟨[(1,.lit (.int .i64 a1)),(6,.ptr 0 0),(8,.own 3 out2_6.length),(53,.own 4 out_6.length),(54,.lit (.int .i64 (out_6.length:Int))),(55,.lit (.int .i64 (i_16:Int)))],
  [(0,some (.box 78 [.own 1 out_16.length,.mp 2] false)),
   (1,some (.row 28 4 (out_16.map Zh) 0)),
   (2,some (.mp mp_16)),
   (3,some (.row 28 4 (out2_6.map Zh) 0)),
   (4,some (.row 28 4 (out_6.map Zh) 0))],5⟩
def KZ(a1:Int)(out_6:List Zf)(out2_6:List Zf)(out3_6:List Zf)(mp_6:List (ByteArray × Value)):St:=
 ⟨[(1,.lit (.int .i64 a1)),(6,.ptr 0 0),(7,.own 3 out_6.length),(8,.own 4 out2_6.length)],
  [(0,some (.box 78 [.own 1 out3_6.length,.mp 2] false)),
   (1,some (.row 28 4 (out3_6.map Zh) 0)),
   (2,some (.mp mp_6)),
   (3,some (.row 28 4 (out_6.map Zh) 0)),
   (4,some (.row 28 4 (out2_6.map Zh) 0))],5⟩
def Uv(a1:Int)(out2_6:List Zf)(out_6:List Zf)(i_16:Nat)(out_20:List Zf)(mp_20:List (ByteArray × Value)):St:=
 ⟨[(1,.lit (.int .i64 a1)),(6,.ptr 0 0),(8,.own 3 out2_6.length),(53,.own 4 out_6.length),(54,.lit (.int .i64 (out_6.length:Int))),(55,.lit (.int .i64 (i_16:Int)))],
  [(0,some (.box 78 [.own 1 out_20.length,.mp 2] false)),
   (1,some (.row 28 4 (out_20.map Zh) 0)),
   (2,some (.mp mp_20)),
   (3,some (.row 28 4 (out2_6.map Zh) 0)),
   (4,some (.row 28 4 (out_6.map Zh) 0))],5⟩
def Ux(out_16:List Zf)(mp_16:List (ByteArray × Value)):St:=
 ⟨[(6,.ptr 0 0)],
  [(0,some (.box 78 [.own 1 out_16.length,.mp 2] false)),
   (1,some (.row 28 4 (out_16.map Zh) 0)),
   (2,some (.mp mp_16))],3⟩
section
variable{a1:Int}{out2_6:List Zf}{mp_6:List (ByteArray × Value)}{out_6:List Zf}{q3:Rat}{r4:Rat}{F3:List (Int × Rat)}{n:Nat}{out3_6:List Zf}{a0:List Zf}{i_6:Nat}{R3:List Zf}{mR3:List (ByteArray × Value)}{q15:Rat}{r40:Rat}{out_20:List Zf}{r41:Zf}{r42:Zf}{r31:Rat}{q12:Rat}{r43:Zf}{F15:List (Int × Rat)}{i_20:Nat}{mp_20:List (ByteArray × Value)}{F12:List (Int × Rat)}{i_16:Nat}{mR12:List (ByteArray × Value)}{R12:List Zf}{mp_16:List (ByteArray × Value)}{out_16:List Zf}{r:Bool}
section
variable(C1:(i_6:Int)<(a0.length:Int))(E2:a0[i_6]?=some (F3,q3))(K3:run (n+8) 45 [Zc (F3,q3),.lit (.int .i64 a1)]=some (Zk r4))(B4a:H r4≤17179869184)
include C1 E2 K3 B4a
theorem ZnM(C5:sgR r4=0)(K6:Zr (n+8) 46 [.ptr 0 0,Zc (F3,q3)] [.box 78 [.own 1 out3_6.length,.mp 2] false,.row 28 4 (out3_6.map Zh) 0,.mp mp_6]=some (.tup [],[(0,.box 78 [.own 1 out3_6.length,.mp 2] false),(1,.row 28 4 (out3_6.map Zh) 0),(2,.mp mp_6)]))(W7:InI ((i_6:Int)+1)):
  Zm 0 (exec Tryz.prog (tab (n+9)) 0 93 (Za 17) big X6) (Za 17 6) (QE a0 a1 out_6 out2_6 i_6 out3_6 mp_6) (QE a0 a1 out_6 out2_6 (i_6+1) out3_6 mp_6):=by
 have C1_:i_6<a0.length:=by omega
 obtain ⟨EL2,EG2⟩:=gEi E2
 simp only [Zk,Zc] at K3
 have K4:=ZN (p:=r4) B4a
 have C5_:(sgR r4==0)=true:=by rw [C5];simp
 simp only [Zc] at K6
 have W7_:IntKind.i64.wrap ((i_6:Int)+1)=(i_6:Int)+1:=Zp W7.1 W7.2
 unfold Zm
 simp+decide [QE,Zb, Tryz.f17,X6,C1,C1_,EG2,K3,K4,C5_,K6,W7_]
theorem Zna(C5:sgR r4=0)(K6:Zr (n+8) 46 [.ptr 0 0,Zc (F3,q3)] [.box 78 [.own 1 out3_6.length,.mp 2] false,.row 28 4 (out3_6.map Zh) 0,.mp mp_6]=some (.tup [],[(0,.box 78 [.own 6 R3.length,.mp 2] false),(2,.mp mR3),(6,.row 28 4 (R3.map Zh) 0)]))(W7:InI ((i_6:Int)+1)):
  Zm 0 (exec Tryz.prog (tab (n+9)) 0 93 (Za 17) big X6) (Za 17 6) (QE a0 a1 out_6 out2_6 i_6 out3_6 mp_6) (QE a0 a1 out_6 out2_6 (i_6+1) R3 mR3):=by
 have C1_:i_6<a0.length:=by omega
 obtain ⟨EL2,EG2⟩:=gEi E2
 simp only [Zk,Zc] at K3
 have K4:=ZN (p:=r4) B4a
 have C5_:(sgR r4==0)=true:=by rw [C5];simp
 simp only [Zc] at K6
 have W7_:IntKind.i64.wrap ((i_6:Int)+1)=(i_6:Int)+1:=Zp W7.1 W7.2
 unfold Zm
 simp+decide [QE,Zb, Tryz.f17,X6,C1,C1_,EG2,K3,K4,C5_,K6,W7_]
theorem ZoI(C5:¬sgR r4=0)(C6:sgR r4=1)(M7:out_6.length+1≤100000000)(W8:InI ((i_6:Int)+1)):
  Zm 0 (exec Tryz.prog (tab (n+9)) 0 93 (Za 17) big X6) (Za 17 6) (QE a0 a1 out_6 out2_6 i_6 out3_6 mp_6) (QE a0 a1 (out_6++[(F3,q3)]) out2_6 (i_6+1) out3_6 mp_6):=by
 have C1_:i_6<a0.length:=by omega
 obtain ⟨EL2,EG2⟩:=gEi E2
 simp only [Zk,Zc] at K3
 have K4:=ZN (p:=r4) B4a
 have C5_:(sgR r4==0)=false:=by simpa using C5
 have C6_:(sgR r4==1)=true:=by rw [C6];simp
 have M7_:∀b,b≤10000→ZG (out_6.length+1) b=true:=fun b hb=>Zq M7 hb
 have W8_:IntKind.i64.wrap ((i_6:Int)+1)=(i_6:Int)+1:=Zp W8.1 W8.2
 unfold Zm
 simp+decide [QE,Zb, Tryz.f17,X6,C1,C1_,EG2,K3,K4,C5_,C6_,M7_,W8_]
theorem Zn0(C5:¬sgR r4=0)(C6:¬sgR r4=1)(M7:out2_6.length+1≤100000000)(W8:InI ((i_6:Int)+1)):
  Zm 0 (exec Tryz.prog (tab (n+9)) 0 93 (Za 17) big X6) (Za 17 6) (QE a0 a1 out_6 out2_6 i_6 out3_6 mp_6) (QE a0 a1 out_6 (out2_6++[(F3,q3)]) (i_6+1) out3_6 mp_6):=by
 have C1_:i_6<a0.length:=by omega
 obtain ⟨EL2,EG2⟩:=gEi E2
 simp only [Zk,Zc] at K3
 have K4:=ZN (p:=r4) B4a
 have C5_:(sgR r4==0)=false:=by simpa using C5
 have C6_:(sgR r4==1)=false:=by simpa using C6
 have M7_:∀b,b≤10000→ZG (out2_6.length+1) b=true:=fun b hb=>Zq M7 hb
 have W8_:IntKind.i64.wrap ((i_6:Int)+1)=(i_6:Int)+1:=Zp W8.1 W8.2
 unfold Zm
 simp+decide [QE,Zb, Tryz.f17,X6,C1,C1_,EG2,K3,K4,C5_,C6_,M7_,W8_]
end
theorem Zpv(C1:¬(i_6:Int)<(a0.length:Int)):
  Zj 0 (exec Tryz.prog (tab (n+9)) 0 93 (Za 17) big X6) (Za 17 (Zo 6)) (QE a0 a1 out_6 out2_6 i_6 out3_6 mp_6) (.exit 0) (KZ a1 out_6 out2_6 out3_6 mp_6):=by
 unfold Zj
 simp+decide [QE,Zb, Tryz.f17,KZ,X6,C1]
section
variable(C1:(i_20:Int)<(out2_6.length:Int))(G2:i_20<out2_6.length)(E3:out2_6[i_20]?=some (F15,q15))(K4:run (n+8) 45 [Zc (F15,q15),.lit (.int .i64 a1)]=some (Zk r40))(B5a:H r40≤17179869184)(K6:run (n+8) 37 [Zc (F12,q12),Zk (-r40)]=some (Zc r41))(K7:run (n+8) 37 [Zc (F15,q15),Zk r31]=some (Zc r42))(K8:run (n+8) 48 [Zc r41,Zc r42]=some (Zc r43))
include C1 G2 E3 K4 B5a K6 K7 K8
theorem ZlK(K9:Zr (n+8) 46 [.ptr 0 0,Zc r43] [.box 78 [.own 1 out_20.length,.mp 2] false,.row 28 4 (out_20.map Zh) 0,.mp mp_20]=some (.tup [],[(0,.box 78 [.own 1 out_20.length,.mp 2] false),(1,.row 28 4 (out_20.map Zh) 0),(2,.mp mp_20)]))(W10:InI ((i_20:Int)+1)):
  Zm 0 (exec Tryz.prog (tab (n+9)) 0 93 (Za 17) big WH) (Za 17 20) (Q8 a1 out2_6 out_6 i_16 i_20 out_20 mp_20 F12 q12 r31) (Q8 a1 out2_6 out_6 i_16 (i_20+1) out_20 mp_20 F12 q12 r31):=by
 have C1_:i_20<out2_6.length:=by omega
 obtain ⟨EL3,EG3⟩:=gEi E3
 simp only [Zk,Zc] at K4
 have K5:=VR (p:=r40) B5a
 simp only [Zk,Zc] at K6
 simp only [Zk,Zc] at K7
 simp only [Zc] at K8
 simp only [Zc] at K9
 have W10_:IntKind.i64.wrap ((i_20:Int)+1)=(i_20:Int)+1:=Zp W10.1 W10.2
 unfold Zm
 simp+decide [Q8,Zb, Tryz.f17,Xy,WH,C1,C1_,EG3,K4,K5,K6,K7,K8,K9,W10_]
theorem ZlG(K9:Zr (n+8) 46 [.ptr 0 0,Zc r43] [.box 78 [.own 1 out_20.length,.mp 2] false,.row 28 4 (out_20.map Zh) 0,.mp mp_20]=some (.tup [],[(0,.box 78 [.own 6 R12.length,.mp 2] false),(2,.mp mR12),(6,.row 28 4 (R12.map Zh) 0)]))(W10:InI ((i_20:Int)+1)):
  Zm 0 (exec Tryz.prog (tab (n+9)) 0 93 (Za 17) big WH) (Za 17 20) (Q8 a1 out2_6 out_6 i_16 i_20 out_20 mp_20 F12 q12 r31) (Q8 a1 out2_6 out_6 i_16 (i_20+1) R12 mR12 F12 q12 r31):=by
 have C1_:i_20<out2_6.length:=by omega
 obtain ⟨EL3,EG3⟩:=gEi E3
 simp only [Zk,Zc] at K4
 have K5:=VR (p:=r40) B5a
 simp only [Zk,Zc] at K6
 simp only [Zk,Zc] at K7
 simp only [Zc] at K8
 simp only [Zc] at K9
 have W10_:IntKind.i64.wrap ((i_20:Int)+1)=(i_20:Int)+1:=Zp W10.1 W10.2
 unfold Zm
 simp+decide [Q8,Zb, Tryz.f17,Xy,WH,C1,C1_,EG3,K4,K5,K6,K7,K8,K9,W10_]
end
theorem ZlO(C1:¬(i_20:Int)<(out2_6.length:Int)):
  Zj 0 (exec Tryz.prog (tab (n+9)) 0 93 (Za 17) big WH) (Za 17 (Zo 20)) (Q8 a1 out2_6 out_6 i_16 i_20 out_20 mp_20 F12 q12 r31) (.exit 5) (Uv a1 out2_6 out_6 i_16 out_20 mp_20):=by
 unfold Zj
 simp+decide [Q8,Zb, Tryz.f17,Uv,Xy,WH,C1]
theorem Zmg(C1:(i_16:Int)<(out_6.length:Int))(G2:i_16<out_6.length)(E3:out_6[i_16]?=some (F12,q12))(K4:run (n+8) 45 [Zc (F12,q12),.lit (.int .i64 a1)]=some (Zk r31))(L5:Zl Tryz.prog (tab (n+9)) 0 93 (Za 17) 20 WH (Q8 a1 out2_6 out_6 i_16 0 out_16 mp_16 F12 q12 r31)=some (.exit 5,Uv a1 out2_6 out_6 i_16 out_20 mp_20))(W6:InI ((i_16:Int)+1)):
  Zm 0 (exec Tryz.prog (tab (n+9)) 0 93 (Za 17) big Xy) (Za 17 16) (WG a1 out2_6 out_6 i_16 out_16 mp_16) (WG a1 out2_6 out_6 (i_16+1) out_20 mp_20):=by
 have C1_:i_16<out_6.length:=by omega
 obtain ⟨EL3,EG3⟩:=gEi E3
 simp only [Zk,Zc] at K4
 have W6_:IntKind.i64.wrap ((i_16:Int)+1)=(i_16:Int)+1:=Zp W6.1 W6.2
 unfold Zm
 simp+decide [WG,Zb, Tryz.f17,Xy,C1,C1_,EG3,K4]
 rw [Zi (C':=WH) (e:=(Q8 a1 out2_6 out_6 i_16 0 out_16 mp_16 F12 q12 r31)) ?_ ?_,L5]
 rotate_left
 ·kernel_rfl
 ·simp+decide [Q8, Tryz.f17]
 simp+decide [Uv, Tryz.f17,W6_]
theorem ZkJ(C1:¬(i_16:Int)<(out_6.length:Int)):
  Zj 0 (exec Tryz.prog (tab (n+9)) 0 93 (Za 17) big Xy) (Za 17 (Zo 16)) (WG a1 out2_6 out_6 i_16 out_16 mp_16) (.exit 3) (Ux out_16 mp_16):=by
 unfold Zj
 simp+decide [WG,Zb, Tryz.f17,Ux,Xy,C1]
theorem ZwQ(C1:¬a1<0)(K2:run (n+8) 44 [.sl 4 (a0.map Zh),.lit (.int .i64 4611686018427387904)]=some (.lit (.bool r)))(C3:r=true)(L4:Zl Tryz.prog (tab (n+9)) 0 93 (Za 17) 6 X6 (QE a0 a1 [] [] 0 [] [])=some (.exit 0,KZ a1 out_6 out2_6 out3_6 mp_6))(L5:Zl Tryz.prog (tab (n+9)) 0 93 (Za 17) 16 Xy (WG a1 out2_6 out_6 0 out3_6 mp_6)=some (.exit 3,Ux out_16 mp_16))(C6:¬4096<(out_16.length:Int)):
  run (n+9) 17 [.sl 4 (a0.map Zh),.lit (.int .i64 a1)]=some (.tup [.sl 4 (out_16.map Zh),.lit (.int .i64 0)]):=by
 unfold run fnP
 simp+decide [Tryz.f17,C1,K2,C3]
 rw [Zi (C':=X6) (e:=(QE a0 a1 [] [] 0 [] [])) ?_ ?_,L4]
 rotate_left
 ·kernel_rfl
 ·simp+decide [QE]
 simp+decide [KZ]
 rw [Zi (C':=Xy) (e:=(WG a1 out2_6 out_6 0 out3_6 mp_6)) ?_ ?_,L5]
 rotate_left
 ·kernel_rfl
 ·simp+decide [WG]
 simp+decide [Ux,C6]
end
noncomputable def X4:Code:=(Zb (ZR Tryz.f18)).getD 0 .skip
noncomputable def Xw:Code:=(Zb (ZR Tryz.f18)).getD 1 .skip
noncomputable def WM:Code:=(Zb Xw).getD 0 .skip
def QH(a0:List Zf)(a1:Int)(out_5:List Zf)(out2_5:List Zf)(out3_5:List Zf)(i_5:Nat):St:=
 ⟨[(0,.sl 4 (a0.map Zh)),(1,.lit (.int .i64 a1)),(6,.own 0 out_5.length),(7,.own 1 out2_5.length),(8,.own 2 out3_5.length),(9,.lit (.int .i64 (i_5:Int)))],
  [(0,some (.row 28 4 (out_5.map Zh) 0)),
   (1,some (.row 28 4 (out2_5.map Zh) 0)),
   (2,some (.row 28 4 (out3_5.map Zh) 0))],3⟩
def Xd(a1:Int)(out_19:List Zf)(out2_5:List Zf)(out3_5:List Zf)(i_16:Nat)(i_19:Nat):St:=
 ⟨[(1,.lit (.int .i64 a1)),(6,.own 0 out_19.length),(7,.own 1 out2_5.length),(8,.own 2 out3_5.length),(10,.lit (.int .i64 (i_16:Int))),(11,.lit (.int .i64 (i_19:Int)))],
  [(0,some (.row 28 4 (out_19.map Zh) 0)),
   (1,some (.row 28 4 (out2_5.map Zh) 0)),
   (2,some (.row 28 4 (out3_5.map Zh) 0))],3⟩
def WI(a1:Int)(out_16:List Zf)(out2_5:List Zf)(out3_5:List Zf)(i_16:Nat):St:=
 ⟨[(1,.lit (.int .i64 a1)),(6,.own 0 out_16.length),(7,.own 1 out2_5.length),(8,.own 2 out3_5.length),(10,.lit (.int .i64 (i_16:Int)))],
  [(0,some (.row 28 4 (out_16.map Zh) 0)),
   (1,some (.row 28 4 (out2_5.map Zh) 0)),
   (2,some (.row 28 4 (out3_5.map Zh) 0))],3⟩
def Je(a1:Int)(out_5:List Zf)(out2_5:List Zf)(out3_5:List Zf):St:=
 ⟨[(1,.lit (.int .i64 a1)),(4,.any),(5,.any),(6,.own 0 out_5.length),(7,.own 1 out2_5.length),(8,.own 2 out3_5.length)],
  [(0,some (.row 28 4 (out_5.map Zh) 0)),
   (1,some (.row 28 4 (out2_5.map Zh) 0)),
   (2,some (.row 28 4 (out3_5.map Zh) 0))],3⟩
def Uu(a1:Int)(out_19:List Zf)(out2_5:List Zf)(out3_5:List Zf)(i_16:Nat):St:=
 ⟨[(1,.lit (.int .i64 a1)),(6,.own 0 out_19.length),(7,.own 1 out2_5.length),(8,.own 2 out3_5.length),(10,.lit (.int .i64 (i_16:Int)))],
  [(0,some (.row 28 4 (out_19.map Zh) 0)),
   (1,some (.row 28 4 (out2_5.map Zh) 0)),
   (2,some (.row 28 4 (out3_5.map Zh) 0))],3⟩
def Ug(out_16:List Zf):St:=
 ⟨[(6,.own 0 out_16.length)],
  [(0,some (.row 28 4 (out_16.map Zh) 0))],1⟩
section
variable{a1:Int}{r5:Bool}{r6:Rat}{q3:Rat}{out_5:List Zf}{F3:List (Int × Rat)}{n:Nat}{out2_5:List Zf}{out3_5:List Zf}{a0:List Zf}{i_5:Nat}{R3:List Zf}{out_19:List Zf}{r50:Zf}{F20:List (Int × Rat)}{F21:List (Int × Rat)}{r48:Rat}{r51:Zf}{r47:Rat}{r49:Zf}{i_19:Nat}{q21:Rat}{i_16:Nat}{q20:Rat}{R12:List Zf}{out_16:List Zf}
section
variable(C1:(i_5:Int)<(a0.length:Int))(E2:a0[i_5]?=some (F3,q3))(K3:run (n+8) 21 [Zc (F3,q3),.lit (.int .i64 1099511627776)]=some (.lit (.bool r5)))(C4:r5=true)(K5:run (n+8) 22 [Zc (F3,q3),.lit (.int .i64 a1)]=some (Zk r6))(B6a:H r6≤17179869184)
include C1 E2 K3 C4 K5 B6a
theorem Zpz(C7:sgR r6=0)(K8:Zr (n+8) 49 [.own 0 out_5.length,Zc (F3,q3)] [.row 28 4 (out_5.map Zh) 0]=some (.own 0 out_5.length,[(0,.row 28 4 (out_5.map Zh) 0)]))(W9:InI ((i_5:Int)+1)):
  Zm 0 (exec Tryz.prog (tab (n+9)) 0 103 (Za 18) big X4) (Za 18 5) (QH a0 a1 out_5 out2_5 out3_5 i_5) (QH a0 a1 out_5 out2_5 out3_5 (i_5+1)):=by
 have C1_:i_5<a0.length:=by omega
 obtain ⟨EL2,EG2⟩:=gEi E2
 simp only [Zc] at K3
 simp only [Zk,Zc] at K5
 have K6:=ZN (p:=r6) B6a
 have C7_:(sgR r6==0)=true:=by rw [C7];simp
 simp only [Zc] at K8
 have W9_:IntKind.i64.wrap ((i_5:Int)+1)=(i_5:Int)+1:=Zp W9.1 W9.2
 unfold Zm
 simp+decide [QH,Zb, Tryz.f18,X4,C1,C1_,EG2,K3,C4,K5,K6,C7_,K8,W9_]
theorem Znu(C7:sgR r6=0)(K8:Zr (n+8) 49 [.own 0 out_5.length,Zc (F3,q3)] [.row 28 4 (out_5.map Zh) 0]=some (.own 3 R3.length,[(3,.row 28 4 (R3.map Zh) 0)]))(W9:InI ((i_5:Int)+1)):
  Zm 0 (exec Tryz.prog (tab (n+9)) 0 103 (Za 18) big X4) (Za 18 5) (QH a0 a1 out_5 out2_5 out3_5 i_5) (QH a0 a1 R3 out2_5 out3_5 (i_5+1)):=by
 have C1_:i_5<a0.length:=by omega
 obtain ⟨EL2,EG2⟩:=gEi E2
 simp only [Zc] at K3
 simp only [Zk,Zc] at K5
 have K6:=ZN (p:=r6) B6a
 have C7_:(sgR r6==0)=true:=by rw [C7];simp
 simp only [Zc] at K8
 have W9_:IntKind.i64.wrap ((i_5:Int)+1)=(i_5:Int)+1:=Zp W9.1 W9.2
 unfold Zm
 simp+decide [QH,Zb, Tryz.f18,X4,C1,C1_,EG2,K3,C4,K5,K6,C7_,K8,W9_]
theorem Zqc(C7:¬sgR r6=0)(C8:sgR r6=1)(M9:out2_5.length+1≤100000000)(W10:InI ((i_5:Int)+1)):
  Zm 0 (exec Tryz.prog (tab (n+9)) 0 103 (Za 18) big X4) (Za 18 5) (QH a0 a1 out_5 out2_5 out3_5 i_5) (QH a0 a1 out_5 (out2_5++[(F3,q3)]) out3_5 (i_5+1)):=by
 have C1_:i_5<a0.length:=by omega
 obtain ⟨EL2,EG2⟩:=gEi E2
 simp only [Zc] at K3
 simp only [Zk,Zc] at K5
 have K6:=ZN (p:=r6) B6a
 have C7_:(sgR r6==0)=false:=by simpa using C7
 have C8_:(sgR r6==1)=true:=by rw [C8];simp
 have M9_:∀b,b≤10000→ZG (out2_5.length+1) b=true:=fun b hb=>Zq M9 hb
 have W10_:IntKind.i64.wrap ((i_5:Int)+1)=(i_5:Int)+1:=Zp W10.1 W10.2
 unfold Zm
 simp+decide [QH,Zb, Tryz.f18,X4,C1,C1_,EG2,K3,C4,K5,K6,C7_,C8_,M9_,W10_]
theorem ZnG(C7:¬sgR r6=0)(C8:¬sgR r6=1)(M9:out3_5.length+1≤100000000)(W10:InI ((i_5:Int)+1)):
  Zm 0 (exec Tryz.prog (tab (n+9)) 0 103 (Za 18) big X4) (Za 18 5) (QH a0 a1 out_5 out2_5 out3_5 i_5) (QH a0 a1 out_5 out2_5 (out3_5++[(F3,q3)]) (i_5+1)):=by
 have C1_:i_5<a0.length:=by omega
 obtain ⟨EL2,EG2⟩:=gEi E2
 simp only [Zc] at K3
 simp only [Zk,Zc] at K5
 have K6:=ZN (p:=r6) B6a
 have C7_:(sgR r6==0)=false:=by simpa using C7
 have C8_:(sgR r6==1)=false:=by simpa using C8
 have M9_:∀b,b≤10000→ZG (out3_5.length+1) b=true:=fun b hb=>Zq M9 hb
 have W10_:IntKind.i64.wrap ((i_5:Int)+1)=(i_5:Int)+1:=Zp W10.1 W10.2
 unfold Zm
 simp+decide [QH,Zb, Tryz.f18,X4,C1,C1_,EG2,K3,C4,K5,K6,C7_,C8_,M9_,W10_]
end
theorem ZnA(C1:¬(i_5:Int)<(a0.length:Int)):
  Zj 0 (exec Tryz.prog (tab (n+9)) 0 103 (Za 18) big X4) (Za 18 (Zo 5)) (QH a0 a1 out_5 out2_5 out3_5 i_5) (.exit 0) (Je a1 out_5 out2_5 out3_5):=by
 unfold Zj
 simp+decide [QH,Zb, Tryz.f18,Je,X4,C1]
section
variable(C1:(i_19:Int)<(out3_5.length:Int))(G2:i_16<out2_5.length)(E3:out2_5[i_16]?=some (F20,q20))(K4:run (n+8) 22 [Zc (F20,q20),.lit (.int .i64 a1)]=some (Zk r47))(G5:i_19<out3_5.length)(E6:out3_5[i_19]?=some (F21,q21))(K7:run (n+8) 22 [Zc (F21,q21),.lit (.int .i64 a1)]=some (Zk r48))(B8a:H r48≤17179869184)(K10:run (n+8) 41 [Zc (F20,q20),Zk (-r48)]=some (Zc r49))(K12:run (n+8) 41 [Zc (F21,q21),Zk r47]=some (Zc r50))(K13:run (n+8) 50 [Zc r49,Zc r50]=some (Zc r51))
include C1 G2 E3 K4 G5 E6 K7 B8a K10 K12 K13
theorem Zmz(K14:Zr (n+8) 49 [.own 0 out_19.length,Zc r51] [.row 28 4 (out_19.map Zh) 0]=some (.own 0 out_19.length,[(0,.row 28 4 (out_19.map Zh) 0)]))(W15:InI ((i_19:Int)+1)):
  Zm 0 (exec Tryz.prog (tab (n+9)) 0 103 (Za 18) big WM) (Za 18 19) (Xd a1 out_19 out2_5 out3_5 i_16 i_19) (Xd a1 out_19 out2_5 out3_5 i_16 (i_19+1)):=by
 have C1_:i_19<out3_5.length:=by omega
 obtain ⟨EL3,EG3⟩:=gEi E3
 simp only [Zk,Zc] at K4
 obtain ⟨EL6,EG6⟩:=gEi E6
 simp only [Zk,Zc] at K7
 have K8:=VR (p:=r48) B8a
 simp only [Zk,Zc] at K10
 simp only [Zk,Zc] at K12
 simp only [Zc] at K13
 simp only [Zc] at K14
 have W15_:IntKind.i64.wrap ((i_19:Int)+1)=(i_19:Int)+1:=Zp W15.1 W15.2
 unfold Zm
 simp+decide [Xd,Zb, Tryz.f18,Xw,WM,C1,C1_,G2,EG3,K4,EG6,K7,K8,K10,K12,K13,K14,W15_]
theorem ZkO(K14:Zr (n+8) 49 [.own 0 out_19.length,Zc r51] [.row 28 4 (out_19.map Zh) 0]=some (.own 3 R12.length,[(3,.row 28 4 (R12.map Zh) 0)]))(W15:InI ((i_19:Int)+1)):
  Zm 0 (exec Tryz.prog (tab (n+9)) 0 103 (Za 18) big WM) (Za 18 19) (Xd a1 out_19 out2_5 out3_5 i_16 i_19) (Xd a1 R12 out2_5 out3_5 i_16 (i_19+1)):=by
 have C1_:i_19<out3_5.length:=by omega
 obtain ⟨EL3,EG3⟩:=gEi E3
 simp only [Zk,Zc] at K4
 obtain ⟨EL6,EG6⟩:=gEi E6
 simp only [Zk,Zc] at K7
 have K8:=VR (p:=r48) B8a
 simp only [Zk,Zc] at K10
 simp only [Zk,Zc] at K12
 simp only [Zc] at K13
 simp only [Zc] at K14
 have W15_:IntKind.i64.wrap ((i_19:Int)+1)=(i_19:Int)+1:=Zp W15.1 W15.2
 unfold Zm
 simp+decide [Xd,Zb, Tryz.f18,Xw,WM,C1,C1_,G2,EG3,K4,EG6,K7,K8,K10,K12,K13,K14,W15_]
end
theorem Zmt(C1:¬(i_19:Int)<(out3_5.length:Int)):
  Zj 0 (exec Tryz.prog (tab (n+9)) 0 103 (Za 18) big WM) (Za 18 (Zo 19)) (Xd a1 out_19 out2_5 out3_5 i_16 i_19) (.exit 5) (Uu a1 out_19 out2_5 out3_5 i_16):=by
 unfold Zj
 simp+decide [Xd,Zb, Tryz.f18,Uu,Xw,WM,C1]
theorem ZmC(C1:(i_16:Int)<(out2_5.length:Int))(L2:Zl Tryz.prog (tab (n+9)) 0 103 (Za 18) 19 WM (Xd a1 out_16 out2_5 out3_5 i_16 0)=some (.exit 5,Uu a1 out_19 out2_5 out3_5 i_16))(W3:InI ((i_16:Int)+1)):
  Zm 0 (exec Tryz.prog (tab (n+9)) 0 103 (Za 18) big Xw) (Za 18 16) (WI a1 out_16 out2_5 out3_5 i_16) (WI a1 out_19 out2_5 out3_5 (i_16+1)):=by
 have W3_:IntKind.i64.wrap ((i_16:Int)+1)=(i_16:Int)+1:=Zp W3.1 W3.2
 unfold Zm
 simp+decide [WI,Zb, Tryz.f18,Xw,C1]
 rw [Zi (C':=WM) (e:=(Xd a1 out_16 out2_5 out3_5 i_16 0)) ?_ ?_,L2]
 rotate_left
 ·kernel_rfl
 ·simp+decide [Xd, Tryz.f18]
 simp+decide [Uu, Tryz.f18,W3_]
theorem Zmc(C1:¬(i_16:Int)<(out2_5.length:Int)):
  Zj 0 (exec Tryz.prog (tab (n+9)) 0 103 (Za 18) big Xw) (Za 18 (Zo 16)) (WI a1 out_16 out2_5 out3_5 i_16) (.exit 3) (Ug out_16):=by
 unfold Zj
 simp+decide [WI,Zb, Tryz.f18,Ug,Xw,C1]
theorem Zvh(C1:¬a1<0)(L2:Zl Tryz.prog (tab (n+9)) 0 103 (Za 18) 5 X4 (QH a0 a1 [] [] [] 0)=some (.exit 0,Je a1 out_5 out2_5 out3_5))(L3:Zl Tryz.prog (tab (n+9)) 0 103 (Za 18) 16 Xw (WI a1 out_5 out2_5 out3_5 0)=some (.exit 3,Ug out_16))(C4:¬4096<(out_16.length:Int)):
  run (n+9) 18 [.sl 4 (a0.map Zh),.lit (.int .i64 a1)]=some (.tup [.sl 4 (out_16.map Zh),.lit (.int .i64 0)]):=by
 unfold run fnP
 simp+decide [Tryz.f18,C1]
 rw [Zi (C':=X4) (e:=(QH a0 a1 [] [] [] 0)) ?_ ?_,L2]
 rotate_left
 ·kernel_rfl
 ·simp+decide [QH]
 simp+decide [Je]
 rw [Zi (C':=Xw) (e:=(WI a1 out_5 out2_5 out3_5 0)) ?_ ?_,L3]
 rotate_left
 ·kernel_rfl
 ·simp+decide [WI]
 simp+decide [Ug,C4]
end
noncomputable def Qk:Code:=(Zb (ZR Tryz.f67)).getD 0 .skip
def YT(a0:Zf)(a1:Int)(i_2:Nat):St:=
 ⟨[(1,.lit (.int .i64 a1)),(2,.ptr 0 0),(8,.sl 4 (a0.1.map Zs)),(9,.lit (.int .i64 (a0.1.length:Int))),(10,.lit (.int .i64 (i_2:Int)))],
  [(0,some (.box 28 [.sl 4 (a0.1.map Zs),.lit (.bool (Ze a0.2).s),Zd (Ze a0.2).l1,Zd (Ze a0.2).l2] false))],1⟩
def Xg(a0:Zf):St:=
 ⟨[(2,.ptr 0 0),(4,.lit (.bool false))],
  [(0,some (.box 28 [.sl 4 (a0.1.map Zs),.lit (.bool (Ze a0.2).s),Zd (Ze a0.2).l1,Zd (Ze a0.2).l2] false))],1⟩
def Za1(a0:Zf):St:=
 ⟨[(2,.ptr 0 0),(4,.any)],
  [(0,some (.box 28 [.sl 4 (a0.1.map Zs),.lit (.bool (Ze a0.2).s),Zd (Ze a0.2).l1,Zd (Ze a0.2).l2] false))],1⟩
section
variable {v5 : Int} {a1 : Int} {i_2 : Nat} {v4 : Int} {q5 : Rat} {q4 : Rat} {n : Nat} {a0 : Zf}
section
variable(C1:(i_2:Int)<(a0.1.length:Int))(E2:a0.1[i_2]?=some (v4,q4))
include C1 E2
theorem Zn9(C3:¬v4<0)(C4:¬a1≤v4)(C5:0<(i_2:Int))(W6:InI ((i_2:Int)-1))(E7:a0.1[i_2-1]?=some (v5,q5))(Z7:1≤i_2)(C8:¬v4≤v5)(B9a:H q4≤17179869184)(C10:¬sgR q4=0)(W12:InI ((i_2:Int)+1)):
  Zm 0 (exec Tryz.prog (tab n) 0 56 (Za 67) big Qk) (Za 67 2) (YT a0 a1 i_2) (YT a0 a1 (i_2+1)):=by
 have C1_:i_2<a0.1.length:=by omega
 obtain ⟨EL2,EG2⟩:=gEi E2
 have C5_:0<i_2:=by omega
 have W6_:IntKind.i64.wrap ((i_2:Int)-1)=(i_2:Int)-1:=Zp W6.1 W6.2
 obtain ⟨EL7,EG7⟩:=gEi E7
 have Z7_0:(1:Int)≤(i_2:Int):=by omega
 have K9:=ZN (p:=q4) B9a
 have C10_:(sgR q4==0)=false:=by simpa using C10
 have K11:=Jb (p:=q4) B9a
 have W12_:IntKind.i64.wrap ((i_2:Int)+1)=(i_2:Int)+1:=Zp W12.1 W12.2
 unfold Zm
 simp+decide [YT,Zb, Tryz.f67,Qk,C1,C1_,EG2,C3,C4,C5_,W6_,EL7,EG7,Z7_0,C8,K9,C10_,K11,W12_]
theorem ZqX(C3:¬v4<0)(C4:¬a1≤v4)(C5:¬0<(i_2:Int))(B6a:H q4≤17179869184)(C7:¬sgR q4=0)(W9:InI ((i_2:Int)+1)):
  Zm 0 (exec Tryz.prog (tab n) 0 56 (Za 67) big Qk) (Za 67 2) (YT a0 a1 i_2) (YT a0 a1 (i_2+1)):=by
 have C1_:i_2<a0.1.length:=by omega
 obtain ⟨EL2,EG2⟩:=gEi E2
 have C5_:¬0<i_2:=by omega
 have K6:=ZN (p:=q4) B6a
 have C7_:(sgR q4==0)=false:=by simpa using C7
 have K8:=Jb (p:=q4) B6a
 have W9_:IntKind.i64.wrap ((i_2:Int)+1)=(i_2:Int)+1:=Zp W9.1 W9.2
 unfold Zm
 simp+decide [YT,Zb, Tryz.f67,Qk,C1,C1_,EG2,C3,C4,C5_,K6,C7_,K8,W9_]
theorem Zhu(C3:v4<0):
  Zj 0 (exec Tryz.prog (tab n) 0 56 (Za 67) big Qk) (Za 67 (Zo 2)) (YT a0 a1 i_2) (.ret) (Xg a0):=by
 have C1_:i_2<a0.1.length:=by omega
 obtain ⟨EL2,EG2⟩:=gEi E2
 unfold Zj
 simp+decide [YT,Zb, Tryz.f67,Xg,Qk,C1,C1_,EG2,C3]
theorem ZgL(C3:¬v4<0)(C4:a1≤v4):
  Zj 0 (exec Tryz.prog (tab n) 0 56 (Za 67) big Qk) (Za 67 (Zo 2)) (YT a0 a1 i_2) (.ret) (Xg a0):=by
 have C1_:i_2<a0.1.length:=by omega
 obtain ⟨EL2,EG2⟩:=gEi E2
 unfold Zj
 simp+decide [YT,Zb, Tryz.f67,Xg,Qk,C1,C1_,EG2,C3,C4]
theorem Zpq(C3:¬v4<0)(C4:¬a1≤v4)(C5:0<(i_2:Int))(W6:InI ((i_2:Int)-1))(E7:a0.1[i_2-1]?=some (v5,q5))(Z7:1≤i_2)(C8:v4≤v5):
  Zj 0 (exec Tryz.prog (tab n) 0 56 (Za 67) big Qk) (Za 67 (Zo 2)) (YT a0 a1 i_2) (.ret) (Xg a0):=by
 have C1_:i_2<a0.1.length:=by omega
 obtain ⟨EL2,EG2⟩:=gEi E2
 have C5_:0<i_2:=by omega
 have W6_:IntKind.i64.wrap ((i_2:Int)-1)=(i_2:Int)-1:=Zp W6.1 W6.2
 obtain ⟨EL7,EG7⟩:=gEi E7
 have Z7_0:(1:Int)≤(i_2:Int):=by omega
 unfold Zj
 simp+decide [YT,Zb, Tryz.f67,Xg,Qk,C1,C1_,EG2,C3,C4,C5_,W6_,EL7,EG7,Z7_0,C8]
theorem ZpW(C3:¬v4<0)(C4:¬a1≤v4)(C5:0<(i_2:Int))(W6:InI ((i_2:Int)-1))(E7:a0.1[i_2-1]?=some (v5,q5))(Z7:1≤i_2)(C8:¬v4≤v5)(B9a:H q4≤17179869184)(C10:sgR q4=0):
  Zj 0 (exec Tryz.prog (tab n) 0 56 (Za 67) big Qk) (Za 67 (Zo 2)) (YT a0 a1 i_2) (.ret) (Xg a0):=by
 have C1_:i_2<a0.1.length:=by omega
 obtain ⟨EL2,EG2⟩:=gEi E2
 have C5_:0<i_2:=by omega
 have W6_:IntKind.i64.wrap ((i_2:Int)-1)=(i_2:Int)-1:=Zp W6.1 W6.2
 obtain ⟨EL7,EG7⟩:=gEi E7
 have Z7_0:(1:Int)≤(i_2:Int):=by omega
 have K9:=ZN (p:=q4) B9a
 have C10_:(sgR q4==0)=true:=by rw [C10];simp
 unfold Zj
 simp+decide [YT,Zb, Tryz.f67,Xg,Qk,C1,C1_,EG2,C3,C4,C5_,W6_,EL7,EG7,Z7_0,C8,K9,C10_]
theorem Zrj(C3:¬v4<0)(C4:¬a1≤v4)(C5:¬0<(i_2:Int))(B6a:H q4≤17179869184)(C7:sgR q4=0):
  Zj 0 (exec Tryz.prog (tab n) 0 56 (Za 67) big Qk) (Za 67 (Zo 2)) (YT a0 a1 i_2) (.ret) (Xg a0):=by
 have C1_:i_2<a0.1.length:=by omega
 obtain ⟨EL2,EG2⟩:=gEi E2
 have C5_:¬0<i_2:=by omega
 have K6:=ZN (p:=q4) B6a
 have C7_:(sgR q4==0)=true:=by rw [C7];simp
 unfold Zj
 simp+decide [YT,Zb, Tryz.f67,Xg,Qk,C1,C1_,EG2,C3,C4,C5_,K6,C7_]
end
theorem ZnP(C1:¬(i_2:Int)<(a0.1.length:Int)):
  Zj 0 (exec Tryz.prog (tab n) 0 56 (Za 67) big Qk) (Za 67 (Zo 2)) (YT a0 a1 i_2) (.exit 0) (Za1 a0):=by
 unfold Zj
 simp+decide [YT,Zb, Tryz.f67,Za1,Qk,C1]
theorem Zwt(L1:Zl Tryz.prog (tab n) 0 56 (Za 67) 2 Qk (YT a0 a1 0)=some (.ret,Xg a0)):
  run n 67 [Zc a0,.lit (.int .i64 a1)]=some (.lit (.bool false)):=by
 unfold run fnP
 simp+decide [Tryz.f67]
 rw [Zi (C':=Qk) (e:=(YT a0 a1 0)) ?_ ?_,L1]
 rotate_left
 ·kernel_rfl
 ·simp+decide [YT]
 simp+decide [Xg]
theorem ZwG(L1:Zl Tryz.prog (tab n) 0 56 (Za 67) 2 Qk (YT a0 a1 0)=some (.exit 0,Za1 a0))(B2a:H a0.2≤17179869184):
  run n 67 [Zc a0,.lit (.int .i64 a1)]=some (.lit (.bool true)):=by
 have K2:=Jb (p:=a0.2) B2a
 unfold run fnP
 simp+decide [Tryz.f67]
 rw [Zi (C':=Qk) (e:=(YT a0 a1 0)) ?_ ?_,L1]
 rotate_left
 ·kernel_rfl
 ·simp+decide [YT]
 simp+decide [Za1,K2]
end
section
attribute [local irreducible] run Zr Zl exec
theorem ZdT{n:Nat}{f:Zf}{vars:Int}(hB:BdF 17179869184 f):run n 67 [Zc f,.lit (.int .i64 vars)]=some (.lit (.bool (tv (OkFm f vars)))):=by
 have hl:=hB.l
 have L:=Xb (O:=tab n) (P:= Tryz.prog) (m:=0) (N:=56) (lives:=Za 67) (r:=2) (C:=Qk) (M:=f.1.length) (enc:=YT f vars) (p:=fun i=>tv (ZxL f.1 vars i)) (exN:=.exit 0) (exE:=.ret) (out:=Za1 f) (outE:=Xg f) (by omega) (by simp) (by simp)
  (fun i hi hI=>by
   have hx:f.1[i]?=some f.1[i]:=gEt hi
   generalize f.1[i]=t at hx
   obtain ⟨v,c⟩:=t
   have hc:H c≤17179869184:=hB.t _ (gMe hx)
   have C1:(i:Int)<(f.1.length:Int):=by omega
   have W:InI ((i:Int)+1):=⟨by omega,by omega⟩
   have W2:InI ((i:Int)-1):=⟨by omega,by omega⟩
   have hs:sgR c=0↔c=0:=Yl
   by_cases h0:0<i
   ·have hy:f.1[i-1]?=some (f.1[i-1]'(by omega)):=gEt _
    generalize f.1[i-1]'(by omega)=t at hy
    obtain ⟨v',c'⟩:=t
    refine ⟨fun hp=>?_,fun hp=>?_⟩
    ·obtain ⟨a1,a2,a3,a4⟩:=YS hp v c hx
     have a5:=a4 v' c' h0 hy
     exact Zn9 C1 hx (by omega) (by omega) (by omega) W2 hy (by omega) (by omega) hc (fun h=>a3 (hs.1 h)) W
    ·by_cases b1:v<0
     ·exact Zhu C1 hx b1
     ·by_cases b2:vars≤v
      ·exact ZgL C1 hx b1 b2
      ·by_cases b3:v≤v'
       ·exact Zpq C1 hx b1 b2 (by omega) W2 hy (by omega) b3
       ·by_cases b4:c=0
        ·exact ZpW C1 hx b1 b2 (by omega) W2 hy (by omega) b3 hc (hs.2 b4)
        ·refine absurd (fun u d hu=>?_) (Q3 hp)
         rw [hx] at hu;cases hu
         exact ⟨by omega,by omega,b4,fun v2 c2 _ h2=>by rw [hy] at h2;cases h2;omega⟩
   ·refine ⟨fun hp=>?_,fun hp=>?_⟩
    ·obtain ⟨a1,a2,a3,a4⟩:=YS hp v c hx
     exact ZqX C1 hx (by omega) (by omega) (by omega) hc (fun h=>a3 (hs.1 h)) W
    ·by_cases b1:v<0
     ·exact Zhu C1 hx b1
     ·by_cases b2:vars≤v
      ·exact ZgL C1 hx b1 b2
      ·by_cases b4:c=0
       ·exact Zrj C1 hx b1 b2 (by omega) hc (hs.2 b4)
       ·refine absurd (fun u d hu=>?_) (Q3 hp)
        rw [hx] at hu;cases hu
        exact ⟨by omega,by omega,b4,fun v2 c2 h2=>absurd h2 h0⟩)
  (ZnP (by omega))
 by_cases h:OkFm f vars
 ·rw [if_pos (fun i hi=>Xk (h i hi))] at L
  rw [Xk h]
  exact ZwG L hB.k
 ·rw [if_neg (fun h2=>h fun i hi=>YS (h2 i hi))] at L
  rw [XJ h]
  exact Zwt L
end
noncomputable def VH:Code:=(Zb (ZR Tryz.f45)).getD 0 .skip
def Wd(a0:Zf)(a1:Int)(i_2:Nat):St:=
 ⟨[(1,.lit (.int .i64 a1)),(4,.ptr 0 0),(8,.sl 4 (a0.1.map Zs)),(9,.lit (.int .i64 (a0.1.length:Int))),(10,.lit (.int .i64 (i_2:Int)))],
  [(0,some (.box 26 [.lit (.bool false),.nl 1,.nl 1] false))],1⟩
def Zbq(r3:Rat):St:=
 ⟨[(4,.ptr 0 0)],
  [(0,some (.box 26 [.lit (.bool (Ze r3).s),Zd (Ze r3).l1,Zd (Ze r3).l2] false))],1⟩
def Za8:St:=
 ⟨[(4,.ptr 0 0)],
  [(0,some (.box 26 [.lit (.bool false),.nl 1,.nl 1] false))],1⟩
section
variable {a1 : Int} {v3 : Int} {i_2 : Nat} {q3 : Rat} {n : Nat} {a0 : Zf} {r3 : Rat}
theorem Zrq(C1:(i_2:Int)<(a0.1.length:Int))(E2:a0.1[i_2]?=some (v3,q3))(C3:¬v3=a1)(W4:InI ((i_2:Int)+1)):
  Zm 0 (exec Tryz.prog (tab (n+3)) 0 23 (Za 45) big VH) (Za 45 2) (Wd a0 a1 i_2) (Wd a0 a1 (i_2+1)):=by
 have C1_:i_2<a0.1.length:=by omega
 obtain ⟨EL2,EG2⟩:=gEi E2
 have C3_:(v3==a1)=false:=by simpa using C3
 have C3_n:(v3 !=a1)=true:=by simpa using C3
 have W4_:IntKind.i64.wrap ((i_2:Int)+1)=(i_2:Int)+1:=Zp W4.1 W4.2
 unfold Zm
 simp+decide [Wd,Zb, Tryz.f45,VH,C1,C1_,EL2,EG2,E2,C3_,C3_n,W4_]
theorem Zop(C1:(i_2:Int)<(a0.1.length:Int))(E2:a0.1[i_2]?=some (v3,q3))(C3:v3=a1)(K4:run (n+2) 83 [Zk q3]=some (Zk r3)):
  Zj 0 (exec Tryz.prog (tab (n+3)) 0 23 (Za 45) big VH) (Za 45 (Zo 2)) (Wd a0 a1 i_2) (.ret) (Zbq r3):=by
 have C1_:i_2<a0.1.length:=by omega
 obtain ⟨EL2,EG2⟩:=gEi E2
 have C3_:(v3==a1)=true:=by rw [C3];simp
 have C3_n:(v3 !=a1)=false:=by rw [C3];simp
 simp only [Zk] at K4
 unfold Zj
 simp+decide [Wd,Zb, Tryz.f45,Zbq,VH,C1,C1_,EL2,EG2,E2,C3_,C3_n,K4]
theorem Znr(C1:¬(i_2:Int)<(a0.1.length:Int)):
  Zj 0 (exec Tryz.prog (tab (n+3)) 0 23 (Za 45) big VH) (Za 45 (Zo 2)) (Wd a0 a1 i_2) (.exit 0) (Za8):=by
 have C1_:¬i_2<a0.1.length:=by omega
 unfold Zj
 simp+decide [Wd,Zb, Tryz.f45,Za8,VH,C1,C1_]
theorem Zv3(L1:Zl Tryz.prog (tab (n+3)) 0 23 (Za 45) 2 VH (Wd a0 a1 0)=some (.ret,Zbq r3)):
  run (n+3) 45 [Zc a0,.lit (.int .i64 a1)]=some (Zk r3):=by
 unfold run fnP
 simp+decide [Tryz.f45]
 rw [Zi (C':=VH) (e:=(Wd a0 a1 0)) ?_ ?_,L1]
 rotate_left
 ·kernel_rfl
 ·simp+decide [Wd]
 simp+decide [Zbq]
theorem Zwp(L1:Zl Tryz.prog (tab (n+3)) 0 23 (Za 45) 2 VH (Wd a0 a1 0)=some (.exit 0,Za8)):
  run (n+3) 45 [Zc a0,.lit (.int .i64 a1)]=some (.agg [.lit (.bool false),.sl 1 [],.sl 1 []]):=by
 unfold run fnP
 simp+decide [Tryz.f45]
 rw [Zi (C':=VH) (e:=(Wd a0 a1 0)) ?_ ?_,L1]
 rotate_left
 ·kernel_rfl
 ·simp+decide [Wd]
 simp+decide [Za8]
end
theorem ZvA{n:Nat}{a0:Rat}{r:List Nat}{r2:List Nat}(K1:(oN1 (fun _=>true) fun x=>Zd (lmb (val x))) [Zd (Ze a0).l1]=some (Zd r))(K2:(oN1 (fun _=>true) fun x=>Zd (lmb (val x))) [Zd (Ze a0).l2]=some (Zd r2)):
  run (n+2) 83 [Zk a0]=some (.agg [.lit (.bool (Ze a0).s),Zd r,Zd r2]):=by
 unfold run fnP
 simp+decide [Tryz.f83,K1,K2]
noncomputable def VJ:Code:=(Zb (ZR Tryz.f22)).getD 0 .skip
def Wk(a0:Zf)(a1:Int)(i_2:Nat):St:=
 ⟨[(1,.lit (.int .i64 a1)),(2,.ptr 0 0),(4,.ptr 1 0),(5,.lit (.int .i64 (i_2:Int)))],
  [(0,some (.box 28 [.sl 4 (a0.1.map Zs),.lit (.bool (Ze a0.2).s),Zd (Ze a0.2).l1,Zd (Ze a0.2).l2] false)),
   (1,some (.box 26 [.lit (.bool false),.nl 1,.nl 1] false))],2⟩
def Zay(q3:Rat):St:=
 ⟨[(4,.ptr 0 0)],
  [(0,some (.box 26 [.lit (.bool (Ze q3).s),Zd (Ze q3).l1,Zd (Ze q3).l2] false))],1⟩
def Zaw:St:=
 ⟨[(4,.ptr 0 0)],
  [(0,some (.box 26 [.lit (.bool false),.nl 1,.nl 1] false))],1⟩
section
variable {a1 : Int} {v3 : Int} {i_2 : Nat} {q3 : Rat} {n : Nat} {a0 : Zf}
theorem Zoo(C1:(i_2:Int)<(a0.1.length:Int))(E2:a0.1[i_2]?=some (v3,q3))(C3:¬v3=a1)(W4:InI ((i_2:Int)+1)):
  Zm 0 (exec Tryz.prog (tab n) 0 28 (Za 22) big VJ) (Za 22 2) (Wk a0 a1 i_2) (Wk a0 a1 (i_2+1)):=by
 have C1_:i_2<a0.1.length:=by omega
 obtain ⟨EL2,EG2⟩:=gEi E2
 have C3_:(v3==a1)=false:=by simpa using C3
 have C3_n:(v3 !=a1)=true:=by simpa using C3
 have W4_:IntKind.i64.wrap ((i_2:Int)+1)=(i_2:Int)+1:=Zp W4.1 W4.2
 unfold Zm
 simp+decide [Wk,Zb, Tryz.f22,VJ,C1,C1_,EL2,EG2,E2,C3_,C3_n,W4_]
theorem Zp5(C1:(i_2:Int)<(a0.1.length:Int))(E2:a0.1[i_2]?=some (v3,q3))(C3:v3=a1):
  Zj 0 (exec Tryz.prog (tab n) 0 28 (Za 22) big VJ) (Za 22 (Zo 2)) (Wk a0 a1 i_2) (.ret) (Zay q3):=by
 have C1_:i_2<a0.1.length:=by omega
 obtain ⟨EL2,EG2⟩:=gEi E2
 have C3_:(v3==a1)=true:=by rw [C3];simp
 have C3_n:(v3 !=a1)=false:=by rw [C3];simp
 unfold Zj
 simp+decide [Wk,Zb, Tryz.f22,Zay,VJ,C1,C1_,EL2,EG2,E2,C3_,C3_n]
theorem Zqh(C1:¬(i_2:Int)<(a0.1.length:Int)):
  Zj 0 (exec Tryz.prog (tab n) 0 28 (Za 22) big VJ) (Za 22 (Zo 2)) (Wk a0 a1 i_2) (.exit 0) (Zaw):=by
 have C1_:¬i_2<a0.1.length:=by omega
 unfold Zj
 simp+decide [Wk,Zb, Tryz.f22,Zaw,VJ,C1,C1_]
theorem ZwS(L1:Zl Tryz.prog (tab n) 0 28 (Za 22) 2 VJ (Wk a0 a1 0)=some (.ret,Zay q3)):
  run n 22 [Zc a0,.lit (.int .i64 a1)]=some (Zk q3):=by
 unfold run fnP
 simp+decide [Tryz.f22]
 rw [Zi (C':=VJ) (e:=(Wk a0 a1 0)) ?_ ?_,L1]
 rotate_left
 ·kernel_rfl
 ·simp+decide [Wk]
 simp+decide [Zay]
theorem Zxl(L1:Zl Tryz.prog (tab n) 0 28 (Za 22) 2 VJ (Wk a0 a1 0)=some (.exit 0,Zaw)):
  run n 22 [Zc a0,.lit (.int .i64 a1)]=some (.agg [.lit (.bool false),.sl 1 [],.sl 1 []]):=by
 unfold run fnP
 simp+decide [Tryz.f22]
 rw [Zi (C':=VJ) (e:=(Wk a0 a1 0)) ?_ ?_,L1]
 rotate_left
 ·kernel_rfl
 ·simp+decide [Wk]
 simp+decide [Zaw]
end
theorem ZwW{n:Nat}{a0:Zf}{a1:Zf}{r:Zf}{r2:Zf}(K2:run (n+2) 41 [Zc a1,Zk (ofQ (-1))]=some (Zc r))(K3:run (n+2) 50 [Zc a0,Zc r]=some (Zc r2)):
  run (n+3) 61 [Zc a0,Zc a1]=some (Zc r2):=by
 have K1:=YD (z:=(-1)) (by omega) (by omega)
 simp only [Zk,Zc] at K2
 simp only [Zc] at K3
 unfold run fnP
 simp+decide [Tryz.f61,K1,K2,K3]
section
attribute [local irreducible] run Zr Zl exec
theorem Zg5{q:Rat}(hq:H q≤17179869184):(oN1 (fun _=>true) fun x=>Zd (lmb (val x))) [Zd (Ze q).l1]=some (Zd (Ze q).l1)∧(oN1 (fun _=>true) fun x=>Zd (lmb (val x))) [Zd (Ze q).l2]=some (Zd (Ze q).l2):=by
 have hb:=ZbZ hq
 have e1:lmb (val (Ze q).l1)=(Ze q).l1:=by unfold Ze;dsimp only;rw [Zg]
 have e2:lmb (val (Ze q).l2)=(Ze q).l2:=by
  unfold Ze QX
  dsimp only
  split
  ·decide+kernel
  ·rw [Zg]
 have f1:XF (Ze q).l1=true:=Nat.ble_eq_true_of_le (by have:=hb.bn;omega)
 have f2:XF (Ze q).l2=true:=Nat.ble_eq_true_of_le (by have:=hb.bd;omega)
 constructor
 ·simp only [oN1,Qe hb.n,f1,Bool.and_true,if_true,e1]
 ·simp only [oN1,Qe hb.d,f2,Bool.and_true,if_true,e2]
theorem Zzs{n:Nat}{q:Rat}(hq:H q≤17179869184):run (n+2) 83 [Zk q]=some (Zk q):=ZvA (Zg5 hq).1 (Zg5 hq).2
def Zbc(v:Int)(_:Nat)(_:Unit)(t:Int × Rat):Except Rat Unit:=if t.1=v then .error t.2 else .ok ()
theorem Zdc{v:Int}:∀{l:List (Int × Rat)} (i:Nat),XO (Zbc v) i () l=(match XO (Zbc v) i () l with|.ok _=>.ok ()|.error _=>.error (cof l v))∧((∃u,XO (Zbc v) i () l=.ok u)→cof l v=0)
 | [],i=>⟨rfl,fun _=>rfl⟩
 | t::l,i=>by
   obtain ⟨h1,h2⟩:=Zdc (v:=v) (l:=l) (i+1)
   by_cases e:t.1=v
   ·have e1:Zbc v i () t=.error t.2:=if_pos e
    have e2:XO (Zbc v) i () (t::l)=.error t.2:=by rw [XO,e1]
    rw [e2]
    exact ⟨by rw [cof,if_pos e],fun ⟨u,h⟩=>by cases h⟩
   ·have e1:Zbc v i () t=.ok ():=if_neg e
    have e2:XO (Zbc v) i () (t::l)=XO (Zbc v) (i+1) () l:=by rw [XO,e1]
    have e3:cof (t::l) v=cof l v:=by rw [cof,if_neg e]
    rw [e2,e3]
    exact ⟨h1,h2⟩
theorem Zj3{n:Nat}{f:Zf}{v:Int}(hB:BdF 17179869184 f):run (n+3) 45 [Zc f,.lit (.int .i64 v)]=some (Zk (cof f.1 v)):=by
 have hl:=hB.l
 have L:=Ze7 (O:=tab (n+3)) (P:= Tryz.prog) (m:=0) (N:=23) (lives:=Za 45) (r:=2) (C:=VH) (L:=f.1) (f:=Zbc v) (enc:=fun i _=>Wd f v i) (exN:=.exit 0) (exE:=.ret) (out:=fun _=>Za8) (outE:=Zbq) (Inv:=fun _ _=>True) () trivial (by omega) (fun h=>by cases h) (fun h=>by cases h)
  (fun i t s hi hI=>by
   obtain ⟨u,c⟩:=t
   have hlt:=(gEi hi).1
   unfold Zbc
   by_cases e:u=v
   ·rw [if_pos e]
    exact Zop (by omega) hi e (Zzs (hB.t _ (gMe hi)))
   ·rw [if_neg e]
    exact ⟨Zrq (by omega) hi e ⟨by omega,by omega⟩,trivial⟩)
  (fun b hI=>Znr (by omega))
 obtain ⟨h1,h2⟩:=Zdc (v:=v) (l:=f.1) 0
 have L:=L.1
 cases hE:XO (Zbc v) 0 () f.1 with
 | ok s=>
   rw [hE] at L
   rw [h2 ⟨s,hE⟩]
   have h:=Zwp (a1:=v) L
   simpa using h
 | error s=>
   rw [hE] at L h1
   cases h1
   exact Zv3 L
theorem ZeM{n:Nat}{f:Zf}{v:Int}(hl:f.1.length≤100000000):run n 22 [Zc f,.lit (.int .i64 v)]=some (Zk (cof f.1 v)):=by
 have L:=Ze7 (O:=tab n) (P:= Tryz.prog) (m:=0) (N:=28) (lives:=Za 22) (r:=2) (C:=VJ) (L:=f.1) (f:=Zbc v) (enc:=fun i _=>Wk f v i) (exN:=.exit 0) (exE:=.ret) (out:=fun _=>Zaw) (outE:=Zay) (Inv:=fun _ _=>True) () trivial (by omega) (fun h=>by cases h) (fun h=>by cases h)
  (fun i t s hi hI=>by
   obtain ⟨u,c⟩:=t
   have hlt:=(gEi hi).1
   unfold Zbc
   by_cases e:u=v
   ·rw [if_pos e]
    exact Zp5 (by omega) hi e
   ·rw [if_neg e]
    exact ⟨Zoo (by omega) hi e ⟨by omega,by omega⟩,trivial⟩)
  (fun b hI=>Zqh (by omega))
 obtain ⟨h1,h2⟩:=Zdc (v:=v) (l:=f.1) 0
 have L:=L.1
 cases hE:XO (Zbc v) 0 () f.1 with
 | ok s=>
   rw [hE] at L
   rw [h2 ⟨s,hE⟩]
   have h:=Zxl (a1:=v) L
   simpa using h
 | error s=>
   rw [hE] at L h1
   cases h1
   exact ZwS L
theorem QL{α β:Type}(g:β→α→β):∀(L:List α) (i:Nat) (b:β),VQ (fun _ b x=>g b x) i b L=L.foldl g b
 | [],_,_=>rfl
 | x::L,i,b=>by rw [VQ,QL g L];rfl
theorem ZvR{f:Zf}{vars:Int}(hs:Srt f.1)(hv:∀t∈f.1,0≤t.1∧t.1<vars):OkFm f vars:=fun i hi v c hx=>by
 obtain ⟨hlt,he⟩:=gEi hx
 have hm:=gMe hx
 refine ⟨(hv _ hm).1,(hv _ hm).2,hs.2 _ hm,fun v' c' h0 hy=>?_⟩
 obtain ⟨hlt2,he2⟩:=gEi hy
 have:=(List.pairwise_iff_getElem.1 hs.1) (i-1) i hlt2 hlt (by omega)
 rw [he,he2] at this
 exact this
theorem FB.ok{m:Nat}{f:Zf}(h:FB m f){vars:Int}(hv:1099511627776≤vars):OkFm f vars:=ZvR h.s fun t ht=>⟨(h.v t ht).1,by have:=(h.v t ht).2;omega⟩
theorem Zac(F:List (Int × Rat))(c:Rat):(Yh F c).length≤F.length:=by
 induction F with
 | nil=>exact Nat.le_refl _
 | cons t F ih=>
   have e:Yh (t::F) c=Ya t.1 (t.2*c)++Yh F c:=rfl
   have h1:(Ya t.1 (t.2*c)).length≤1:=by unfold Ya;split <;>simp
   rw [e,List.length_append,List.length_cons]
   omega
theorem FB.inr{m:Nat}{f:Zf}(h:FB m f):InR 1099511627776 f.1:=fun t ht=>⟨(h.v t ht).1,by have:=(h.v t ht).2;omega⟩
theorem FB.scl{m k:Nat}{f:Zf}{c:Rat}(h:FB m f)(hc:H c≤k):FB (m+k) (Yh f.1 c,f.2*c):=by
 refine ⟨(YP h.s).1,⟨FH.scl h.h.1 hc,?_⟩,Nat.le_trans (Zac _ _) h.l,fun t ht=>?_⟩
 ·have a:=Kk f.2 c
  have b:=h.h.2
  show H (f.2*c)≤_
  omega
 ·have:=InR.scl (c:=c) h.inr t ht
  exact ⟨this.1,by have:=this.2;omega⟩
structure RB (m:Nat) (R:List Zf):Prop where
 r:∀f∈R,FB m f∧f.1.length≤50
 n:R.length≤2500
theorem FB.comb{m:Nat}{v:Int}{f g:Zf}(hf:FB m f)(hg:FB m g)(lf:f.1.length≤50)(lg:g.1.length≤50)(h1:1≤m):FB (4*m+1) (YC v f g):=by
 refine ⟨(WX hf.s hg.s).1,FH.comb hf.s hg.s hf.h hg.h h1,?_,fun t ht=>?_⟩
 ·have a:=ZgD (Yh g.1 (cof f.1 v)) (Yh f.1 (-cof g.1 v))
  have b:=Zac g.1 (cof f.1 v)
  have c:=Zac f.1 (-cof g.1 v)
  show (Wp (Yh f.1 (-cof g.1 v)) (Yh g.1 (cof f.1 v))).length≤100
  omega
 ·have:=InR.add (InR.scl (c:=-cof g.1 v) hf.inr) (InR.scl (c:=cof f.1 v) hg.inr) t ht
  exact ⟨this.1,by have:=this.2;omega⟩
def Bds(L:List Zf):Prop:=∀g∈L,BdF 17179869184 g
theorem Bds.nil:Bds []:=fun g hg=>by cases hg
theorem Bds.col{m:Nat}{L:List Zf}{f:Zf}(hL:Bds L)(h:FB m f)(h1:1≤m)(hm:m≤5000):Bds (ZU L f):=fun g hg=>by
 unfold ZU at hg
 split at hg
 ·exact hL g hg
 split at hg
 ·exact hL g hg
 ·rcases List.mem_append.1 hg with h2|h2
  ·exact hL g h2
  ·rw [List.mem_singleton.1 h2]
   exact (h.norm h1).bd (by omega)
def stE(v:Int)(b:List Zf × List Zf × List Zf)(f:Zf):List Zf × List Zf × List Zf:=
 if cof f.1 v=0 then (ZU b.1 f,b.2.1,b.2.2) else if 0<cof f.1 v then (b.1,b.2.1++[f],b.2.2) else (b.1,b.2.1,b.2.2++[f])
theorem KM(v:Int):∀(R:List Zf) (o u d:List Zf),R.foldl (stE v) (o,u,d)=((Q6 v R).foldl ZU o,u++upL v R,d++Q0 v R)
 | [],o,u,d=>by simp [Q6,upL,Q0]
 | f::R,o,u,d=>by
   rw [List.foldl_cons]
   by_cases h0:cof f.1 v=0
   ·have e:stE v (o,u,d) f=(ZU o f,u,d):=if_pos h0
    rw [e,KM v R,ZbQ h0,Zbu (by rw [h0];decide),Um (by rw [h0];decide)];rfl
   ·rw [Jj h0]
    by_cases h1:0<cof f.1 v
    ·have e:stE v (o,u,d) f=(o,u++[f],d):=by unfold stE;rw [if_neg h0,if_pos h1]
     rw [e,KM v R,Zfx h1,Um (by grind)];simp
    ·have e:stE v (o,u,d) f=(o,u,d++[f]):=by unfold stE;rw [if_neg h0,if_neg h1]
     rw [e,KM v R,Zbu h1,ZbE (by grind)];simp
theorem Zez(v:Int)(R:List Zf):(upL v R).foldl (fun b f=>(Q0 v R).foldl (fun b g=>ZU b (YC v f g)) b) ((Q6 v R).foldl ZU [])=Qh v R:=by
 unfold Qh Zck
 rw [List.foldl_append]
 generalize (Q6 v R).foldl ZU []=b
 generalize upL v R=U
 induction U generalizing b with
 | nil=>rfl
 | cons f U ih=>rw [List.foldl_cons,List.flatMap_cons,List.foldl_append,ih,List.foldl_map]
section
variable {n m : Nat} {R : List Zf} {v : Int}
theorem ZiS{vars:Int}(hB:Bds R)(hl:R.length≤100000):run (n+1) 44 [.sl 4 (R.map Zh),.lit (.int .i64 vars)]=some (.lit (.bool (tv (∀f∈R,OkFm f vars)))):=by
 have X:=Xb (O:=tab (n+1)) (P:= Tryz.prog) (m:=0) (N:=18) (lives:=Za 44) (r:=2) (C:=VD) (M:=R.length) (enc:=fun i=>Wa R vars i) (p:=fun i=>tv (∀f,R[i]?=some f→OkFm f vars)) (exN:=.exit 0) (exE:=.ret) (out:=Zaz) (outE:=ZaC) (by omega) (by simp) (by simp)
  (fun i hi _=>by
   have hx:R[i]?=some R[i]:=gEt hi
   obtain ⟨g,hg⟩:∃g,R[i]=g:=⟨_,rfl⟩
   rw [hg] at hx
   obtain ⟨G,q⟩:=g
   have K:=ZdT (n:=n) (vars:=vars) (hB _ (gMe hx))
   refine ⟨fun hp=>Znt (by omega) hx K (Xk (YS hp _ hx)) ⟨by omega,by omega⟩,fun hp=>ZpC (by omega) hx K (XJ fun h9=>Q3 hp fun f hf=>?_)⟩
   rw [hx] at hf;cases hf
   exact h9)
  (ZpT (by omega))
 by_cases h:∀f∈R,OkFm f vars
 ·rw [if_pos (fun i hi=>Xk fun f hf=>h f (gMe hf))] at X
  rw [Xk h]
  exact Zxy X
 ·rw [if_neg (fun h2=>h fun f hf=>by
   obtain ⟨i,hi⟩:=List.mem_iff_getElem?.1 hf
   exact YS (h2 i (gEi hi).1) f hi)] at X
  rw [XJ h]
  exact Zx7 X
theorem ZgI(hR:RB m R):(∀f∈upL v R,FB m f∧f.1.length≤50)∧(∀f∈Q0 v R,FB m f∧f.1.length≤50)∧(upL v R).length≤2500∧(Q0 v R).length≤2500:=by
 have:=ZcN v R
 have:=hR.n
 exact ⟨fun f hf=>hR.r f (List.mem_filter.1 hf).1,fun f hf=>hR.r f (List.mem_filter.1 hf).1,by omega,by omega⟩
theorem Zxs{f g:Zf}(hf:FB m f)(hg:FB m g)(lf:f.1.length≤50)(lg:g.1.length≤50)(h1:1≤m)(hm:m≤1200):
  ∃r s:Zf,run (n+8) 37 [Zc f,Zk (-cof g.1 v)]=some (Zc r)∧run (n+8) 37 [Zc g,Zk (cof f.1 v)]=some (Zc s)∧run (n+8) 48 [Zc r,Zc s]=some (Zc (YC v f g)):=by
 have c1:H (-cof g.1 v)≤m:=by rw [Zbb];exact Zbj h1 hg.h.1
 have c2:H (cof f.1 v)≤m:=Zbj h1 hf.h.1
 have r1:=hf.scl c1
 have r2:=hg.scl c2
 have K1:=Zf1 (n:=n+6) (f:=f) (c:=-cof g.1 v) (b:=m) hf.h.1 (by omega) (by have:=hf.h.2;omega) (by omega) (by omega)
 have K2:=Zf1 (n:=n+6) (f:=g) (c:=cof f.1 v) (b:=m) hg.h.1 (by omega) (by have:=hg.h.2;omega) (by omega) (by omega)
 rw [Uq] at K1 K2
 have K3:=Zv1 (n:=n+6) (b:=m+m) r1.h.1 r2.h.1 (by omega) (by have:=r1.h.2;omega) (by have:=r2.h.2;omega) (by have:=r1.l;omega) (by have:=r2.l;omega)
 rw [ZeC r1.s r2.s,ZtF r2.s] at K3
 exact ⟨_,_,K1,K2,K3⟩
theorem ZvD{f g:Zf}(hf:FB m f)(hg:FB m g)(lf:f.1.length≤50)(lg:g.1.length≤50)(h1:1≤m)(hm:m≤1200):
  ∃r s:Zf,run (n+8) 41 [Zc f,Zk (-cof g.1 v)]=some (Zc r)∧run (n+8) 41 [Zc g,Zk (cof f.1 v)]=some (Zc s)∧run (n+8) 50 [Zc r,Zc s]=some (Zc (YC v f g)):=by
 have c1:H (-cof g.1 v)≤m:=by rw [Zbb];exact Zbj h1 hg.h.1
 have c2:H (cof f.1 v)≤m:=Zbj h1 hf.h.1
 have r1:=hf.scl c1
 have r2:=hg.scl c2
 have K1:=ZaG (n:=n+7) (f:=f) (c:=-cof g.1 v) (hf.mono (k:=1000000) (by omega)).tm (by omega) (by have:=hf.h.2;omega) (by omega)
 have K2:=ZaG (n:=n+7) (f:=g) (c:=cof f.1 v) (hg.mono (k:=1000000) (by omega)).tm (by omega) (by have:=hg.h.2;omega) (by omega)
 have hl1:(Yh f.1 (-cof g.1 v)).length≤50:=Nat.le_trans (Zac _ _) lf
 have hl2:(Yh g.1 (cof f.1 v)).length≤50:=Nat.le_trans (Zac _ _) lg
 have K3:=ZuW (n:=n+6) (m:=2400) (b:=2400) (r2.mono (by omega)).tm (by dsimp only;omega) (r1.mono (by omega)).tm (by dsimp only;omega) (by
  dsimp only
  have:(2400+1)*((Yh g.1 (cof f.1 v)).length+1)≤(2400+1)*51:=Nat.mul_le_mul_left _ (by omega)
  omega) (by have:=r1.h.2;omega) (by have:=r2.h.2;omega)
 exact ⟨_,_,K1,K2,K3⟩
theorem ZtX{up down o:List Zf}{f:Zf}{i0:Nat}(hf:FB m f∧f.1.length≤50)(hd:∀g∈down,FB m g∧g.1.length≤50)(hdl:down.length≤2500)(h1:1≤m)(hm:m≤1200)(ho:Vpos o)(hol:o.length≤7000000):
  Zl Tryz.prog (tab (n+9)) 0 93 (Za 17) 20 WH (Q8 v down up i0 0 o (Qz o) f.1 f.2 (cof f.1 v))=some (.exit 5,Uv v down up i0 (down.foldl (fun b g=>ZU b (YC v f g)) o) (Qz (down.foldl (fun b g=>ZU b (YC v f g)) o)))∧(Vpos (down.foldl (fun b g=>ZU b (YC v f g)) o)∧(down.foldl (fun b g=>ZU b (YC v f g)) o).length≤o.length+down.length):=by
 have X:=Wg (O:=tab (n+9)) (P:= Tryz.prog) (m:=0) (N:=93) (lives:=Za 17) (r:=20) (C:=WH) (exN:=.exit 5) (L:=down) (enc:=fun i b=>Q8 v down up i0 i b (Qz b) f.1 f.2 (cof f.1 v)) (f:=fun _ b (g:Zf)=>ZU b (YC v f g)) (Inv:=fun i b=>Vpos b∧b.length≤o.length+i) (out:=fun b=>Uv v down up i0 b (Qz b)) o ⟨ho,by omega⟩ (by omega) (by simp)
  (fun i g b hi hI=>by
   obtain ⟨hI1,hI2⟩:=hI
   have hlt:=(gEi hi).1
   obtain ⟨hg,lg⟩:=hd g (gMe hi)
   obtain ⟨r,s,K1,K2,K3⟩:=Zxs (n:=n) (v:=v) hf.1 hg hf.2 lg h1 hm
   have hc:=FB.comb (v:=v) hf.1 hg hf.2 lg h1
   have Kc:=Zj3 (n:=n+5) (v:=v) (hg.bd (k:=17179869184) (by omega))
   have hcH:H (cof g.1 v)≤17179869184:=Nat.le_trans (Zbj h1 hg.h.1) (by omega)
   have hln:=UZ b (YC v f g)
   refine ⟨?_,hI1.col hc,by omega⟩
   rcases ZiV (n:=n) hc (by omega) (by omega) hI1 (by omega) with ⟨e,K⟩|K
   ·rw [e]
    exact ZlK (by omega) hlt hi Kc hcH K1 K2 K3 K ⟨by omega,by omega⟩
   ·exact ZlG (by omega) hlt hi Kc hcH K1 K2 K3 K ⟨by omega,by omega⟩)
  (fun b hI=>ZlO (by omega))
 rw [QL] at X
 exact X
theorem Zt7{up down o:List Zf}(hu:∀g∈up,FB m g∧g.1.length≤50)(hul:up.length≤2500)(hd:∀g∈down,FB m g∧g.1.length≤50)(hdl:down.length≤2500)(h1:1≤m)(hm:m≤1200)(ho:Vpos o)(hol:o.length≤2500):
  Zl Tryz.prog (tab (n+9)) 0 93 (Za 17) 16 Xy (WG v down up 0 o (Qz o))=some (.exit 3,Ux (up.foldl (fun b f=>down.foldl (fun b g=>ZU b (YC v f g)) b) o) (Qz (up.foldl (fun b f=>down.foldl (fun b g=>ZU b (YC v f g)) b) o))):=by
 have X:=Wg (O:=tab (n+9)) (P:= Tryz.prog) (m:=0) (N:=93) (lives:=Za 17) (r:=16) (C:=Xy) (exN:=.exit 3) (L:=up) (enc:=fun i b=>WG v down up i b (Qz b)) (f:=fun _ b (f:Zf)=>down.foldl (fun b g=>ZU b (YC v f g)) b) (Inv:=fun i b=>Vpos b∧b.length≤2500+i*2500) (out:=fun b=>Ux b (Qz b)) o ⟨ho,by omega⟩ (by omega) (by simp)
  (fun i f b hi hI=>by
   obtain ⟨hI1,hI2⟩:=hI
   have hlt:=(gEi hi).1
   have hf:=hu f (gMe hi)
   have Kc:=Zj3 (n:=n+5) (v:=v) (hf.1.bd (k:=17179869184) (by omega))
   obtain ⟨L5,a1,a2⟩:=ZtX (n:=n) (v:=v) (up:=up) (i0:=i) hf hd hdl h1 hm hI1 (by omega)
   exact ⟨Zmg (by omega) hlt hi Kc L5 ⟨by omega,by omega⟩,a1,by omega⟩)
  (fun b hI=>ZkJ (by omega))
 rw [QL] at X
 exact X.1
theorem ZtL(hR:RB m R)(h1:1≤m)(hm:m≤1200):
  Zl Tryz.prog (tab (n+9)) 0 93 (Za 17) 6 X6 (QE R v [] [] 0 [] [])=some (.exit 0,KZ v (upL v R) (Q0 v R) ((Q6 v R).foldl ZU []) (Qz ((Q6 v R).foldl ZU [])))∧Vpos ((Q6 v R).foldl ZU [])∧((Q6 v R).foldl ZU []).length≤2500:=by
 have hn:=hR.n
 have X:=Wg (O:=tab (n+9)) (P:= Tryz.prog) (m:=0) (N:=93) (lives:=Za 17) (r:=6) (C:=X6) (exN:=.exit 0) (L:=R) (enc:=fun i (b:List Zf × List Zf × List Zf)=>QE R v b.2.1 b.2.2 i b.1 (Qz b.1)) (f:=fun _ b f=>stE v b f) (Inv:=fun i b=>Vpos b.1∧b.1.length≤i∧b.2.1.length≤i∧b.2.2.length≤i) (out:=fun b=>KZ v b.2.1 b.2.2 b.1 (Qz b.1)) ([],[],[]) ⟨Vpos.nil,by simp,by simp,by simp⟩ (by omega) (by simp)
  (fun i f b hi hI=>by
   obtain ⟨o,u,d⟩:=b
   obtain ⟨hI1,hI2,hI3,hI4⟩:=hI
   dsimp only at hI1 hI2 hI3 hI4
   have hlt:=(gEi hi).1
   obtain ⟨hf,lf⟩:=hR.r f (gMe hi)
   have Kc:=Zj3 (n:=n+5) (v:=v) (hf.bd (k:=17179869184) (by omega))
   have hcH:H (cof f.1 v)≤17179869184:=Nat.le_trans (Zbj h1 hf.h.1) (by omega)
   have hln:=UZ o f
   unfold stE
   dsimp only
   rcases YH (cof f.1 v) with ⟨c1,c2⟩|⟨c1,c2⟩|⟨c1,c2⟩
   ·rw [if_neg (by grind),if_pos c1]
    exact ⟨ZoI (by omega) hi Kc hcH (by omega) c2 (by omega) ⟨by omega,by omega⟩,hI1,by dsimp only;omega,by simp;omega,by dsimp only;omega⟩
   ·rw [if_neg (by grind),if_neg (by grind)]
    exact ⟨Zn0 (by omega) hi Kc hcH (by omega) (by omega) (by omega) ⟨by omega,by omega⟩,hI1,by dsimp only;omega,by dsimp only;omega,by simp;omega⟩
   ·rw [if_pos c1]
    refine ⟨?_,hI1.col hf,by dsimp only;omega,by dsimp only;omega,by dsimp only;omega⟩
    rcases ZiV (n:=n) hf h1 (by omega) hI1 (by omega) with ⟨e,K⟩|K
    ·rw [e]
     exact ZnM (by omega) hi Kc hcH c2 K ⟨by omega,by omega⟩
    ·exact Zna (by omega) hi Kc hcH c2 K ⟨by omega,by omega⟩)
  (fun b hI=>Zpv (by omega))
 rw [QL,KM] at X
 obtain ⟨X1,X2,X3,_⟩:=X
 simp only [List.nil_append] at X1
 exact ⟨X1,X2,by dsimp only at X3;omega⟩
theorem RB.bds(hR:RB m R)(hm:m≤1200):Bds R:=fun f hf=>(hR.r f hf).1.bd (by omega)
theorem Zx3(hR:RB m R)(h1:1≤m)(hm:m≤1200)(hv:0≤v)(he:(Qh v R).length≤4096):
  run (n+9) 17 [.sl 4 (R.map Zh),.lit (.int .i64 v)]=some (.tup [.sl 4 ((Qh v R).map Zh),.lit (.int .i64 0)]):=by
 have K2:=ZiS (n:=n+7) (vars:=4611686018427387904) (hR.bds hm) (by have:=hR.n;omega)
 obtain ⟨L4,a1,a2⟩:=ZtL (n:=n) (v:=v) hR h1 hm
 obtain ⟨p1,p2,p3,p4⟩:=ZgI (v:=v) hR
 have L5:=Zt7 (n:=n) (v:=v) p1 p3 p2 p4 h1 hm a1 a2
 rw [Zez] at L5
 exact ZwQ (by omega) K2 (Xk fun f hf=>(hR.r f hf).1.ok (by omega)) L4 L5 (by omega)
theorem ZsD{up down o:List Zf}{f:Zf}{i0:Nat}(hi0:up[i0]?=some f)(hf:FB m f∧f.1.length≤50)(hd:∀g∈down,FB m g∧g.1.length≤50)(hdl:down.length≤2500)(h1:1≤m)(hm:m≤1200)(ho:Bds o)(hol:o.length≤7000000):
  Zl Tryz.prog (tab (n+9)) 0 103 (Za 18) 19 WM (Xd v o up down i0 0)=some (.exit 5,Uu v (down.foldl (fun b g=>ZU b (YC v f g)) o) up down i0)∧(Bds (down.foldl (fun b g=>ZU b (YC v f g)) o)∧(down.foldl (fun b g=>ZU b (YC v f g)) o).length≤o.length+down.length):=by
 have hl0:=(gEi hi0).1
 have X:=Wg (O:=tab (n+9)) (P:= Tryz.prog) (m:=0) (N:=103) (lives:=Za 18) (r:=19) (C:=WM) (exN:=.exit 5) (L:=down) (enc:=fun i b=>Xd v b up down i0 i) (f:=fun _ b (g:Zf)=>ZU b (YC v f g)) (Inv:=fun i b=>Bds b∧b.length≤o.length+i) (out:=fun b=>Uu v b up down i0) o ⟨ho,by omega⟩ (by omega) (by simp)
  (fun i g b hi hI=>by
   obtain ⟨hI1,hI2⟩:=hI
   have hlt:=(gEi hi).1
   obtain ⟨hg,lg⟩:=hd g (gMe hi)
   obtain ⟨r,s,K1,K2,K3⟩:=ZvD (n:=n) (v:=v) hf.1 hg hf.2 lg h1 hm
   have hc:=FB.comb (v:=v) hf.1 hg hf.2 lg h1
   have Kf:=ZeM (n:=n+8) (f:=f) (v:=v) (by have:=hf.2;omega)
   have Kg:=ZeM (n:=n+8) (f:=g) (v:=v) (by omega)
   have hcH:H (cof g.1 v)≤17179869184:=Nat.le_trans (Zbj h1 hg.h.1) (by omega)
   have hln:=UZ b (YC v f g)
   refine ⟨?_,hI1.col hc (by omega) (by omega),by omega⟩
   rcases ZhS (n:=n) hc (by omega) (by omega) hI1 (by omega) with ⟨e,K⟩|K
   ·rw [e]
    exact Zmz (by omega) hl0 hi0 Kf hlt hi Kg hcH K1 K2 K3 K ⟨by omega,by omega⟩
   ·exact ZkO (by omega) hl0 hi0 Kf hlt hi Kg hcH K1 K2 K3 K ⟨by omega,by omega⟩)
  (fun b hI=>Zmt (by omega))
 rw [QL] at X
 exact X
theorem ZsH{up down o:List Zf}(hu:∀g∈up,FB m g∧g.1.length≤50)(hul:up.length≤2500)(hd:∀g∈down,FB m g∧g.1.length≤50)(hdl:down.length≤2500)(h1:1≤m)(hm:m≤1200)(ho:Bds o)(hol:o.length≤2500):
  Zl Tryz.prog (tab (n+9)) 0 103 (Za 18) 16 Xw (WI v o up down 0)=some (.exit 3,Ug (up.foldl (fun b f=>down.foldl (fun b g=>ZU b (YC v f g)) b) o)):=by
 have X:=Wg (O:=tab (n+9)) (P:= Tryz.prog) (m:=0) (N:=103) (lives:=Za 18) (r:=16) (C:=Xw) (exN:=.exit 3) (L:=up) (enc:=fun i b=>WI v b up down i) (f:=fun _ b (f:Zf)=>down.foldl (fun b g=>ZU b (YC v f g)) b) (Inv:=fun i b=>Bds b∧b.length≤2500+i*2500) (out:=fun b=>Ug b) o ⟨ho,by omega⟩ (by omega) (by simp)
  (fun i f b hi hI=>by
   obtain ⟨hI1,hI2⟩:=hI
   have hlt:=(gEi hi).1
   have hf:=hu f (gMe hi)
   obtain ⟨L5,a1,a2⟩:=ZsD (n:=n) (v:=v) hi hf hd hdl h1 hm hI1 (by omega)
   exact ⟨ZmC (by omega) L5 ⟨by omega,by omega⟩,a1,by omega⟩)
  (fun b hI=>Zmc (by omega))
 rw [QL] at X
 exact X.1
theorem Zsz(hR:RB m R)(h1:1≤m)(hm:m≤1200):
  Zl Tryz.prog (tab (n+9)) 0 103 (Za 18) 5 X4 (QH R v [] [] [] 0)=some (.exit 0,Je v ((Q6 v R).foldl ZU []) (upL v R) (Q0 v R))∧Bds ((Q6 v R).foldl ZU [])∧((Q6 v R).foldl ZU []).length≤2500:=by
 have hn:=hR.n
 have X:=Wg (O:=tab (n+9)) (P:= Tryz.prog) (m:=0) (N:=103) (lives:=Za 18) (r:=5) (C:=X4) (exN:=.exit 0) (L:=R) (enc:=fun i (b:List Zf × List Zf × List Zf)=>QH R v b.1 b.2.1 b.2.2 i) (f:=fun _ b f=>stE v b f) (Inv:=fun i b=>Bds b.1∧b.1.length≤i∧b.2.1.length≤i∧b.2.2.length≤i) (out:=fun b=>Je v b.1 b.2.1 b.2.2) ([],[],[]) ⟨Bds.nil,by simp,by simp,by simp⟩ (by omega) (by simp)
  (fun i f b hi hI=>by
   obtain ⟨o,u,d⟩:=b
   obtain ⟨hI1,hI2,hI3,hI4⟩:=hI
   dsimp only at hI1 hI2 hI3 hI4
   have hlt:=(gEi hi).1
   obtain ⟨hf,lf⟩:=hR.r f (gMe hi)
   have Kv:=ZhM (n:=n+8) (vars:=1099511627776) (hf.bd (k:=17179869184) (by omega))
   have hok:tv (OkFm f 1099511627776)=true:=Xk (hf.ok (by omega))
   have Kc:=ZeM (n:=n+8) (f:=f) (v:=v) (by omega)
   have hcH:H (cof f.1 v)≤17179869184:=Nat.le_trans (Zbj h1 hf.h.1) (by omega)
   have hln:=UZ o f
   unfold stE
   dsimp only
   rcases YH (cof f.1 v) with ⟨c1,c2⟩|⟨c1,c2⟩|⟨c1,c2⟩
   ·rw [if_neg (by grind),if_pos c1]
    exact ⟨Zqc (by omega) hi Kv hok Kc hcH (by omega) c2 (by omega) ⟨by omega,by omega⟩,hI1,by dsimp only;omega,by simp;omega,by dsimp only;omega⟩
   ·rw [if_neg (by grind),if_neg (by grind)]
    exact ⟨ZnG (by omega) hi Kv hok Kc hcH (by omega) (by omega) (by omega) ⟨by omega,by omega⟩,hI1,by dsimp only;omega,by dsimp only;omega,by simp;omega⟩
   ·rw [if_pos c1]
    refine ⟨?_,hI1.col hf h1 (by omega),by dsimp only;omega,by dsimp only;omega,by dsimp only;omega⟩
    rcases ZhS (n:=n) hf h1 (by omega) hI1 (by omega) with ⟨e,K⟩|K
    ·rw [e]
     exact Zpz (by omega) hi Kv hok Kc hcH c2 K ⟨by omega,by omega⟩
    ·exact Znu (by omega) hi Kv hok Kc hcH c2 K ⟨by omega,by omega⟩)
  (fun b hI=>ZnA (by omega))
 rw [QL,KM] at X
 obtain ⟨X1,X2,X3,_⟩:=X
 simp only [List.nil_append] at X1
 exact ⟨X1,X2,by dsimp only at X3;omega⟩
theorem Zsd(hR:RB m R)(h1:1≤m)(hm:m≤1200)(hv:0≤v)(he:(Qh v R).length≤4096):
  run (n+9) 18 [.sl 4 (R.map Zh),.lit (.int .i64 v)]=some (.tup [.sl 4 ((Qh v R).map Zh),.lit (.int .i64 0)]):=by
 obtain ⟨L4,a1,a2⟩:=Zsz (n:=n) (v:=v) hR h1 hm
 obtain ⟨p1,p2,p3,p4⟩:=ZgI (v:=v) hR
 have L5:=ZsH (n:=n) (v:=v) p1 p3 p2 p4 h1 hm a1 a2
 rw [Zez] at L5
 exact Zvh (by omega) L4 L5 (by omega)
end
end
noncomputable def YV:Code:=(Zb (ZR Tryz.f21)).getD 0 .skip
def Yz(a0:Yo)(a1:Int)(i_2:Nat):St:=
 ⟨[(1,.lit (.int .i64 a1)),(2,.ptr 0 0),(5,.lit (.int .i64 (i_2:Int)))],
  [(0,some (.box 28 [.sl 4 (a0.1.map Yj),.lit (.bool a0.2.s),Zd a0.2.l1,Zd a0.2.l2] false))],1⟩
def Qg(a0:Yo):St:=
 ⟨[(2,.ptr 0 0),(4,.lit (.bool false))],
  [(0,some (.box 28 [.sl 4 (a0.1.map Yj),.lit (.bool a0.2.s),Zd a0.2.l1,Zd a0.2.l2] false))],1⟩
def Zbp(a0:Yo):St:=
 ⟨[(2,.ptr 0 0),(4,.any)],
  [(0,some (.box 28 [.sl 4 (a0.1.map Yj),.lit (.bool a0.2.s),Zd a0.2.l1,Zd a0.2.l2] false))],1⟩
section
variable {v5 : Int} {a1 : Int} {r5 : Raw} {i_2 : Nat} {v4 : Int} {r4 : Raw} {n : Nat} {a0 : Yo}
section
variable(C1:(i_2:Int)<(a0.1.length:Int))(E2:a0.1[i_2]?=some (v4,r4))
include C1 E2
theorem ZnF(C3:¬v4<0)(C4:¬a1≤v4)(C5:0<(i_2:Int))(W6:InI ((i_2:Int)-1))(E7:a0.1[i_2-1]?=some (v5,r5))(Z7:1≤i_2)(C8:¬v4≤v5)(B9a:RawB r4)(C10:¬sgR r4.q=0)(C12:QY r4.s r4.l1 r4.l2)(W13:InI ((i_2:Int)+1)):
  Zm 0 (exec Tryz.prog (tab n) 0 59 (Za 21) big YV) (Za 21 2) (Yz a0 a1 i_2) (Yz a0 a1 (i_2+1)):=by
 have C1_:i_2<a0.1.length:=by omega
 obtain ⟨EL2,EG2⟩:=gEi E2
 have C5_:0<i_2:=by omega
 have W6_:IntKind.i64.wrap ((i_2:Int)-1)=(i_2:Int)-1:=Zp W6.1 W6.2
 obtain ⟨EL7,EG7⟩:=gEi E7
 have Z7_0:(1:Int)≤(i_2:Int):=by omega
 have K9:=VW B9a
 have C10_:(sgR r4.q==0)=false:=by simpa using C10
 have K11:=Uo B9a
 have W13_:IntKind.i64.wrap ((i_2:Int)+1)=(i_2:Int)+1:=Zp W13.1 W13.2
 unfold Zm
 simp+decide [Yz,Zb, Tryz.f21,YV,C1,C1_,EG2,C3,C4,C5_,W6_,EL7,EG7,Z7_0,C8,K9,C10_,K11,C12,W13_]
theorem ZpX(C3:¬v4<0)(C4:¬a1≤v4)(C5:¬0<(i_2:Int))(B6a:RawB r4)(C7:¬sgR r4.q=0)(C9:QY r4.s r4.l1 r4.l2)(W10:InI ((i_2:Int)+1)):
  Zm 0 (exec Tryz.prog (tab n) 0 59 (Za 21) big YV) (Za 21 2) (Yz a0 a1 i_2) (Yz a0 a1 (i_2+1)):=by
 have C1_:i_2<a0.1.length:=by omega
 obtain ⟨EL2,EG2⟩:=gEi E2
 have C5_:¬0<i_2:=by omega
 have K6:=VW B6a
 have C7_:(sgR r4.q==0)=false:=by simpa using C7
 have K8:=Uo B6a
 have W10_:IntKind.i64.wrap ((i_2:Int)+1)=(i_2:Int)+1:=Zp W10.1 W10.2
 unfold Zm
 simp+decide [Yz,Zb, Tryz.f21,YV,C1,C1_,EG2,C3,C4,C5_,K6,C7_,K8,C9,W10_]
theorem Zph(C3:v4<0):
  Zj 0 (exec Tryz.prog (tab n) 0 59 (Za 21) big YV) (Za 21 (Zo 2)) (Yz a0 a1 i_2) (.ret) (Qg a0):=by
 have C1_:i_2<a0.1.length:=by omega
 obtain ⟨EL2,EG2⟩:=gEi E2
 unfold Zj
 simp+decide [Yz,Zb, Tryz.f21,Qg,YV,C1,C1_,EG2,C3]
theorem Zoh(C3:¬v4<0)(C4:a1≤v4):
  Zj 0 (exec Tryz.prog (tab n) 0 59 (Za 21) big YV) (Za 21 (Zo 2)) (Yz a0 a1 i_2) (.ret) (Qg a0):=by
 have C1_:i_2<a0.1.length:=by omega
 obtain ⟨EL2,EG2⟩:=gEi E2
 unfold Zj
 simp+decide [Yz,Zb, Tryz.f21,Qg,YV,C1,C1_,EG2,C3,C4]
section
variable(C3:¬v4<0)(C4:¬a1≤v4)
include C3 C4
section
variable(C5:0<(i_2:Int))(W6:InI ((i_2:Int)-1))(E7:a0.1[i_2-1]?=some (v5,r5))(Z7:1≤i_2)
include C5 W6 E7 Z7
theorem Zo5(C8:v4≤v5):
  Zj 0 (exec Tryz.prog (tab n) 0 59 (Za 21) big YV) (Za 21 (Zo 2)) (Yz a0 a1 i_2) (.ret) (Qg a0):=by
 have C1_:i_2<a0.1.length:=by omega
 obtain ⟨EL2,EG2⟩:=gEi E2
 have C5_:0<i_2:=by omega
 have W6_:IntKind.i64.wrap ((i_2:Int)-1)=(i_2:Int)-1:=Zp W6.1 W6.2
 obtain ⟨EL7,EG7⟩:=gEi E7
 have Z7_0:(1:Int)≤(i_2:Int):=by omega
 unfold Zj
 simp+decide [Yz,Zb, Tryz.f21,Qg,YV,C1,C1_,EG2,C3,C4,C5_,W6_,EL7,EG7,Z7_0,C8]
theorem Zm8(C8:¬v4≤v5)(B9a:RawB r4)(C10:sgR r4.q=0):
  Zj 0 (exec Tryz.prog (tab n) 0 59 (Za 21) big YV) (Za 21 (Zo 2)) (Yz a0 a1 i_2) (.ret) (Qg a0):=by
 have C1_:i_2<a0.1.length:=by omega
 obtain ⟨EL2,EG2⟩:=gEi E2
 have C5_:0<i_2:=by omega
 have W6_:IntKind.i64.wrap ((i_2:Int)-1)=(i_2:Int)-1:=Zp W6.1 W6.2
 obtain ⟨EL7,EG7⟩:=gEi E7
 have Z7_0:(1:Int)≤(i_2:Int):=by omega
 have K9:=VW B9a
 have C10_:(sgR r4.q==0)=true:=by rw [C10];simp
 unfold Zj
 simp+decide [Yz,Zb, Tryz.f21,Qg,YV,C1,C1_,EG2,C3,C4,C5_,W6_,EL7,EG7,Z7_0,C8,K9,C10_]
theorem Zof(C8:¬v4≤v5)(B9a:RawB r4)(C10:¬sgR r4.q=0)(C12:¬(QY r4.s r4.l1 r4.l2)):
  Zj 0 (exec Tryz.prog (tab n) 0 59 (Za 21) big YV) (Za 21 (Zo 2)) (Yz a0 a1 i_2) (.ret) (Qg a0):=by
 have C1_:i_2<a0.1.length:=by omega
 obtain ⟨EL2,EG2⟩:=gEi E2
 have C5_:0<i_2:=by omega
 have W6_:IntKind.i64.wrap ((i_2:Int)-1)=(i_2:Int)-1:=Zp W6.1 W6.2
 obtain ⟨EL7,EG7⟩:=gEi E7
 have Z7_0:(1:Int)≤(i_2:Int):=by omega
 have K9:=VW B9a
 have C10_:(sgR r4.q==0)=false:=by simpa using C10
 have K11:=Uo B9a
 unfold Zj
 simp+decide [Yz,Zb, Tryz.f21,Qg,YV,C1,C1_,EG2,C3,C4,C5_,W6_,EL7,EG7,Z7_0,C8,K9,C10_,K11,C12]
end
theorem Zpd(C5:¬0<(i_2:Int))(B6a:RawB r4)(C7:sgR r4.q=0):
  Zj 0 (exec Tryz.prog (tab n) 0 59 (Za 21) big YV) (Za 21 (Zo 2)) (Yz a0 a1 i_2) (.ret) (Qg a0):=by
 have C1_:i_2<a0.1.length:=by omega
 obtain ⟨EL2,EG2⟩:=gEi E2
 have C5_:¬0<i_2:=by omega
 have K6:=VW B6a
 have C7_:(sgR r4.q==0)=true:=by rw [C7];simp
 unfold Zj
 simp+decide [Yz,Zb, Tryz.f21,Qg,YV,C1,C1_,EG2,C3,C4,C5_,K6,C7_]
theorem ZoU(C5:¬0<(i_2:Int))(B6a:RawB r4)(C7:¬sgR r4.q=0)(C9:¬(QY r4.s r4.l1 r4.l2)):
  Zj 0 (exec Tryz.prog (tab n) 0 59 (Za 21) big YV) (Za 21 (Zo 2)) (Yz a0 a1 i_2) (.ret) (Qg a0):=by
 have C1_:i_2<a0.1.length:=by omega
 obtain ⟨EL2,EG2⟩:=gEi E2
 have C5_:¬0<i_2:=by omega
 have K6:=VW B6a
 have C7_:(sgR r4.q==0)=false:=by simpa using C7
 have K8:=Uo B6a
 unfold Zj
 simp+decide [Yz,Zb, Tryz.f21,Qg,YV,C1,C1_,EG2,C3,C4,C5_,K6,C7_,K8,C9]
end
end
theorem Zp8(C1:¬(i_2:Int)<(a0.1.length:Int)):
  Zj 0 (exec Tryz.prog (tab n) 0 59 (Za 21) big YV) (Za 21 (Zo 2)) (Yz a0 a1 i_2) (.exit 0) (Zbp a0):=by
 unfold Zj
 simp+decide [Yz,Zb, Tryz.f21,Zbp,YV,C1]
theorem Zwn(L1:Zl Tryz.prog (tab n) 0 59 (Za 21) 2 YV (Yz a0 a1 0)=some (.ret,Qg a0)):
  run n 21 [.agg [.sl 4 (a0.1.map Yj),.lit (.bool a0.2.s),Zd a0.2.l1,Zd a0.2.l2],.lit (.int .i64 a1)]=some (.lit (.bool false)):=by
 unfold run fnP
 simp+decide [Tryz.f21]
 rw [Zi (C':=YV) (e:=(Yz a0 a1 0)) ?_ ?_,L1]
 rotate_left
 ·kernel_rfl
 ·simp+decide [Yz]
 simp+decide [Qg]
theorem Zvj(L1:Zl Tryz.prog (tab n) 0 59 (Za 21) 2 YV (Yz a0 a1 0)=some (.exit 0,Zbp a0))(B2a:RawB a0.2):
  run n 21 [.agg [.sl 4 (a0.1.map Yj),.lit (.bool a0.2.s),Zd a0.2.l1,Zd a0.2.l2],.lit (.int .i64 a1)]=some (.lit (.bool (decide (QY a0.2.s a0.2.l1 a0.2.l2)))):=by
 have K2:=Uo B2a
 unfold run fnP
 simp+decide [Tryz.f21]
 rw [Zi (C':=YV) (e:=(Yz a0 a1 0)) ?_ ?_,L1]
 rotate_left
 ·kernel_rfl
 ·simp+decide [Yz]
 simp+decide [Zbp,K2]
end
section
attribute [local irreducible] run Zr Zl exec
def frV(f:Yo):AV:=.agg [.sl 4 (f.1.map Yj),.lit (.bool f.2.s),Zd f.2.l1,Zd f.2.l2]
def Zu7(r:Raw):Prop:=Lim r.l1∧Lim r.l2
structure ZDU (f:Yo):Prop where
 t:∀t∈f.1,Zu7 t.2
 k:Zu7 f.2
def Two(r:Raw):Prop:=r.l1.length≤2∧r.l2.length≤2
def Cn(r:Raw):Prop:=QY r.s r.l1 r.l2
theorem Cn.raw{r:Raw}(h:Cn r):r=Ze r.q:=by
 obtain ⟨s,l1,l2⟩:=r
 obtain ⟨h1,h2,h3⟩:=h
 dsimp only at h1 h2 h3
 unfold Raw.q Ze
 dsimp only
 rw [←h1,←h2,←h3]
theorem ZxK(d:Nat):(lmb d).length≤max 1 (QX d).length:=by
 unfold QX
 split
 ·rename_i h;subst h;rw [Xe];simp
 ·exact Nat.le_max_right _ _
theorem Cn.HB{r:Raw}{m:Nat}(h:Cn r)(hm:1≤m)(h1:r.l1.length≤m)(h2:r.l2.length≤m):H r.q≤m:=by
 have e:=h.raw
 have a1:(lmb r.q.num.natAbs).length≤m:=by have:=congrArg Raw.l1 e;rw [this] at h1;exact h1
 have a2:(QX r.q.den).length≤m:=by have:=congrArg Raw.l2 e;rw [this] at h2;exact h2
 have a3:=ZxK r.q.den
 unfold Go.Proofs.YtdaonnnlgfhlaaaGreatDoor.H
 omega
theorem Cn.H{r:Raw}(h:Cn r)(ht:Two r):H r.q≤2:=h.HB (by omega) ht.1 ht.2
def ZpS(F:List (Int × Raw))(vars:Int)(i:Nat):Prop:=∀v c,F[i]?=some (v,c)→0≤v∧v<vars∧c.q≠0∧Cn c∧∀v' c',0<i→F[i-1]?=some (v',c')→v'<v
def Zqt(f:Yo)(vars:Int):Prop:=(∀i,i<f.1.length→ZpS f.1 vars i)∧Cn f.2
theorem ZlJ{n:Nat}{f:Yo}{vars:Int}(h8:f.1.length≤100000)(hrbs:∀t∈f.1,RawB t.2)(hkb:RawB f.2):run n 21 [frV f,.lit (.int .i64 vars)]=some (.lit (.bool (tv (Zqt f vars)))):=by
 have L:=Xb (O:=tab n) (P:= Tryz.prog) (m:=0) (N:=59) (lives:=Za 21) (r:=2) (C:=YV) (M:=f.1.length) (enc:=Yz f vars) (p:=fun i=>tv (ZpS f.1 vars i)) (exN:=.exit 0) (exE:=.ret) (out:=Zbp f) (outE:=Qg f) (by omega) (fun h=>by cases h) (fun h=>by cases h)
  (fun i hi _=>by
   have hx:f.1[i]?=some f.1[i]:=gEt hi
   obtain ⟨t,ht⟩:∃t,f.1[i]=t:=⟨_,rfl⟩
   rw [ht] at hx
   obtain ⟨v,r⟩:=t
   have hm:(v,r)∈f.1:=gMe hx
   have hrb:RawB r:=hrbs _ hm
   have C1:(i:Int)<(f.1.length:Int):=by omega
   have hp:0<i→∃v' r',f.1[i-1]?=some (v',r'):=fun h0=>⟨(f.1[i-1]'(by omega)).1,(f.1[i-1]'(by omega)).2,gEt _⟩
   refine ⟨fun hp'=>?_,fun hp'=>?_⟩
   ·obtain ⟨a1,a2,a3,a4,a5⟩:=YS hp' v r hx
    have s0:¬sgR r.q=0:=fun h=>a3 (Yl.1 h)
    by_cases h0:0<i
    ·obtain ⟨v',r',hx'⟩:=hp h0
     have:=a5 v' r' h0 hx'
     exact ZnF C1 hx (by omega) (by omega) (by omega) ⟨by omega,by omega⟩ hx' (by omega) (by omega) hrb s0 a4 ⟨by omega,by omega⟩
    ·exact ZpX C1 hx (by omega) (by omega) (by omega) hrb s0 a4 ⟨by omega,by omega⟩
   ·have hq:=Q3 hp'
    by_cases b1:v<0
    ·exact Zph C1 hx b1
    by_cases b2:vars≤v
    ·exact Zoh C1 hx b1 b2
    by_cases h0:0<i
    ·obtain ⟨v',r',hx'⟩:=hp h0
     by_cases b3:v≤v'
     ·exact Zo5 C1 hx b1 b2 (by omega) ⟨by omega,by omega⟩ hx' (by omega) b3
     by_cases b4:sgR r.q=0
     ·exact Zm8 C1 hx b1 b2 (by omega) ⟨by omega,by omega⟩ hx' (by omega) b3 hrb b4
     refine Zof C1 hx b1 b2 (by omega) ⟨by omega,by omega⟩ hx' (by omega) b3 hrb b4 fun b5=>hq fun v2 c2 h2=>?_
     rw [hx] at h2;cases h2
     refine ⟨by omega,by omega,fun h=>b4 (Yl.2 h),b5,fun v3 c3 _ h3=>?_⟩
     rw [hx'] at h3;cases h3
     omega
    ·by_cases b4:sgR r.q=0
     ·exact Zpd C1 hx b1 b2 (by omega) hrb b4
     refine ZoU C1 hx b1 b2 (by omega) hrb b4 fun b5=>hq fun v2 c2 h2=>?_
     rw [hx] at h2;cases h2
     exact ⟨by omega,by omega,fun h=>b4 (Yl.2 h),b5,fun v3 c3 h9 h3=>absurd h9 h0⟩)
  (Zp8 (by omega))
 by_cases hA:∀i,i<f.1.length→tv (ZpS f.1 vars i)=true
 ·rw [if_pos hA] at L
  have h:=Zvj L hkb
  have e:decide (QY f.2.s f.2.l1 f.2.l2)=tv (Zqt f vars):=by
   by_cases hk:Cn f.2
   ·rw [Xk ⟨fun i hi=>YS (hA i hi),hk⟩];exact decide_eq_true hk
   ·rw [XJ fun h=>hk h.2];exact decide_eq_false hk
  rw [e] at h
  exact h
 ·rw [if_neg hA] at L
  rw [XJ fun h=>hA fun i hi=>Xk (h.1 i hi)]
  exact Zwn L
def unR(f:Yo):Zf:=(f.1.map fun t=>(t.1,t.2.q),f.2.q)
theorem Zhy{f:Yo}{vars:Int}{m:Nat}(hm:1≤m)(ht:∀t∈f.1,t.2.l1.length≤m∧t.2.l2.length≤m)(hk:f.2.l1.length≤m∧f.2.l2.length≤m)(ho:Zqt f vars):frV f=Zc (unR f)∧(unR f).1.length=f.1.length∧(∀t∈(unR f).1,H t.2≤m)∧H (unR f).2≤m∧OkFm (unR f) vars:=by
 have hc:∀t∈f.1,Cn t.2:=fun t ht=>by
  obtain ⟨i,hi⟩:=List.mem_iff_getElem?.1 ht
  exact (ho.1 i (gEi hi).1 t.1 t.2 hi).2.2.2.1
 refine ⟨?_,by simp [unR],fun t h9=>?_,ho.2.HB hm hk.1 hk.2,fun i hi v c h=>?_⟩
 ·have e1:f.1.map Yj=(unR f).1.map Zs:=by
   simp only [unR,List.map_map]
   apply List.map_congr_left
   intro t ht
   have e:=(hc t ht).raw
   simp only [Function.comp,Yj,Zs,ZqC]
   rw [←e]
  have e2:=ho.2.raw
  unfold frV
  simp only [Zc,e1]
  have e3:Ze (unR f).2=f.2:=e2.symm
  rw [e3]
 ·simp only [unR,List.mem_map] at h9
  obtain ⟨u,hu,rfl⟩:=h9
  exact (hc u hu).HB hm (ht u hu).1 (ht u hu).2
 ·simp only [unR,List.length_map] at hi
  simp only [unR,List.getElem?_map] at h
  obtain ⟨u,hu,he⟩:=Option.map_eq_some_iff.1 h
  cases he
  obtain ⟨a1,a2,a3,_,a5⟩:=ho.1 i hi u.1 u.2 hu
  refine ⟨a1,a2,a3,fun v' c' h0 h'=>?_⟩
  simp only [unR,List.getElem?_map] at h'
  obtain ⟨u',hu',he'⟩:=Option.map_eq_some_iff.1 h'
  cases he'
  exact a5 u'.1 u'.2 h0 hu'
end
section
variable {a0 : Raw} {n : Nat}
theorem ZwU(C1:(a0.l1.length:Int)≤2)(C2:(a0.l2.length:Int)≤2)(B3a:RawB a0):
  run n 33 [.agg [.lit (.bool a0.s),Zd a0.l1,Zd a0.l2]]=some (.lit (.bool (decide (QY a0.s a0.l1 a0.l2)))):=by
 have K3:=Uo B3a
 unfold run fnP
 simp+decide [Tryz.f33,C1,C2,K3]
theorem Zwz(C1:(a0.l1.length:Int)≤2)(C2:¬(a0.l2.length:Int)≤2):
  run n 33 [.agg [.lit (.bool a0.s),Zd a0.l1,Zd a0.l2]]=some (.lit (.bool false)):=by
 unfold run fnP
 simp+decide [Tryz.f33,C1,C2]
theorem ZwM(C1:¬(a0.l1.length:Int)≤2):
  run n 33 [.agg [.lit (.bool a0.s),Zd a0.l1,Zd a0.l2]]=some (.lit (.bool false)):=by
 unfold run fnP
 simp+decide [Tryz.f33,C1]
end
noncomputable def Vt:Code:=(Zb (ZR Tryz.f9)).getD 0 .skip
def XU(a0:Yo)(i_4:Nat):St:=
 ⟨[(1,.ptr 0 0),(3,.lit (.int .i64 (i_4:Int)))],
  [(0,some (.box 28 [.sl 4 (a0.1.map Yj),.lit (.bool a0.2.s),Zd a0.2.l1,Zd a0.2.l2] false))],1⟩
def ZaO:St:=
 ⟨[(2,.lit (.bool false))],
  [],0⟩
def Zax:St:=
 ⟨[(2,.any)],
  [],0⟩
section
variable {v3 : Int} {r7 : Raw} {r8 : Bool} {i_4 : Nat} {n : Nat} {a0 : Yo} {r : Bool} {r2 : Bool}
section
variable(C1:(i_4:Int)<(a0.1.length:Int))(E2:a0.1[i_4]?=some (v3,r7))(K3:run n 33 [.agg [.lit (.bool r7.s),Zd r7.l1,Zd r7.l2]]=some (.lit (.bool r8)))
include C1 E2 K3
theorem ZoM(C4:r8=true)(W5:InI ((i_4:Int)+1)):
  Zm 0 (exec Tryz.prog (tab (n+1)) 0 34 (Za 9) big Vt) (Za 9 4) (XU a0 i_4) (XU a0 (i_4+1)):=by
 have C1_:i_4<a0.1.length:=by omega
 obtain ⟨EL2,EG2⟩:=gEi E2
 have W5_:IntKind.i64.wrap ((i_4:Int)+1)=(i_4:Int)+1:=Zp W5.1 W5.2
 unfold Zm
 simp+decide [XU,Zb, Tryz.f9,Vt,C1,C1_,EG2,K3,C4,W5_]
theorem Zrh(C4:r8=false):
  Zj 0 (exec Tryz.prog (tab (n+1)) 0 34 (Za 9) big Vt) (Za 9 (Zo 4)) (XU a0 i_4) (.ret) (ZaO):=by
 have C1_:i_4<a0.1.length:=by omega
 obtain ⟨EL2,EG2⟩:=gEi E2
 unfold Zj
 simp+decide [XU,Zb, Tryz.f9,ZaO,Vt,C1,C1_,EG2,K3,C4]
end
theorem Zok(C1:¬(i_4:Int)<(a0.1.length:Int)):
  Zj 0 (exec Tryz.prog (tab (n+1)) 0 34 (Za 9) big Vt) (Za 9 (Zo 4)) (XU a0 i_4) (.exit 0) (Zax):=by
 unfold Zj
 simp+decide [XU,Zb, Tryz.f9,Zax,Vt,C1]
theorem Zx6(C1:8<(a0.1.length:Int)):
  run (n+1) 9 [.agg [.sl 4 (a0.1.map Yj),.lit (.bool a0.2.s),Zd a0.2.l1,Zd a0.2.l2]]=some (.lit (.bool false)):=by
 unfold run fnP
 simp+decide [Tryz.f9,C1]
section
variable(C1:¬8<(a0.1.length:Int))(K2:run n 33 [.agg [.lit (.bool a0.2.s),Zd a0.2.l1,Zd a0.2.l2]]=some (.lit (.bool r)))
include C1 K2
theorem ZxM(C3:r=false):
  run (n+1) 9 [.agg [.sl 4 (a0.1.map Yj),.lit (.bool a0.2.s),Zd a0.2.l1,Zd a0.2.l2]]=some (.lit (.bool false)):=by
 unfold run fnP
 simp+decide [Tryz.f9,C1,K2,C3]
section
variable(C3:r=true)(K4:run n 21 [.agg [.sl 4 (a0.1.map Yj),.lit (.bool a0.2.s),Zd a0.2.l1,Zd a0.2.l2],.lit (.int .i64 1048576)]=some (.lit (.bool r2)))
include C3 K4
theorem ZvU(C5:r2=false):
  run (n+1) 9 [.agg [.sl 4 (a0.1.map Yj),.lit (.bool a0.2.s),Zd a0.2.l1,Zd a0.2.l2]]=some (.lit (.bool false)):=by
 unfold run fnP
 simp+decide [Tryz.f9,C1,K2,C3,K4,C5]
theorem ZvB(C5:r2=true)(L6:Zl Tryz.prog (tab (n+1)) 0 34 (Za 9) 4 Vt (XU a0 0)=some (.ret,ZaO)):
  run (n+1) 9 [.agg [.sl 4 (a0.1.map Yj),.lit (.bool a0.2.s),Zd a0.2.l1,Zd a0.2.l2]]=some (.lit (.bool false)):=by
 unfold run fnP
 simp+decide [Tryz.f9,C1,K2,C3,K4,C5]
 rw [Zi (C':=Vt) (e:=(XU a0 0)) ?_ ?_,L6]
 rotate_left
 ·kernel_rfl
 ·simp+decide [XU]
 simp+decide [ZaO]
theorem Zxr(C5:r2=true)(L6:Zl Tryz.prog (tab (n+1)) 0 34 (Za 9) 4 Vt (XU a0 0)=some (.exit 0,Zax)):
  run (n+1) 9 [.agg [.sl 4 (a0.1.map Yj),.lit (.bool a0.2.s),Zd a0.2.l1,Zd a0.2.l2]]=some (.lit (.bool true)):=by
 unfold run fnP
 simp+decide [Tryz.f9,C1,K2,C3,K4,C5]
 rw [Zi (C':=Vt) (e:=(XU a0 0)) ?_ ?_,L6]
 rotate_left
 ·kernel_rfl
 ·simp+decide [XU]
 simp+decide [Zax]
end
end
end
noncomputable def Vs:Code:=(Zb (ZR Tryz.f43)).getD 0 .skip
def XZ(a0:List Yo)(i_4:Nat):St:=
 ⟨[(0,.sl 4 (a0.map Ys)),(5,.lit (.int .i64 (i_4:Int)))],
  [],0⟩
def Zak:St:=
 ⟨[(4,.lit (.bool false))],
  [],0⟩
def Za2:St:=
 ⟨[(4,.any)],
  [],0⟩
section
variable{r5:Raw}{r6:Bool}{F3:List (Int × Raw)}{i_4:Nat}{n:Nat}{a0:List Yo}{a1:Int}
section
variable(C1:(i_4:Int)<(a0.length:Int))(E2:a0[i_4]?=some (F3,r5))(K3:run (n+1) 9 [.agg [.sl 4 (F3.map Yj),.lit (.bool r5.s),Zd r5.l1,Zd r5.l2]]=some (.lit (.bool r6)))
include C1 E2 K3
theorem Zps(C4:r6=true)(W5:InI ((i_4:Int)+1)):
  Zm 0 (exec Tryz.prog (tab (n+2)) 0 22 (Za 43) big Vs) (Za 43 4) (XZ a0 i_4) (XZ a0 (i_4+1)):=by
 have C1_:i_4<a0.length:=by omega
 obtain ⟨EL2,EG2⟩:=gEi E2
 have W5_:IntKind.i64.wrap ((i_4:Int)+1)=(i_4:Int)+1:=Zp W5.1 W5.2
 unfold Zm
 simp+decide [XZ,Zb, Tryz.f43,Vs,C1,C1_,EG2,K3,C4,W5_]
theorem Zq5(C4:r6=false):
  Zj 0 (exec Tryz.prog (tab (n+2)) 0 22 (Za 43) big Vs) (Za 43 (Zo 4)) (XZ a0 i_4) (.ret) (Zak):=by
 have C1_:i_4<a0.length:=by omega
 obtain ⟨EL2,EG2⟩:=gEi E2
 unfold Zj
 simp+decide [XZ,Zb, Tryz.f43,Zak,Vs,C1,C1_,EG2,K3,C4]
end
theorem ZnB(C1:¬(i_4:Int)<(a0.length:Int)):
  Zj 0 (exec Tryz.prog (tab (n+2)) 0 22 (Za 43) big Vs) (Za 43 (Zo 4)) (XZ a0 i_4) (.exit 0) (Za2):=by
 unfold Zj
 simp+decide [XZ,Zb, Tryz.f43,Za2,Vs,C1]
theorem Zwk(C1:a1<(a0.length:Int)):
  run (n+2) 43 [.sl 4 (a0.map Ys),.lit (.int .i64 a1)]=some (.lit (.bool false)):=by
 unfold run fnP
 simp+decide [Tryz.f43,C1]
theorem Zx5(C1:¬a1<(a0.length:Int))(L2:Zl Tryz.prog (tab (n+2)) 0 22 (Za 43) 4 Vs (XZ a0 0)=some (.ret,Zak)):
  run (n+2) 43 [.sl 4 (a0.map Ys),.lit (.int .i64 a1)]=some (.lit (.bool false)):=by
 unfold run fnP
 simp+decide [Tryz.f43,C1]
 rw [Zi (C':=Vs) (e:=(XZ a0 0)) ?_ ?_,L2]
 rotate_left
 ·kernel_rfl
 ·simp+decide [XZ]
 simp+decide [Zak]
theorem ZvP(C1:¬a1<(a0.length:Int))(L2:Zl Tryz.prog (tab (n+2)) 0 22 (Za 43) 4 Vs (XZ a0 0)=some (.exit 0,Za2)):
  run (n+2) 43 [.sl 4 (a0.map Ys),.lit (.int .i64 a1)]=some (.lit (.bool true)):=by
 unfold run fnP
 simp+decide [Tryz.f43,C1]
 rw [Zi (C':=Vs) (e:=(XZ a0 0)) ?_ ?_,L2]
 rotate_left
 ·kernel_rfl
 ·simp+decide [XZ]
 simp+decide [Za2]
end
theorem ZsL{n:Nat}{a0:List Yo}{r:Bool}(K1:run (n+2) 43 [.sl 4 (a0.map Ys),.lit (.int .i64 7)]=some (.lit (.bool r))):
  run (n+3) 16 [.sl 4 (a0.map Ys)]=some (.lit (.bool r)):=by
 unfold run fnP
 simp+decide [Tryz.f16,K1]
section
attribute [local irreducible] run Zr Zl exec
def SmQ(r:Raw):Prop:=Two r∧Cn r
structure ZkQ (f:Yo):Prop where
 t:∀t∈f.1,RawB t.2
 k:RawB f.2
def SmR(f:Yo):Prop:=f.1.length≤8∧SmQ f.2∧Zqt f 1048576∧∀t∈f.1,SmQ t.2
section
variable {n : Nat}
theorem Zu8{r:Raw}(hR:RawB r):run n 33 [.agg [.lit (.bool r.s),Zd r.l1,Zd r.l2]]=some (.lit (.bool (tv (SmQ r)))):=by
 by_cases h1:r.l1.length≤2
 ·by_cases h2:r.l2.length≤2
  ·have K:=ZwU (n:=n) (a0:=r) (by omega) (by omega) hR
   by_cases h3:QY r.s r.l1 r.l2
   ·rw [decide_eq_true h3] at K
    rw [Xk (p:=SmQ r) ⟨⟨h1,h2⟩,h3⟩]
    exact K
   ·rw [decide_eq_false h3] at K
    rw [XJ (p:=SmQ r) (fun h=>h3 h.2)]
    exact K
  ·rw [XJ (p:=SmQ r) (fun h=>h2 h.1.2)]
   exact Zwz (by omega) (by omega)
 ·rw [XJ (p:=SmQ r) (fun h=>h1 h.1.1)]
  exact ZwM (by omega)
theorem Zu5{f:Yo}(hB:ZkQ f):run (n+1) 9 [frV f]=some (.lit (.bool (tv (SmR f)))):=by
 by_cases h1:8<f.1.length
 ·rw [XJ (p:=SmR f) (fun h=>by have:=h.1;omega)]
  exact Zx6 (by omega)
 have K2:=Zu8 (n:=n) hB.k
 by_cases h2:SmQ f.2
 ·rw [Xk h2] at K2
  have K4:=ZlJ (n:=n) (vars:=1048576) (by omega) hB.t hB.k
  by_cases h3:Zqt f 1048576
  ·rw [Xk h3] at K4
   have X:=Xb (O:=tab (n+1)) (P:= Tryz.prog) (m:=0) (N:=34) (lives:=Za 9) (r:=4) (C:=Vt) (M:=f.1.length) (enc:=fun i=>XU f i) (p:=fun i=>tv (∀t,f.1[i]?=some t→SmQ t.2)) (exN:=.exit 0) (exE:=.ret) (out:=Zax) (outE:=ZaO) (by omega) (by simp) (by simp)
    (fun i hi _=>by
     have hx:f.1[i]?=some f.1[i]:=gEt hi
     obtain ⟨t,ht⟩:∃t,f.1[i]=t:=⟨_,rfl⟩
     rw [ht] at hx
     obtain ⟨v,r⟩:=t
     have K:=Zu8 (n:=n) (hB.t _ (gMe hx))
     refine ⟨fun hp=>ZoM (by omega) hx K (Xk (YS hp _ hx)) ⟨by omega,by omega⟩,fun hp=>Zrh (by omega) hx K (XJ fun h9=>Q3 hp fun t ht=>?_)⟩
     rw [hx] at ht;cases ht
     exact h9)
    (Zok (by omega))
   by_cases h4:∀t∈f.1,SmQ t.2
   ·rw [if_pos (fun i hi=>Xk fun t ht=>h4 t (gMe ht))] at X
    rw [Xk (p:=SmR f) ⟨by omega,h2,h3,h4⟩]
    exact Zxr (by omega) K2 rfl K4 rfl X
   ·rw [if_neg (fun h5=>h4 fun t ht=>by
     obtain ⟨i,hi⟩:=List.mem_iff_getElem?.1 ht
     exact YS (h5 i (gEi hi).1) t hi)] at X
    rw [XJ (p:=SmR f) (fun h=>h4 h.2.2.2)]
    exact ZvB (by omega) K2 rfl K4 rfl X
  ·rw [XJ h3] at K4
   rw [XJ (p:=SmR f) (fun h=>h3 h.2.2.1)]
   exact ZvU (by omega) K2 rfl K4 rfl
 ·rw [XJ h2] at K2
  rw [XJ (p:=SmR f) (fun h=>h2 h.2.1)]
  exact ZxM (by omega) K2 rfl
theorem ZyV{L:List Yo}{z:Int}(hl:L.length≤1000000000)(hB:∀f∈L,ZkQ f):run (n+2) 43 [.sl 4 (L.map Ys),.lit (.int .i64 z)]=some (.lit (.bool (tv ((L.length:Int)≤z∧∀f∈L,SmR f)))):=by
 by_cases h1:z<(L.length:Int)
 ·rw [XJ (fun h=>by have:=h.1;omega)]
  exact Zwk h1
 have X:=Xb (O:=tab (n+2)) (P:= Tryz.prog) (m:=0) (N:=22) (lives:=Za 43) (r:=4) (C:=Vs) (M:=L.length) (enc:=fun i=>XZ L i) (p:=fun i=>tv (∀f,L[i]?=some f→SmR f)) (exN:=.exit 0) (exE:=.ret) (out:=Za2) (outE:=Zak) (by omega) (by simp) (by simp)
  (fun i hi _=>by
   have hx:L[i]?=some L[i]:=gEt hi
   obtain ⟨t,ht⟩:∃t,L[i]=t:=⟨_,rfl⟩
   rw [ht] at hx
   obtain ⟨F,r⟩:=t
   have K:=Zu5 (n:=n) (hB _ (gMe hx))
   refine ⟨fun hp=>Zps (by omega) hx K (Xk (YS hp _ hx)) ⟨by omega,by omega⟩,fun hp=>Zq5 (by omega) hx K (XJ fun h9=>Q3 hp fun t ht=>?_)⟩
   rw [hx] at ht;cases ht
   exact h9)
  (ZnB (by omega))
 by_cases h4:∀f∈L,SmR f
 ·rw [if_pos (fun i hi=>Xk fun t ht=>h4 t (gMe ht))] at X
  rw [Xk ⟨by omega,h4⟩]
  exact ZvP h1 X
 ·rw [if_neg (fun h5=>h4 fun t ht=>by
   obtain ⟨i,hi⟩:=List.mem_iff_getElem?.1 ht
   exact YS (h5 i (gEi hi).1) t hi)] at X
  rw [XJ (fun h=>h4 h.2)]
  exact Zx5 h1 X
theorem Zww{L:List Yo}(hl:L.length≤1000000000)(hB:∀f∈L,ZkQ f):run (n+3) 16 [.sl 4 (L.map Ys)]=some (.lit (.bool (tv ((L.length:Int)≤7∧∀f∈L,SmR f)))):=ZsL (ZyV hl hB)
end
structure Sm8 (f:Zf):Prop where
 l:f.1.length≤8
 t:∀t∈f.1,H t.2≤2
 k:H f.2≤2
 ok:OkFm f 1048576
theorem Sm8.fb{f:Zf}(h:Sm8 f):FB 2 f:=by
 obtain ⟨a,b⟩:=h.ok.srt
 exact ⟨a,⟨h.t,h.k⟩,by have:=h.l;omega,fun t ht=>⟨(b t ht).1,by have:=(b t ht).2;omega⟩⟩
theorem SmR.un{f:Yo}(h:SmR f):frV f=Zc (unR f)∧Sm8 (unR f):=by
 obtain ⟨a1,a2,a3,a4,a5⟩:=Zhy (m:=2) (by omega) (fun t ht=>(h.2.2.2 t ht).1) h.2.1.1 h.2.2.1
 exact ⟨a1,by rw [a2];exact h.1,a3,a4,a5⟩
theorem SmR.cells{f:Yo}(h:SmR f):Ys f=Zh (unR f):=by
 have:=h.un.1
 simp only [frV,Zc,AV.agg.injEq] at this
 simp only [Ys,Zh]
 exact this
theorem SmR.all{L:List Yo}(h:∀f∈L,SmR f):L.map Ys=(L.map unR).map Zh∧∀f∈L.map unR,Sm8 f:=by
 refine ⟨?_,fun f hf=>?_⟩
 ·rw [List.map_map]
  exact List.map_congr_left fun f hf=>(h f hf).cells
 ·obtain ⟨g,hg,rfl⟩:=List.mem_map.1 hf
  exact (h g hg).un.2
theorem SmQ.all{xs:List Raw}(h:∀r∈xs,SmQ r):xs.map ZtD=(xs.map Raw.q).map ZqC∧∀q∈xs.map Raw.q,H q≤2:=by
 refine ⟨?_,fun q hq=>?_⟩
 ·rw [List.map_map]
  refine List.map_congr_left fun r hr=>?_
  have e:=(h r hr).2.raw
  simp only [Function.comp,ZtD,ZqC]
  rw [←e]
 ·obtain ⟨r,hr,rfl⟩:=List.mem_map.1 hq
  exact (h r hr).2.H (h r hr).1
end
section
attribute [local irreducible] run Zr Zl exec
theorem Zt2{m:Nat}{v:Int}{R:List Zf}(hR:RB m R)(h1:1≤m):∀f∈Qh v R,FB (8*m+2) f:=fun n hn=>by
 obtain ⟨e,he,rfl⟩:=ZaA hn
 have key:FB (4*m+1) e:=by
  rcases List.mem_append.1 he with h2|h2
  ·exact (hR.r e (List.mem_filter.1 h2).1).1.mono (by omega)
  ·obtain ⟨f,h3,h4⟩:=List.mem_flatMap.1 h2
   obtain ⟨g,h5,rfl⟩:=List.mem_map.1 h4
   obtain ⟨a1,a2⟩:=hR.r f (List.mem_filter.1 h3).1
   obtain ⟨b1,b2⟩:=hR.r g (List.mem_filter.1 h5).1
   exact FB.comb a1 b1 a2 b2 h1
 exact (key.norm (by omega)).mono (by omega)
theorem Zvy{L:List Yo}(h:(L.length:Int)≤7∧∀f∈L,SmR f):RB 2 (L.map unR)∧(L.map unR).length≤7:=by
 have hs:=(SmR.all h.2).2
 have hl:(L.map unR).length≤7:=by rw [List.length_map];omega
 exact ⟨⟨fun f hf=>⟨(hs f hf).fb,by have:=(hs f hf).l;omega⟩,by omega⟩,hl⟩
end
end Go.Proofs.YtdaonnnlgfhlaaaGreatDoor
