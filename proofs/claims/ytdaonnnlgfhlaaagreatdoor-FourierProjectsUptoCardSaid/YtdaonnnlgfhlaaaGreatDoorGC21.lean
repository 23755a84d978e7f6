import Derived.Test.YtdaonnnlgfhlaaaGreatDoorGC16
import Derived.Test.YtdaonnnlgfhlaaaGreatDoorGC20
import Derived.Test.YtdaonnnlgfhlaaaGreatDoorGC17
import Derived.Test.YtdaonnnlgfhlaaaGreatDoorGC18
set_option linter.all false
set_option maxHeartbeats 6400000
set_option maxRecDepth 100000
namespace Go.Proofs.YtdaonnnlgfhlaaaGreatDoor
section
open Go.RowKit
noncomputable def mg_C3:Code:=(loopsOf (bodyOf Tryz.f78)).getD 0 .skip
def mg_h3(a0:Form)(a1:Form)(a2:Rat)(l_3:List (Int × Rat))(l2_3:List (Int × Rat))(out_3:List (Int × Rat)):St:=
 ⟨[(5,.ptr 0 0),(6,.ptr 1 0),(7,.ptr 2 0),(8,.sl 4 (l_3.map termC)),(9,.sl 4 (l2_3.map termC))],
  [(0,some (.box 26 [.lit (.bool (rawQ a2).s),natA (rawQ a2).l1,natA (rawQ a2).l2] false)),
   (1,some (.box 28 [.nl 4,.lit (.bool false),.nl 1,.nl 1] false)),
   (2,some (.box 28 [.own 3 out_3.length,.lit (.bool (rawQ (a0.2+(a1.2*a2))).s),natA (rawQ (a0.2+(a1.2*a2))).l1,natA (rawQ (a0.2+(a1.2*a2))).l2] false)),
   (3,some (.row 68 4 (out_3.map termC) 0))],4⟩
def mg_o3a(a0:Form)(a1:Form)(a2:Rat)(out_3:List (Int × Rat)):St:=
 ⟨[(6,.ptr 0 0),(7,.ptr 1 0)],
  [(0,some (.box 28 [.nl 4,.lit (.bool false),.nl 1,.nl 1] false)),
   (1,some (.box 28 [.own 2 out_3.length,.lit (.bool (rawQ (a0.2+(a1.2*a2))).s),natA (rawQ (a0.2+(a1.2*a2))).l1,natA (rawQ (a0.2+(a1.2*a2))).l2] false)),
   (2,some (.row 68 4 (out_3.map termC) 0))],3⟩
section
variable{a2:Rat}{l2_3:List (Int × Rat)}{v11:Int}{a0:Form}{out_3:List (Int × Rat)}{l_3:List (Int × Rat)}{a1:Form}{q11:Rat}{n:Nat}{R11:List (Int × Rat)}{q9:Rat}{v9:Int}{v10:Int}{q10:Rat}{R12:List (Int × Rat)}{R13:List (Int × Rat)}{R14:List (Int × Rat)}{v12:Int}{q12:Rat}{R15:List (Int × Rat)}
section
variable(C1:0<(l_3.length:Int))
include C1
theorem mg_r3_1(C2:(l2_3.length:Int)=0)(E3:l_3[0]?=some (v11,q11))(K4:runL n 112 [.agg [.own 0 out_3.length,.lit (.bool (rawQ (a0.2+(a1.2*a2))).s),natA (rawQ (a0.2+(a1.2*a2))).l1,natA (rawQ (a0.2+(a1.2*a2))).l2],.lit (.int .i64 v11),ratV q11] [.row 68 4 (out_3.map termC) 0]=some (.agg [.own 0 out_3.length,.lit (.bool (rawQ (a0.2+(a1.2*a2))).s),natA (rawQ (a0.2+(a1.2*a2))).l1,natA (rawQ (a0.2+(a1.2*a2))).l2],[(0,.row 68 4 (out_3.map termC) 0)]))(U5:0≤1∧1≤(l_3.length:Int)):
  Cont 0 (exec Tryz.prog (tab (n+1)) 0 113 (livesOf 78) big mg_C3) (livesOf 78 3) (mg_h3 a0 a1 a2 l_3 l2_3 out_3) (mg_h3 a0 a1 a2 (l_3.drop 1) l2_3 out_3):=by
 have C1_:0<l_3.length:=by omega
 have C1_z:(l_3.length:Int)≠0:=by omega
 have C1_e:((l_3.length:Int)==0)=false:=by simpa using C1_z
 have C1_g:((l_3.length:Int) !=0)=true:=by simpa using C1_z
 have C2_:((l2_3.length:Int)==0)=true:=by rw [C2];simp
 have C2_n:((l2_3.length:Int) !=0)=false:=by rw [C2];simp
 have C2_l:¬0<(l2_3.length:Int):=by omega
 obtain ⟨EL3,EG3⟩:=List.getElem?_eq_some_iff.1 E3
 simp only [ratV] at K4
 unfold Cont
 simp+decide [mg_h3,loopsOf, Tryz.f78,mg_C3,C1,C1_,C1_e,C1_g,C2_,C2_n,C2_l,EL3,EG3,E3,K4,U5]
theorem mg_r3_2(C2:(l2_3.length:Int)=0)(E3:l_3[0]?=some (v11,q11))(K4:runL n 112 [.agg [.own 0 out_3.length,.lit (.bool (rawQ (a0.2+(a1.2*a2))).s),natA (rawQ (a0.2+(a1.2*a2))).l1,natA (rawQ (a0.2+(a1.2*a2))).l2],.lit (.int .i64 v11),ratV q11] [.row 68 4 (out_3.map termC) 0]=some (.agg [.own 4 R11.length,.lit (.bool (rawQ (a0.2+(a1.2*a2))).s),natA (rawQ (a0.2+(a1.2*a2))).l1,natA (rawQ (a0.2+(a1.2*a2))).l2],[(4,.row 68 4 (R11.map termC) 0)]))(U5:0≤1∧1≤(l_3.length:Int)):
  Cont 0 (exec Tryz.prog (tab (n+1)) 0 113 (livesOf 78) big mg_C3) (livesOf 78 3) (mg_h3 a0 a1 a2 l_3 l2_3 out_3) (mg_h3 a0 a1 a2 (l_3.drop 1) l2_3 R11):=by
 have C1_:0<l_3.length:=by omega
 have C1_z:(l_3.length:Int)≠0:=by omega
 have C1_e:((l_3.length:Int)==0)=false:=by simpa using C1_z
 have C1_g:((l_3.length:Int) !=0)=true:=by simpa using C1_z
 have C2_:((l2_3.length:Int)==0)=true:=by rw [C2];simp
 have C2_n:((l2_3.length:Int) !=0)=false:=by rw [C2];simp
 have C2_l:¬0<(l2_3.length:Int):=by omega
 obtain ⟨EL3,EG3⟩:=List.getElem?_eq_some_iff.1 E3
 simp only [ratV] at K4
 unfold Cont
 simp+decide [mg_h3,loopsOf, Tryz.f78,mg_C3,C1,C1_,C1_e,C1_g,C2_,C2_n,C2_l,EL3,EG3,E3,K4,U5]
section
variable(C2:¬(l2_3.length:Int)=0)(E3:l_3[0]?=some (v9,q9))(E4:l2_3[0]?=some (v10,q10))
include C2 E3 E4
theorem mg_r3_3(C5:v9<v10)(K6:runL n 112 [.agg [.own 0 out_3.length,.lit (.bool (rawQ (a0.2+(a1.2*a2))).s),natA (rawQ (a0.2+(a1.2*a2))).l1,natA (rawQ (a0.2+(a1.2*a2))).l2],.lit (.int .i64 v9),ratV q9] [.row 68 4 (out_3.map termC) 0]=some (.agg [.own 0 out_3.length,.lit (.bool (rawQ (a0.2+(a1.2*a2))).s),natA (rawQ (a0.2+(a1.2*a2))).l1,natA (rawQ (a0.2+(a1.2*a2))).l2],[(0,.row 68 4 (out_3.map termC) 0)]))(U7:0≤1∧1≤(l_3.length:Int)):
  Cont 0 (exec Tryz.prog (tab (n+1)) 0 113 (livesOf 78) big mg_C3) (livesOf 78 3) (mg_h3 a0 a1 a2 l_3 l2_3 out_3) (mg_h3 a0 a1 a2 (l_3.drop 1) l2_3 out_3):=by
 have C1_:0<l_3.length:=by omega
 have C1_z:(l_3.length:Int)≠0:=by omega
 have C1_e:((l_3.length:Int)==0)=false:=by simpa using C1_z
 have C1_g:((l_3.length:Int) !=0)=true:=by simpa using C1_z
 have C2_:((l2_3.length:Int)==0)=false:=by simpa using C2
 have C2_n:((l2_3.length:Int) !=0)=true:=by simpa using C2
 have C2_l:0<(l2_3.length:Int):=by omega
 obtain ⟨EL3,EG3⟩:=List.getElem?_eq_some_iff.1 E3
 obtain ⟨EL4,EG4⟩:=List.getElem?_eq_some_iff.1 E4
 simp only [ratV] at K6
 unfold Cont
 simp+decide [mg_h3,loopsOf, Tryz.f78,mg_C3,C1,C1_,C1_e,C1_g,C2_,C2_n,C2_l,EL3,EG3,E3,EL4,EG4,E4,C5,K6,U7]
theorem mg_r3_4(C5:v9<v10)(K6:runL n 112 [.agg [.own 0 out_3.length,.lit (.bool (rawQ (a0.2+(a1.2*a2))).s),natA (rawQ (a0.2+(a1.2*a2))).l1,natA (rawQ (a0.2+(a1.2*a2))).l2],.lit (.int .i64 v9),ratV q9] [.row 68 4 (out_3.map termC) 0]=some (.agg [.own 4 R12.length,.lit (.bool (rawQ (a0.2+(a1.2*a2))).s),natA (rawQ (a0.2+(a1.2*a2))).l1,natA (rawQ (a0.2+(a1.2*a2))).l2],[(4,.row 68 4 (R12.map termC) 0)]))(U7:0≤1∧1≤(l_3.length:Int)):
  Cont 0 (exec Tryz.prog (tab (n+1)) 0 113 (livesOf 78) big mg_C3) (livesOf 78 3) (mg_h3 a0 a1 a2 l_3 l2_3 out_3) (mg_h3 a0 a1 a2 (l_3.drop 1) l2_3 R12):=by
 have C1_:0<l_3.length:=by omega
 have C1_z:(l_3.length:Int)≠0:=by omega
 have C1_e:((l_3.length:Int)==0)=false:=by simpa using C1_z
 have C1_g:((l_3.length:Int) !=0)=true:=by simpa using C1_z
 have C2_:((l2_3.length:Int)==0)=false:=by simpa using C2
 have C2_n:((l2_3.length:Int) !=0)=true:=by simpa using C2
 have C2_l:0<(l2_3.length:Int):=by omega
 obtain ⟨EL3,EG3⟩:=List.getElem?_eq_some_iff.1 E3
 obtain ⟨EL4,EG4⟩:=List.getElem?_eq_some_iff.1 E4
 simp only [ratV] at K6
 unfold Cont
 simp+decide [mg_h3,loopsOf, Tryz.f78,mg_C3,C1,C1_,C1_e,C1_g,C2_,C2_n,C2_l,EL3,EG3,E3,EL4,EG4,E4,C5,K6,U7]
theorem mg_r3_5(C5:¬v9<v10)(C6:v10<v9)(B7a:H q10≤17179869184)(B7b:H a2≤17179869184)(K8:runL n 112 [.agg [.own 0 out_3.length,.lit (.bool (rawQ (a0.2+(a1.2*a2))).s),natA (rawQ (a0.2+(a1.2*a2))).l1,natA (rawQ (a0.2+(a1.2*a2))).l2],.lit (.int .i64 v10),ratV (q10*a2)] [.row 68 4 (out_3.map termC) 0]=some (.agg [.own 0 out_3.length,.lit (.bool (rawQ (a0.2+(a1.2*a2))).s),natA (rawQ (a0.2+(a1.2*a2))).l1,natA (rawQ (a0.2+(a1.2*a2))).l2],[(0,.row 68 4 (out_3.map termC) 0)]))(U9:0≤1∧1≤(l2_3.length:Int)):
  Cont 0 (exec Tryz.prog (tab (n+1)) 0 113 (livesOf 78) big mg_C3) (livesOf 78 3) (mg_h3 a0 a1 a2 l_3 l2_3 out_3) (mg_h3 a0 a1 a2 l_3 (l2_3.drop 1) out_3):=by
 have C1_:0<l_3.length:=by omega
 have C1_z:(l_3.length:Int)≠0:=by omega
 have C1_e:((l_3.length:Int)==0)=false:=by simpa using C1_z
 have C1_g:((l_3.length:Int) !=0)=true:=by simpa using C1_z
 have C2_:((l2_3.length:Int)==0)=false:=by simpa using C2
 have C2_n:((l2_3.length:Int) !=0)=true:=by simpa using C2
 have C2_l:0<(l2_3.length:Int):=by omega
 obtain ⟨EL3,EG3⟩:=List.getElem?_eq_some_iff.1 E3
 obtain ⟨EL4,EG4⟩:=List.getElem?_eq_some_iff.1 E4
 have K7:=r_mul (p:=q10) (q:=a2) B7a B7b
 simp only [ratV] at K8
 unfold Cont
 simp+decide [mg_h3,loopsOf, Tryz.f78,mg_C3,C1,C1_,C1_e,C1_g,C2_,C2_n,C2_l,EL3,EG3,E3,EL4,EG4,E4,C5,C6,K7,K8,U9]
theorem mg_r3_6(C5:¬v9<v10)(C6:v10<v9)(B7a:H q10≤17179869184)(B7b:H a2≤17179869184)(K8:runL n 112 [.agg [.own 0 out_3.length,.lit (.bool (rawQ (a0.2+(a1.2*a2))).s),natA (rawQ (a0.2+(a1.2*a2))).l1,natA (rawQ (a0.2+(a1.2*a2))).l2],.lit (.int .i64 v10),ratV (q10*a2)] [.row 68 4 (out_3.map termC) 0]=some (.agg [.own 4 R13.length,.lit (.bool (rawQ (a0.2+(a1.2*a2))).s),natA (rawQ (a0.2+(a1.2*a2))).l1,natA (rawQ (a0.2+(a1.2*a2))).l2],[(4,.row 68 4 (R13.map termC) 0)]))(U9:0≤1∧1≤(l2_3.length:Int)):
  Cont 0 (exec Tryz.prog (tab (n+1)) 0 113 (livesOf 78) big mg_C3) (livesOf 78 3) (mg_h3 a0 a1 a2 l_3 l2_3 out_3) (mg_h3 a0 a1 a2 l_3 (l2_3.drop 1) R13):=by
 have C1_:0<l_3.length:=by omega
 have C1_z:(l_3.length:Int)≠0:=by omega
 have C1_e:((l_3.length:Int)==0)=false:=by simpa using C1_z
 have C1_g:((l_3.length:Int) !=0)=true:=by simpa using C1_z
 have C2_:((l2_3.length:Int)==0)=false:=by simpa using C2
 have C2_n:((l2_3.length:Int) !=0)=true:=by simpa using C2
 have C2_l:0<(l2_3.length:Int):=by omega
 obtain ⟨EL3,EG3⟩:=List.getElem?_eq_some_iff.1 E3
 obtain ⟨EL4,EG4⟩:=List.getElem?_eq_some_iff.1 E4
 have K7:=r_mul (p:=q10) (q:=a2) B7a B7b
 simp only [ratV] at K8
 unfold Cont
 simp+decide [mg_h3,loopsOf, Tryz.f78,mg_C3,C1,C1_,C1_e,C1_g,C2_,C2_n,C2_l,EL3,EG3,E3,EL4,EG4,E4,C5,C6,K7,K8,U9]
section
variable(C5:¬v9<v10)(C6:¬v10<v9)(B7a:H q10≤17179869184)(B7b:H a2≤17179869184)(B8a:H q9≤17179869184)(B8b:H (q10*a2)≤17179869184)
include C5 C6 B7a B7b B8a B8b
theorem mg_r3_7(K9:runL n 112 [.agg [.own 0 out_3.length,.lit (.bool (rawQ (a0.2+(a1.2*a2))).s),natA (rawQ (a0.2+(a1.2*a2))).l1,natA (rawQ (a0.2+(a1.2*a2))).l2],.lit (.int .i64 v9),ratV (q9+(q10*a2))] [.row 68 4 (out_3.map termC) 0]=some (.agg [.own 0 out_3.length,.lit (.bool (rawQ (a0.2+(a1.2*a2))).s),natA (rawQ (a0.2+(a1.2*a2))).l1,natA (rawQ (a0.2+(a1.2*a2))).l2],[(0,.row 68 4 (out_3.map termC) 0)]))(U10:0≤1∧1≤(l_3.length:Int))(U11:0≤1∧1≤(l2_3.length:Int)):
  Cont 0 (exec Tryz.prog (tab (n+1)) 0 113 (livesOf 78) big mg_C3) (livesOf 78 3) (mg_h3 a0 a1 a2 l_3 l2_3 out_3) (mg_h3 a0 a1 a2 (l_3.drop 1) (l2_3.drop 1) out_3):=by
 have C1_:0<l_3.length:=by omega
 have C1_z:(l_3.length:Int)≠0:=by omega
 have C1_e:((l_3.length:Int)==0)=false:=by simpa using C1_z
 have C1_g:((l_3.length:Int) !=0)=true:=by simpa using C1_z
 have C2_:((l2_3.length:Int)==0)=false:=by simpa using C2
 have C2_n:((l2_3.length:Int) !=0)=true:=by simpa using C2
 have C2_l:0<(l2_3.length:Int):=by omega
 obtain ⟨EL3,EG3⟩:=List.getElem?_eq_some_iff.1 E3
 obtain ⟨EL4,EG4⟩:=List.getElem?_eq_some_iff.1 E4
 have K7:=r_mul (p:=q10) (q:=a2) B7a B7b
 have K8:=r_add (p:=q9) (q:=q10*a2) B8a B8b
 simp only [ratV] at K9
 unfold Cont
 simp+decide [mg_h3,loopsOf, Tryz.f78,mg_C3,C1,C1_,C1_e,C1_g,C2_,C2_n,C2_l,EL3,EG3,E3,EL4,EG4,E4,C5,C6,K7,K8,K9,U10,U11]
theorem mg_r3_8(K9:runL n 112 [.agg [.own 0 out_3.length,.lit (.bool (rawQ (a0.2+(a1.2*a2))).s),natA (rawQ (a0.2+(a1.2*a2))).l1,natA (rawQ (a0.2+(a1.2*a2))).l2],.lit (.int .i64 v9),ratV (q9+(q10*a2))] [.row 68 4 (out_3.map termC) 0]=some (.agg [.own 4 R14.length,.lit (.bool (rawQ (a0.2+(a1.2*a2))).s),natA (rawQ (a0.2+(a1.2*a2))).l1,natA (rawQ (a0.2+(a1.2*a2))).l2],[(4,.row 68 4 (R14.map termC) 0)]))(U10:0≤1∧1≤(l_3.length:Int))(U11:0≤1∧1≤(l2_3.length:Int)):
  Cont 0 (exec Tryz.prog (tab (n+1)) 0 113 (livesOf 78) big mg_C3) (livesOf 78 3) (mg_h3 a0 a1 a2 l_3 l2_3 out_3) (mg_h3 a0 a1 a2 (l_3.drop 1) (l2_3.drop 1) R14):=by
 have C1_:0<l_3.length:=by omega
 have C1_z:(l_3.length:Int)≠0:=by omega
 have C1_e:((l_3.length:Int)==0)=false:=by simpa using C1_z
 have C1_g:((l_3.length:Int) !=0)=true:=by simpa using C1_z
 have C2_:((l2_3.length:Int)==0)=false:=by simpa using C2
 have C2_n:((l2_3.length:Int) !=0)=true:=by simpa using C2
 have C2_l:0<(l2_3.length:Int):=by omega
 obtain ⟨EL3,EG3⟩:=List.getElem?_eq_some_iff.1 E3
 obtain ⟨EL4,EG4⟩:=List.getElem?_eq_some_iff.1 E4
 have K7:=r_mul (p:=q10) (q:=a2) B7a B7b
 have K8:=r_add (p:=q9) (q:=q10*a2) B8a B8b
 simp only [ratV] at K9
 unfold Cont
 simp+decide [mg_h3,loopsOf, Tryz.f78,mg_C3,C1,C1_,C1_e,C1_g,C2_,C2_n,C2_l,EL3,EG3,E3,EL4,EG4,E4,C5,C6,K7,K8,K9,U10,U11]
end
end
end
theorem mg_r3_9(C1:¬0<(l_3.length:Int))(C2:0<(l2_3.length:Int))(E3:l2_3[0]?=some (v12,q12))(B4a:H q12≤17179869184)(B4b:H a2≤17179869184)(K5:runL n 112 [.agg [.own 0 out_3.length,.lit (.bool (rawQ (a0.2+(a1.2*a2))).s),natA (rawQ (a0.2+(a1.2*a2))).l1,natA (rawQ (a0.2+(a1.2*a2))).l2],.lit (.int .i64 v12),ratV (q12*a2)] [.row 68 4 (out_3.map termC) 0]=some (.agg [.own 0 out_3.length,.lit (.bool (rawQ (a0.2+(a1.2*a2))).s),natA (rawQ (a0.2+(a1.2*a2))).l1,natA (rawQ (a0.2+(a1.2*a2))).l2],[(0,.row 68 4 (out_3.map termC) 0)]))(U6:0≤1∧1≤(l2_3.length:Int)):
  Cont 0 (exec Tryz.prog (tab (n+1)) 0 113 (livesOf 78) big mg_C3) (livesOf 78 3) (mg_h3 a0 a1 a2 l_3 l2_3 out_3) (mg_h3 a0 a1 a2 l_3 (l2_3.drop 1) out_3):=by
 have C1_:¬0<l_3.length:=by omega
 have C1_z:(l_3.length:Int)=0:=by omega
 have C1_e:((l_3.length:Int)==0)=true:=by rw [C1_z];simp
 have C1_g:((l_3.length:Int) !=0)=false:=by rw [C1_z];simp
 have C2_:0<l2_3.length:=by omega
 have C2_z:(l2_3.length:Int)≠0:=by omega
 have C2_e:((l2_3.length:Int)==0)=false:=by simpa using C2_z
 have C2_g:((l2_3.length:Int) !=0)=true:=by simpa using C2_z
 obtain ⟨EL3,EG3⟩:=List.getElem?_eq_some_iff.1 E3
 have K4:=r_mul (p:=q12) (q:=a2) B4a B4b
 simp only [ratV] at K5
 unfold Cont
 simp+decide [mg_h3,loopsOf, Tryz.f78,mg_C3,C1,C1_,C1_e,C1_g,C2,C2_,C2_e,C2_g,EL3,EG3,E3,K4,K5,U6]
theorem mg_r3_10(C1:¬0<(l_3.length:Int))(C2:0<(l2_3.length:Int))(E3:l2_3[0]?=some (v12,q12))(B4a:H q12≤17179869184)(B4b:H a2≤17179869184)(K5:runL n 112 [.agg [.own 0 out_3.length,.lit (.bool (rawQ (a0.2+(a1.2*a2))).s),natA (rawQ (a0.2+(a1.2*a2))).l1,natA (rawQ (a0.2+(a1.2*a2))).l2],.lit (.int .i64 v12),ratV (q12*a2)] [.row 68 4 (out_3.map termC) 0]=some (.agg [.own 4 R15.length,.lit (.bool (rawQ (a0.2+(a1.2*a2))).s),natA (rawQ (a0.2+(a1.2*a2))).l1,natA (rawQ (a0.2+(a1.2*a2))).l2],[(4,.row 68 4 (R15.map termC) 0)]))(U6:0≤1∧1≤(l2_3.length:Int)):
  Cont 0 (exec Tryz.prog (tab (n+1)) 0 113 (livesOf 78) big mg_C3) (livesOf 78 3) (mg_h3 a0 a1 a2 l_3 l2_3 out_3) (mg_h3 a0 a1 a2 l_3 (l2_3.drop 1) R15):=by
 have C1_:¬0<l_3.length:=by omega
 have C1_z:(l_3.length:Int)=0:=by omega
 have C1_e:((l_3.length:Int)==0)=true:=by rw [C1_z];simp
 have C1_g:((l_3.length:Int) !=0)=false:=by rw [C1_z];simp
 have C2_:0<l2_3.length:=by omega
 have C2_z:(l2_3.length:Int)≠0:=by omega
 have C2_e:((l2_3.length:Int)==0)=false:=by simpa using C2_z
 have C2_g:((l2_3.length:Int) !=0)=true:=by simpa using C2_z
 obtain ⟨EL3,EG3⟩:=List.getElem?_eq_some_iff.1 E3
 have K4:=r_mul (p:=q12) (q:=a2) B4a B4b
 simp only [ratV] at K5
 unfold Cont
 simp+decide [mg_h3,loopsOf, Tryz.f78,mg_C3,C1,C1_,C1_e,C1_g,C2,C2_,C2_e,C2_g,EL3,EG3,E3,K4,K5,U6]
theorem mg_x3_1(C1:¬0<(l_3.length:Int))(C2:¬0<(l2_3.length:Int)):
  Leave 0 (exec Tryz.prog (tab (n+1)) 0 113 (livesOf 78) big mg_C3) (livesOf 78 (outOf 3)) (mg_h3 a0 a1 a2 l_3 l2_3 out_3) (.exit 0) (mg_o3a a0 a1 a2 out_3):=by
 have C1_:¬0<l_3.length:=by omega
 have C1_z:(l_3.length:Int)=0:=by omega
 have C1_e:((l_3.length:Int)==0)=true:=by rw [C1_z];simp
 have C1_g:((l_3.length:Int) !=0)=false:=by rw [C1_z];simp
 have C2_:¬0<l2_3.length:=by omega
 have C2_z:(l2_3.length:Int)=0:=by omega
 have C2_e:((l2_3.length:Int)==0)=true:=by rw [C2_z];simp
 have C2_g:((l2_3.length:Int) !=0)=false:=by rw [C2_z];simp
 unfold Leave
 simp+decide [mg_h3,loopsOf, Tryz.f78,mg_o3a,mg_C3,C1,C1_,C1_e,C1_g,C2,C2_,C2_e,C2_g]
theorem mg_f1(B1a:H a1.2≤17179869184)(B1b:H a2≤17179869184)(B2a:H a0.2≤17179869184)(B2b:H (a1.2*a2)≤17179869184)(L3:loopG Tryz.prog (tab (n+1)) 0 113 (livesOf 78) 3 mg_C3 (mg_h3 a0 a1 a2 a0.1 a1.1 [])=some (.exit 0,mg_o3a a0 a1 a2 out_3)):
  run (n+1) 78 [formV a0,formV a1,ratV a2]=some (formV (out_3,a0.2+(a1.2*a2))):=by
 have K1:=r_mul (p:=a1.2) (q:=a2) B1a B1b
 have K2:=r_add (p:=a0.2) (q:=a1.2*a2) B2a B2b
 unfold run fnP
 simp+decide [Tryz.f78,K1,K2]
 rw [loopX_G (C':=mg_C3) (e:=(mg_h3 a0 a1 a2 a0.1 a1.1 [])) ?_ ?_,L3]
 rotate_left
 ·kernel_rfl
 ·simp+decide [mg_h3,K1,K2]
 simp+decide [mg_o3a,K1,K2]
end
theorem lad_f1{n:Nat}{a0:Form}{a1:Form}{r:Form}(K2:run (n+1) 78 [formV a0,formV a1,ratV (ofQ 1)]=some (formV r)):
  run (n+2) 48 [formV a0,formV a1]=some (formV r):=by
 have K1:=r_ofq (z:=1) (by omega) (by omega)
 simp only [ratV,formV] at K2
 unfold run fnP
 simp+decide [Tryz.f48,K1,K2]
theorem lsc_f1{n:Nat}{a0:Form}{a1:Rat}{r:Form}(K1:run (n+1) 78 [.agg [.sl 4 [],.lit (.bool false),.sl 1 [],.sl 1 []],formV a0,ratV a1]=some (formV r)):
  run (n+2) 37 [formV a0,ratV a1]=some (formV r):=by
 simp only [ratV,formV] at K1
 unfold run fnP
 simp+decide [Tryz.f37,K1]
end
section
open Go.RowKit
attribute [local irreducible] run runL loopG exec
def mgK:List (Int × Rat)→List (Int × Rat)→Nat
 | [],m=>m.length
 | a::l,[]=>(a::l).length
 | a::l,b::m=>1+if a.1<b.1 then mgK l (b::m) else if b.1<a.1 then mgK (a::l) m else mgK l m
termination_by l m=>l.length+m.length
theorem mgK_nil(m:List (Int × Rat)):mgK [] m=m.length:=by rw [mgK]
theorem mgK_a(a:Int × Rat)(l:List (Int × Rat)):mgK (a::l) []=l.length+1:=by rw [mgK];rfl
theorem mgK_ab(a b:Int × Rat)(l m:List (Int × Rat)):mgK (a::l) (b::m)=1+if a.1<b.1 then mgK l (b::m) else if b.1<a.1 then mgK (a::l) m else mgK l m:=by rw [mgK]
theorem mgK_one(l:List (Int × Rat)):mgK l []=l.length:=by cases l;exact mgK_nil [];exact mgK_a _ _
theorem mgK_le:∀(k:Nat) (l m:List (Int × Rat)),l.length+m.length≤k→mgK l m≤l.length+m.length
 | k,[],m,h=>by rw [mgK_nil];simp
 | k,a::l,[],h=>by rw [mgK_a];simp
 | 0,a::l,b::m,h=>by simp at h
 | k+1,a::l,b::m,h=>by
   simp only [List.length_cons] at h
   have h1:=mgK_le k l (b::m) (by simp <;>omega)
   have h2:=mgK_le k (a::l) m (by simp <;>omega)
   have h3:=mgK_le k l m (by omega)
   simp only [List.length_cons] at h1 h2
   rw [mgK_ab]
   simp only [List.length_cons]
   split
   ·omega
   ·split <;>omega
structure MgS where
 l:List (Int × Rat)
 m:List (Int × Rat)
 out:List (Int × Rat)
theorem put_no{v:Int}{q:Rat}(h:q=0):put1 v q=[]:=if_pos h
theorem put_yes{v:Int}{q:Rat}(h:¬q=0):put1 v q=[(v,q)]:=if_neg h
theorem merge_c{n:Nat}{f g:Form}{c:Rat}{b:Nat}(hF:∀t∈f.1,H t.2≤b)(hG:∀t∈g.1,H t.2≤b)(hb:b≤1000000)(hc:H c≤1000000)(hk:H f.2≤1000000)(hk2:H g.2≤1000000)(hlf:f.1.length≤1000000)(hlg:g.1.length≤1000000):
  run (n+1) 78 [formV f,formV g,ratV c]=some (formV (mergeV f.1 g.1 c,f.2+g.2*c)):=by
 have hm:=H_mul g.2 c
 have ha:=H_add f.2 (g.2*c)
 have hM:=mgK_le _ f.1 g.1 (Nat.le_refl _)
 obtain ⟨b',hL,hI⟩:=loopG_R (O:=tab (n+1)) (P:= Tryz.prog) (m:=0) (N:=113) (lives:=livesOf 78) (r:=3) (C:=mg_C3) (exN:=.exit 0) (M:=mgK f.1 g.1) (enc:=fun i (s:MgS)=>mg_h3 f g c s.l s.m s.out) (out:=fun s=>mg_o3a f g c s.out)
  (fun i s=>s.out++mergeV s.l s.m c=mergeV f.1 g.1 c∧mgK s.l s.m+i=mgK f.1 g.1∧s.out.length≤i∧(∀t∈s.l,H t.2≤b)∧∀t∈s.m,H t.2≤b) ⟨f.1,g.1,[]⟩ ⟨rfl,rfl,by simp,hF,hG⟩ (by omega) (by simp)
  (fun i s hi hI=>by
   obtain ⟨l,m,out⟩:=s
   obtain ⟨i1,i2,i3,i4,i5⟩:=hI
   dsimp only at i1 i2 i3 i4 i5 ⊢
   have fin:∀(l' m':List (Int × Rat)) (v:Int) (q:Rat),mergeV l m c=put1 v q++mergeV l' m' c→mgK l m=1+mgK l' m'→(∀t∈l',H t.2≤b)→(∀t∈m',H t.2≤b)→∀(q':Rat),q'=q→
     (out++put1 v q')++mergeV l' m' c=mergeV f.1 g.1 c∧mgK l' m'+(i+1)=mgK f.1 g.1∧(out++put1 v q').length≤i+1∧(∀t∈l',H t.2≤b)∧∀t∈m',H t.2≤b:=fun l' m' v q h1 h2 h3 h4 q' hq=>by
    subst hq
    refine ⟨by rw [List.append_assoc,←h1];exact i1,by omega,?_,h3,h4⟩
    have:=put1_len v q'
    rw [List.length_append];omega
   match l,m with
   | [],[]=>rw [mgK_nil] at i2;simp at i2;omega
   | (v,q)::l,[]=>
     have e:=fin l [] v q (mergeV_a (v,q) l c) (by rw [mgK_a,mgK_one];omega) (fun t ht=>i4 t (by simp [ht])) i5 q rfl
     have hq:H q≤b:=i4 (v,q) (by simp)
     by_cases h0:q=0
     ·rw [put_no h0,List.append_nil] at e
      exact ⟨⟨l,[],out⟩,mg_r3_1 (l_3:=(v,q)::l) (by simp <;>omega) (by simp) rfl (pt_same (by omega) h0) ⟨by omega,by simp <;>omega⟩,e⟩
     ·rw [put_yes h0] at e
      exact ⟨⟨l,[],out++[(v,q)]⟩,mg_r3_2 (l_3:=(v,q)::l) (by simp <;>omega) (by simp) rfl (pt_new (by omega) h0 (by omega)) ⟨by omega,by simp <;>omega⟩,e⟩
   | [],(u,p)::m=>
     have e:=fin [] m u (p*c) (mergeV_b (u,p) m c) (by rw [mgK_nil,mgK_nil,List.length_cons];omega) i4 (fun t ht=>i5 t (by simp [ht])) (p*c) rfl
     have hp:H p≤b:=i5 (u,p) (by simp)
     have hpc:=H_mul p c
     by_cases h0:p*c=0
     ·rw [put_no h0,List.append_nil] at e
      exact ⟨⟨[],m,out⟩,mg_r3_9 (l2_3:=(u,p)::m) (by simp) (by simp <;>omega) rfl (by omega) (by omega) (pt_same (by omega) h0) ⟨by omega,by simp <;>omega⟩,e⟩
     ·rw [put_yes h0] at e
      exact ⟨⟨[],m,out++[(u,p*c)]⟩,mg_r3_10 (l2_3:=(u,p)::m) (by simp) (by simp <;>omega) rfl (by omega) (by omega) (pt_new (by omega) h0 (by omega)) ⟨by omega,by simp <;>omega⟩,e⟩
   | (v,q)::l,(u,p)::m=>
     have hq:H q≤b:=i4 (v,q) (by simp)
     have hp:H p≤b:=i5 (u,p) (by simp)
     have hpc:=H_mul p c
     have hqp:=H_add q (p*c)
     have hk:=mgK_ab (v,q) (u,p) l m
     dsimp only at hk
     by_cases c1:v<u
     ·rw [if_pos c1] at hk
      have e:=fin l ((u,p)::m) v q (mergeV_lt c1 l m c) hk (fun t ht=>i4 t (by simp [ht])) i5 q rfl
      by_cases h0:q=0
      ·rw [put_no h0,List.append_nil] at e
       exact ⟨⟨l,(u,p)::m,out⟩,mg_r3_3 (l_3:=(v,q)::l) (l2_3:=(u,p)::m) (by simp <;>omega) (by simp <;>omega) rfl rfl c1 (pt_same (by omega) h0) ⟨by omega,by simp <;>omega⟩,e⟩
      ·rw [put_yes h0] at e
       exact ⟨⟨l,(u,p)::m,out++[(v,q)]⟩,mg_r3_4 (l_3:=(v,q)::l) (l2_3:=(u,p)::m) (by simp <;>omega) (by simp <;>omega) rfl rfl c1 (pt_new (by omega) h0 (by omega)) ⟨by omega,by simp <;>omega⟩,e⟩
     ·rw [if_neg c1] at hk
      by_cases c2:u<v
      ·rw [if_pos c2] at hk
       have e:=fin ((v,q)::l) m u (p*c) (mergeV_gt c2 l m c) hk i4 (fun t ht=>i5 t (by simp [ht])) (p*c) rfl
       by_cases h0:p*c=0
       ·rw [put_no h0,List.append_nil] at e
        exact ⟨⟨(v,q)::l,m,out⟩,mg_r3_5 (l_3:=(v,q)::l) (l2_3:=(u,p)::m) (by simp <;>omega) (by simp <;>omega) rfl rfl c1 c2 (by omega) (by omega) (pt_same (by omega) h0) ⟨by omega,by simp <;>omega⟩,e⟩
       ·rw [put_yes h0] at e
        exact ⟨⟨(v,q)::l,m,out++[(u,p*c)]⟩,mg_r3_6 (l_3:=(v,q)::l) (l2_3:=(u,p)::m) (by simp <;>omega) (by simp <;>omega) rfl rfl c1 c2 (by omega) (by omega) (pt_new (by omega) h0 (by omega)) ⟨by omega,by simp <;>omega⟩,e⟩
      ·rw [if_neg c2] at hk
       have huv:v=u:=by omega
       have e:=fin l m v (q+p*c) (mergeV_eq huv l m c) hk (fun t ht=>i4 t (by simp [ht])) (fun t ht=>i5 t (by simp [ht])) (q+p*c) rfl
       by_cases h0:q+p*c=0
       ·rw [put_no h0,List.append_nil] at e
        exact ⟨⟨l,m,out⟩,mg_r3_7 (l_3:=(v,q)::l) (l2_3:=(u,p)::m) (by simp <;>omega) (by simp <;>omega) rfl rfl c1 c2 (by omega) (by omega) (by omega) (by omega) (pt_same (by omega) h0) ⟨by omega,by simp <;>omega⟩ ⟨by omega,by simp <;>omega⟩,e⟩
       ·rw [put_yes h0] at e
        exact ⟨⟨l,m,out++[(v,q+p*c)]⟩,mg_r3_8 (l_3:=(v,q)::l) (l2_3:=(u,p)::m) (by simp <;>omega) (by simp <;>omega) rfl rfl c1 c2 (by omega) (by omega) (by omega) (by omega) (pt_new (by omega) h0 (by omega)) ⟨by omega,by simp <;>omega⟩ ⟨by omega,by simp <;>omega⟩,e⟩)
  (fun s hI=>by
   obtain ⟨l,m,out⟩:=s
   obtain ⟨_,i2,_⟩:=hI
   dsimp only at i2 ⊢
   have h0:l=[]∧m=[]:=by
    match l,m with
    | [],[]=>exact ⟨rfl,rfl⟩
    | a::l,[]=>rw [mgK_a] at i2;omega
    | [],b::m=>rw [mgK_nil] at i2;simp at i2
    | a::l,b::m=>rw [mgK_ab] at i2;omega
   obtain ⟨rfl,rfl⟩:=h0
   exact mg_x3_1 (by simp) (by simp))
 obtain ⟨l,m,out⟩:=b'
 obtain ⟨i1,i2,_⟩:=hI
 dsimp only at i1 i2 hL
 have h0:l=[]∧m=[]:=by
  match l,m with
  | [],[]=>exact ⟨rfl,rfl⟩
  | a::l,[]=>rw [mgK_a] at i2;omega
  | [],b::m=>rw [mgK_nil] at i2;simp at i2
  | a::l,b::m=>rw [mgK_ab] at i2;omega
 obtain ⟨rfl,rfl⟩:=h0
 rw [mergeV_nil,List.append_nil] at i1
 subst i1
 exact mg_f1 (by omega) (by omega) (by omega) (by omega) hL
theorem padd_c{n:Nat}{f g:Form}{b:Nat}(hF:∀t∈f.1,H t.2≤b)(hG:∀t∈g.1,H t.2≤b)(hb:b≤1000000)(hk:H f.2≤1000000)(hk2:H g.2≤1000000)(hlf:f.1.length≤1000000)(hlg:g.1.length≤1000000):
  run (n+2) 48 [formV f,formV g]=some (formV (mergeV f.1 g.1 1,f.2+g.2)):=by
 have e:ofQ 1=1:=by decide+kernel
 have h:=lad_f1 (n:=n) (merge_c (n:=n) (c:=ofQ 1) hF hG hb (by rw [e];decide) hk hk2 hlf hlg)
 rw [e,Rat.mul_one] at h
 exact h
theorem pscl_c{n:Nat}{f:Form}{c:Rat}{b:Nat}(hF:∀t∈f.1,H t.2≤b)(hb:b≤1000000)(hk:H f.2≤1000000)(hc:H c≤1000000)(hlf:f.1.length≤1000000):
  run (n+2) 37 [formV f,ratV c]=some (formV (mergeV [] f.1 c,f.2*c)):=by
 have h:=merge_c (n:=n) (f:=([],0)) (g:=f) (c:=c) (b:=b) (fun t ht=>by cases ht) hF hb hc (by decide) hk (by simp) hlf
 rw [Rat.zero_add] at h
 refine lsc_f1 (n:=n) ?_
 simpa using h
end
section
open Go.RowKit
end
section
open Go.RowKit
attribute [local irreducible] run runL loopG exec
end
section
open Go.RowKit
attribute [local irreducible] run runL loopG exec
theorem num_neg1{q:Rat}:q.num<0↔q<0:=by
 have:=Rat.num_nonneg (q:=q)
 constructor
 ·intro h
  have h1:¬0≤q:=fun h2=>by have:=this.2 h2;omega
  grind
 ·intro h
  have h1:¬0≤q.num:=fun h2=>by have:=this.1 h2;grind
  omega
theorem num_pos1{q:Rat}:0<q.num↔0<q:=by
 have h:=num_neg1 (q:=-q)
 rw [Rat.neg_num] at h
 constructor
 ·intro h1
  have:=h.1 (by omega)
  grind
 ·intro h1
  have:=h.2 (by grind)
  omega
theorem sgR_one{q:Rat}(h:0<q):sgR q=1:=Int.sign_eq_one_of_pos (num_pos1.2 h)
theorem sgR_mone{q:Rat}(h:q<0):sgR q=-1:=Int.sign_eq_neg_one_of_neg (num_neg1.2 h)
theorem sgR_three(q:Rat):(0<q∧sgR q=1)∨(q<0∧sgR q=-1)∨(q=0∧sgR q=0):=by
 by_cases h1:0<q
 ·exact .inl ⟨h1,sgR_one h1⟩
 ·by_cases h2:q<0
  ·exact .inr (.inl ⟨h2,sgR_mone h2⟩)
  ·have:q=0:=by grind
   exact .inr (.inr ⟨this,sgR_eq_zero.2 this⟩)
theorem sgR_in(q:Rat):InI (sgR q):=by
 rcases sgR_three q with ⟨_,h⟩|⟨_,h⟩|⟨_,h⟩ <;>rw [h] <;>exact ⟨by omega,by omega⟩
theorem sgR_lt0{q:Rat}:sgR q<0↔q<0:=by
 rcases sgR_three q with ⟨h1,h⟩|⟨h1,h⟩|⟨h1,h⟩ <;>rw [h]
 ·exact ⟨fun h=>absurd h (by omega),fun h=>by grind⟩
 ·exact ⟨fun _=>h1,fun _=>by omega⟩
 ·exact ⟨fun h=>absurd h (by omega),fun h=>by grind⟩
theorem sgR_ge0{q:Rat}:0≤sgR q↔0≤q:=by
 have:=sgR_lt0 (q:=q)
 constructor
 ·intro h
  false_or_by_contra
  have:=this.2 (by grind)
  omega
 ·intro h
  false_or_by_contra
  have:=this.1 (by omega)
  grind
theorem ofQ_one:ofQ 1=1:=by decide+kernel
theorem sgR_sgQ(q:Rat):ofQ (sgR q)=sgQ q:=by
 unfold sgQ
 rcases sgR_three q with ⟨h1,h⟩|⟨h1,h⟩|⟨h1,h⟩ <;>rw [h]
 ·rw [if_pos h1];decide+kernel
 ·rw [if_neg (by grind),if_pos h1];decide+kernel
 ·rw [if_neg (by grind),if_neg (by grind)];decide+kernel
theorem absQ_R(q:Rat):absQ q=absR q:=by
 unfold absQ absR
 by_cases h:q<0
 ·rw [if_pos (num_neg1.2 h),if_pos h]
 ·rw [if_neg (fun e=>h (num_neg1.1 e)),if_neg h]
theorem raw_s{q:Rat}:(rawQ q).s=true↔q<0:=by
 show decide (q.num<0)=true↔q<0
 rw [decide_eq_true_iff]
 exact num_neg1
theorem raw_sf{q:Rat}(h:¬q<0):(rawQ q).s=false:=by
 rcases Bool.eq_false_or_eq_true (rawQ q).s with h1|h1
 ·exact absurd (raw_s.1 h1) h
 ·exact h1
structure FB (m:Nat) (f:Form):Prop where
 s:Srt f.1
 h:FH m f
 l:f.1.length≤100
 v:∀t∈f.1,0≤t.1∧t.1<1099511627776
theorem FB.mono{m k:Nat}{f:Form}(h:FB m f)(hk:m≤k):FB k f:=⟨h.s,⟨fun t ht=>Nat.le_trans (h.h.1 t ht) hk,Nat.le_trans h.h.2 hk⟩,h.l,h.v⟩
theorem FB.bd{m k:Nat}{f:Form}(h:FB m f)(hk:m≤k):BdF k f:=⟨by have:=h.l;omega,fun t ht=>Nat.le_trans (h.h.1 t ht) hk,Nat.le_trans h.h.2 hk⟩
theorem norm_term{f:Form}(hs:Srt f.1):(normF f).1.length=f.1.length∧∀t∈(normF f).1,∃u∈f.1,u.1=t.1:=by
 obtain ⟨F,q⟩:=f
 cases F with
 | nil=>exact ⟨rfl,fun t ht=>(by cases ht)⟩
 | cons t F=>
   have hp:=div_pos1 (absR_pos (hs.2 t List.mem_cons_self))
   have e:(normF (t::F,q)).1=(t::F).map fun u=>(u.1,u.2*(1 / absR t.2)):=scl_map (fun e=>by rw [e] at hp;exact absurd hp (by decide)) hs.2
   rw [e]
   refine ⟨by rw [List.length_map],fun u hu=>?_⟩
   obtain ⟨w,hw,rfl⟩:=List.mem_map.1 hu
   exact ⟨w,hw,rfl⟩
theorem FB.norm{m:Nat}{f:Form}(h:FB m f)(h1:1≤m):FB (m+m) (normF f):=by
 obtain ⟨a,b⟩:=norm_term h.s
 refine ⟨norm_srt h.s,FH.norm h.s h.h h1,by rw [a];exact h.l,fun t ht=>?_⟩
 obtain ⟨u,hu,e⟩:=b t ht
 rw [←e]
 exact h.v u hu
theorem FB.tx{m:Nat}{f:Form}(h:FB m f)(hm:m≤10000):TxB f:=⟨h.l,fun t ht=>⟨Nat.le_trans (h.h.1 t ht) hm,(h.v t ht).1,by have:=(h.v t ht).2;omega⟩,Nat.le_trans h.h.2 hm⟩
section
variable {n m : Nat} {f : Form} {L : List Form}
theorem nrm_c(h:FB m f)(hm:m≤5000):run (n+7) 11 [formV f]=some (formV (normF f)):=by
 obtain ⟨F,q⟩:=f
 have hq:H q≤5000:=Nat.le_trans h.h.2 hm
 cases F with
 | nil=>
   have e:=fnm_f1 (n:=n) (a0:=(([],q):Form)) rfl (by dsimp only;omega) (sgR_in _)
   dsimp only at e
   rw [sgR_sgQ] at e
   exact e
 | cons t F=>
   obtain ⟨v,c⟩:=t
   have hc0:c≠0:=h.s.nz
   have hc1:absR c≠0:=fun e=>by have:=absR_pos hc0;rw [e] at this;exact absurd this (by decide)
   have hcH:H c≤5000:=Nat.le_trans (h.h.1 (v,c) List.mem_cons_self) hm
   have hl:=h.l
   have D:=pdiv_c (n:=n) (a:=ofQ 1) (c:=rawQ (absQ c)) (by rw [ofQ_one];decide+kernel) (rawB_q (by rw [absQ_H];omega)) (by rw [rawQ_q,absQ_R];exact hc1)
   rw [rawQ_q,absQ_R,ofQ_one] at D
   rw [←absQ_R,absQ_raw,absQ_R] at D
   dsimp only at D
   have hi:H (1 / absR c)≤5000:=Nat.le_trans (H_invQ hc1) (by rw [H_absR];exact hcH)
   have S:=pscl_c (n:=n+4) (f:=(((v,c)::F,q):Form)) (c:=1 / absR c) (b:=5000) (fun t ht=>Nat.le_trans (h.h.1 t ht) hm) (by omega) (by dsimp only;omega) (by omega) (by omega)
   rw [merge_scl] at S
   rw [←ofQ_one] at D
   exact fnm_f2 (n:=n) (a0:=(((v,c)::F,q):Form)) (by simp;omega) rfl D S
def Vpos(L:List Form):Prop:=∀g∈L,∀t∈g.1,0≤t.1
theorem Vpos.nil:Vpos []:=fun g hg=>by cases hg
theorem Vpos.col(hL:Vpos L)(h:FB m f):Vpos (colF L f):=fun g hg t ht=>by
 unfold colF at hg
 split at hg
 ·exact hL g hg t ht
 split at hg
 ·exact hL g hg t ht
 ·rcases List.mem_append.1 hg with h1|h1
  ·exact hL g h1 t ht
  ·rw [List.mem_singleton.1 h1] at ht
   obtain ⟨u,hu,e⟩:=(norm_term h.s).2 t ht
   rw [←e]
   exact (h.v u hu).1
theorem col_len(L:List Form)(f:Form):(colF L f).length≤L.length+1:=by
 unfold colF
 split
 ·omega
 split
 ·omega
 ·rw [List.length_append];simp
theorem snoc_len(L:List Form)(r:Form):L.length+1=(L++[r]).length:=by simp
theorem ladd_c(h:FB m f)(h1:1≤m)(hm:m≤5000)(hL:Vpos L)(hl:L.length≤10000000):
  (colF L f=L∧runL (n+8) 46 [.ptr 0 0,formV f] [.box 78 [.own 1 L.length,.mp 2] false,.row 28 4 (L.map formC) 0,.mp (seenM L)]=some (.tup [],[(0,.box 78 [.own 1 L.length,.mp 2] false),(1,.row 28 4 (L.map formC) 0),(2,.mp (seenM L))]))∨
  runL (n+8) 46 [.ptr 0 0,formV f] [.box 78 [.own 1 L.length,.mp 2] false,.row 28 4 (L.map formC) 0,.mp (seenM L)]=some (.tup [],[(0,.box 78 [.own 6 (colF L f).length,.mp 2] false),(2,.mp (seenM (colF L f))),(6,.row 28 4 ((colF L f).map formC) 0)]):=by
 have K1:=nrm_c (n:=n) h hm
 have hN:=h.norm h1
 have K2:=ltx_c (n:=n) (hN.tx (by omega))
 have inj:∀g∈L,txt (normF f)=txt g→normF f=g:=fun g hg e=>txt_one (fun t ht=>(hN.v t ht).1) (hL g hg) e
 have hF:=seen_find (L:=L) inj
 by_cases ht:(normF f).1=[]∧0≤(normF f).2
 ·refine .inl ⟨if_pos ht,?_⟩
  exact fla_f1 K1 K2 (by rw [ht.1];rfl) (raw_sf (by have:=ht.2;grind))
 by_cases hin:normF f∈L
 ·rw [if_pos hin] at hF
  refine .inl ⟨by unfold colF;rw [if_neg ht,if_pos hin],?_⟩
  by_cases h0:(normF f).1=[]
  ·exact fla_f2 K1 K2 (by rw [h0];rfl) (raw_s.2 (by have:=fun e=>ht ⟨h0,e⟩;grind)) hF rfl
  ·exact fla_f5 K1 K2 (fun e=>h0 (List.eq_nil_of_length_eq_zero (by omega))) hF rfl
 ·rw [if_neg hin] at hF
  have e:colF L f=L++[normF f]:=by unfold colF;rw [if_neg ht,if_neg hin]
  have hP:=seen_put (n:=normF f) (L:=L) (fun g hg e=>hin (by rw [inj g hg e];exact hg))
  refine .inr ?_
  rw [e,←hP,←snoc_len]
  by_cases h0:(normF f).1=[]
  ·exact fla_f4 (L:=L) K1 K2 (by rw [h0];rfl) (raw_s.2 (by have:=fun e=>ht ⟨h0,e⟩;grind)) hF (by omega)
  ·exact fla_f7 (L:=L) K1 K2 (fun e=>h0 (List.eq_nil_of_length_eq_zero (by omega))) hF (by omega)
end
end
section
open Go.RowKit
attribute [local irreducible] run runL loopG exec
def SmQ(r:Raw):Prop:=Two r∧Cn r
structure RawF (f:FormR):Prop where
 t:∀t∈f.1,RawB t.2
 k:RawB f.2
def SmR(f:FormR):Prop:=f.1.length≤8∧SmQ f.2∧OkFR f 1048576∧∀t∈f.1,SmQ t.2
section
variable {n : Nat}
theorem smr_c{r:Raw}(hR:RawB r):run n 33 [.agg [.lit (.bool r.s),natA r.l1,natA r.l2]]=some (.lit (.bool (tv (SmQ r)))):=by
 by_cases h1:r.l1.length≤2
 ·by_cases h2:r.l2.length≤2
  ·have K:=smr_f1 (n:=n) (a0:=r) (by omega) (by omega) hR
   by_cases h3:RatV r.s r.l1 r.l2
   ·rw [decide_eq_true h3] at K
    rw [tv_t (p:=SmQ r) ⟨⟨h1,h2⟩,h3⟩]
    exact K
   ·rw [decide_eq_false h3] at K
    rw [tv_f (p:=SmQ r) (fun h=>h3 h.2)]
    exact K
  ·rw [tv_f (p:=SmQ r) (fun h=>h2 h.1.2)]
   exact smr_f2 (by omega) (by omega)
 ·rw [tv_f (p:=SmQ r) (fun h=>h1 h.1.1)]
  exact smr_f3 (by omega)
theorem smf_c{f:FormR}(hB:RawF f):run (n+1) 9 [frV f]=some (.lit (.bool (tv (SmR f)))):=by
 by_cases h1:8<f.1.length
 ·rw [tv_f (p:=SmR f) (fun h=>by have:=h.1;omega)]
  exact smf_f1 (by omega)
 have K2:=smr_c (n:=n) hB.k
 by_cases h2:SmQ f.2
 ·rw [tv_t h2] at K2
  have K4:=validRB_c (n:=n) (vars:=1048576) (by omega) hB.t hB.k
  by_cases h3:OkFR f 1048576
  ·rw [tv_t h3] at K4
   have X:=loopG_all (O:=tab (n+1)) (P:= Tryz.prog) (m:=0) (N:=34) (lives:=livesOf 9) (r:=4) (C:=smf_C4) (M:=f.1.length) (enc:=fun i=>smf_h4 f i) (p:=fun i=>tv (∀t,f.1[i]?=some t→SmQ t.2)) (exN:=.exit 0) (exE:=.ret) (out:=smf_o4b) (outE:=smf_o4a) (by omega) (by simp) (by simp)
    (fun i hi _=>by
     have hx:f.1[i]?=some f.1[i]:=List.getElem?_eq_getElem hi
     obtain ⟨t,ht⟩:∃t,f.1[i]=t:=⟨_,rfl⟩
     rw [ht] at hx
     obtain ⟨v,r⟩:=t
     have K:=smr_c (n:=n) (hB.t _ (List.mem_of_getElem? hx))
     refine ⟨fun hp=>smf_r4_1 (by omega) hx K (tv_t (tv_true hp _ hx)) ⟨by omega,by omega⟩,fun hp=>smf_x4_1 (by omega) hx K (tv_f fun h9=>tv_false hp fun t ht=>?_)⟩
     rw [hx] at ht;cases ht
     exact h9)
    (smf_x4_2 (by omega))
   by_cases h4:∀t∈f.1,SmQ t.2
   ·rw [if_pos (fun i hi=>tv_t fun t ht=>h4 t (List.mem_of_getElem? ht))] at X
    rw [tv_t (p:=SmR f) ⟨by omega,h2,h3,h4⟩]
    exact smf_f5 (by omega) K2 rfl K4 rfl X
   ·rw [if_neg (fun h5=>h4 fun t ht=>by
     obtain ⟨i,hi⟩:=List.mem_iff_getElem?.1 ht
     exact tv_true (h5 i (List.getElem?_eq_some_iff.1 hi).1) t hi)] at X
    rw [tv_f (p:=SmR f) (fun h=>h4 h.2.2.2)]
    exact smf_f4 (by omega) K2 rfl K4 rfl X
  ·rw [tv_f h3] at K4
   rw [tv_f (p:=SmR f) (fun h=>h3 h.2.2.1)]
   exact smf_f3 (by omega) K2 rfl K4 rfl
 ·rw [tv_f h2] at K2
  rw [tv_f (p:=SmR f) (fun h=>h2 h.2.1)]
  exact smf_f2 (by omega) K2 rfl
theorem sms_c{L:List FormR}{z:Int}(hl:L.length≤1000000000)(hB:∀f∈L,RawF f):run (n+2) 43 [.sl 4 (L.map formRC),.lit (.int .i64 z)]=some (.lit (.bool (tv ((L.length:Int)≤z∧∀f∈L,SmR f)))):=by
 by_cases h1:z<(L.length:Int)
 ·rw [tv_f (fun h=>by have:=h.1;omega)]
  exact sms_f1 h1
 have X:=loopG_all (O:=tab (n+2)) (P:= Tryz.prog) (m:=0) (N:=22) (lives:=livesOf 43) (r:=4) (C:=sms_C4) (M:=L.length) (enc:=fun i=>sms_h4 L i) (p:=fun i=>tv (∀f,L[i]?=some f→SmR f)) (exN:=.exit 0) (exE:=.ret) (out:=sms_o4b) (outE:=sms_o4a) (by omega) (by simp) (by simp)
  (fun i hi _=>by
   have hx:L[i]?=some L[i]:=List.getElem?_eq_getElem hi
   obtain ⟨t,ht⟩:∃t,L[i]=t:=⟨_,rfl⟩
   rw [ht] at hx
   obtain ⟨F,r⟩:=t
   have K:=smf_c (n:=n) (hB _ (List.mem_of_getElem? hx))
   refine ⟨fun hp=>sms_r4_1 (by omega) hx K (tv_t (tv_true hp _ hx)) ⟨by omega,by omega⟩,fun hp=>sms_x4_1 (by omega) hx K (tv_f fun h9=>tv_false hp fun t ht=>?_)⟩
   rw [hx] at ht;cases ht
   exact h9)
  (sms_x4_2 (by omega))
 by_cases h4:∀f∈L,SmR f
 ·rw [if_pos (fun i hi=>tv_t fun t ht=>h4 t (List.mem_of_getElem? ht))] at X
  rw [tv_t ⟨by omega,h4⟩]
  exact sms_f3 h1 X
 ·rw [if_neg (fun h5=>h4 fun t ht=>by
   obtain ⟨i,hi⟩:=List.mem_iff_getElem?.1 ht
   exact tv_true (h5 i (List.getElem?_eq_some_iff.1 hi).1) t hi)] at X
  rw [tv_f (fun h=>h4 h.2)]
  exact sms_f2 h1 X
theorem few3_c{L:List FormR}(hl:L.length≤1000000000)(hB:∀f∈L,RawF f):run (n+3) 16 [.sl 4 (L.map formRC)]=some (.lit (.bool (tv ((L.length:Int)≤7∧∀f∈L,SmR f)))):=few3_f1 (sms_c hl hB)
end
structure Sm8 (f:Form):Prop where
 l:f.1.length≤8
 t:∀t∈f.1,H t.2≤2
 k:H f.2≤2
 ok:OkFm f 1048576
theorem Sm8.fb{f:Form}(h:Sm8 f):FB 2 f:=by
 obtain ⟨a,b⟩:=h.ok.srt
 exact ⟨a,⟨h.t,h.k⟩,by have:=h.l;omega,fun t ht=>⟨(b t ht).1,by have:=(b t ht).2;omega⟩⟩
theorem SmR.un{f:FormR}(h:SmR f):frV f=formV (unR f)∧Sm8 (unR f):=by
 obtain ⟨a1,a2,a3,a4,a5⟩:=small_formB (m:=2) (by omega) (fun t ht=>(h.2.2.2 t ht).1) h.2.1.1 h.2.2.1
 exact ⟨a1,by rw [a2];exact h.1,a3,a4,a5⟩
theorem SmR.cells{f:FormR}(h:SmR f):formRC f=formC (unR f):=by
 have:=h.un.1
 simp only [frV,formV,AV.agg.injEq] at this
 simp only [formRC,formC]
 exact this
theorem SmR.all{L:List FormR}(h:∀f∈L,SmR f):L.map formRC=(L.map unR).map formC∧∀f∈L.map unR,Sm8 f:=by
 refine ⟨?_,fun f hf=>?_⟩
 ·rw [List.map_map]
  exact List.map_congr_left fun f hf=>(h f hf).cells
 ·obtain ⟨g,hg,rfl⟩:=List.mem_map.1 hf
  exact (h g hg).un.2
theorem SmQ.all{xs:List Raw}(h:∀r∈xs,SmQ r):xs.map rawC=(xs.map Raw.q).map ratC∧∀q∈xs.map Raw.q,H q≤2:=by
 refine ⟨?_,fun q hq=>?_⟩
 ·rw [List.map_map]
  refine List.map_congr_left fun r hr=>?_
  have e:=(h r hr).2.raw
  simp only [Function.comp,rawC,ratC]
  rw [←e]
 ·obtain ⟨r,hr,rfl⟩:=List.mem_map.1 hq
  exact (h r hr).2.H (h r hr).1
end
section
open Go.RowKit
theorem awake31_c:run 12 8 []=some (.lit (.bool true)):=by kernel_rfl
end
section
open Go.RowKit
def awG(args:List AV):Option AV:=match args with|[]=>some (.lit (.bool true))|_=>none
theorem con_awake:∀args r,awG args=some r→Con Tryz.prog 8 args r:=fun args r hr=>by
 unfold awG at hr
 split at hr
 ·cases hr
  exact ((tab_ok 13).pure _ _ (tb_8 12)).2 _ _ awake31_c
 ·cases hr
end
section
open Go.RowKit
end
section
open Go.RowKit
attribute [local irreducible] run runL loopG exec
theorem ev_small{n m k:Nat}{f:Form}{X:List Rat}(h:FB m f)(hm:m≤100000)(hX:∀q∈X,H q≤k)(hk:k≤100000)(hl:X.length≤1000):
  (InR X.length f.1→run n 12 [formV f,.sl 3 (X.map ratC)]=some (.tup [ratV (valX X f),.lit (.int .i64 0)])∧H (valX X f)≤17179869184)∧
  (¬InR X.length f.1→run n 12 [formV f,.sl 3 (X.map ratC)]=some (.tup [ratV 0,.lit (.int .i64 2)])):=by
 have hfl:=h.l
 have hb:f.1.length*(m+k+1)≤100*200001:=Nat.mul_le_mul hfl (by omega)
 obtain ⟨E,B⟩:=eval_c (n:=n) (f:=f) (X:=X) (a:=m) (b:=k) (k:=m) h.h.1 hX h.h.2 (by omega) (by omega) (by omega) (by omega)
 refine ⟨fun hi=>?_,fun hi=>?_⟩
 ·obtain ⟨e1,e2⟩:=evR_in hi
  rw [e1] at E
  have:=B _ e2
  exact ⟨E,by unfold valX;omega⟩
 ·rw [evR_out hi] at E
  exact E
end
section
open Go.RowKit
end
end Go.Proofs.YtdaonnnlgfhlaaaGreatDoor
