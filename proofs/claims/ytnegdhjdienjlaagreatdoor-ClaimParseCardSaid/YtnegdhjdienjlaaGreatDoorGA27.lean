import Derived.Test.YtnegdhjdienjlaaGreatDoorGA16
import Derived.Test.YtnegdhjdienjlaaGreatDoorGA18
import Derived.Test.YtnegdhjdienjlaaGreatDoorGA26
import Derived.Test.YtnegdhjdienjlaaGreatDoorGA21
import Derived.Test.YtnegdhjdienjlaaGreatDoorGA20
import Derived.Test.YtnegdhjdienjlaaGreatDoorGA17
set_option linter.all false
set_option maxHeartbeats 6400000
set_option maxRecDepth 100000
namespace Go.Proofs.YtnegdhjdienjlaaGreatDoor
section
open Go.RowKit
theorem cvcV_f1{n:Nat}{a0:Form}{c0:Int}{r:Bool}(K1:run n 99 [formV a0,.lit (.int .i64 c0)]=some (.lit (.bool r))):
  run (n+1) 98 [formV a0,.mem [.lit (.int .i64 c0)]]=some (.lit (.bool (!r))):=by
 simp only [formV] at K1
 unfold run fnP
 simp+decide [Tryz.f98,K1]
noncomputable def ifgV_C2:Code:=(loopsOf (bodyOf Tryz.f159)).getD 0 .skip
def ifgV_h2(a0:List Form)(c0:Int)(i_2:Nat):St:=
 ⟨[(0,.sl 4 (a0.map formC)),(1,.clo 98 [.mem [.lit (.int .i64 c0)]]),(7,.lit (.int .i64 (a0.length:Int))),(8,.lit (.int .i64 (i_2:Int)))],
  [],0⟩
def ifgV_o2a(i_2:Nat):St:=
 ⟨[(4,.lit (.int .i64 (i_2:Int)))],
  [],0⟩
def ifgV_o2b:St:=
 ⟨[(4,.any)],
  [],0⟩
section
variable{r3:Bool}{F3:List (Int × Rat)}{i_2:Nat}{q3:Rat}{n:Nat}{a0:List Form}{c0:Int}
section
variable(C1:(i_2:Int)<(a0.length:Int))(E2:a0[i_2]?=some (F3,q3))(K3:run (n+1) 98 [formV (F3,q3),.mem [.lit (.int .i64 c0)]]=some (.lit (.bool r3)))
include C1 E2 K3
theorem ifgV_r2_1(C4:r3=false)(W5:InI ((i_2:Int)+1)):
  Cont 0 (exec Tryz.prog (tab (n+2)) 0 19 (livesOf 159) big ifgV_C2) (livesOf 159 2) (ifgV_h2 a0 c0 i_2) (ifgV_h2 a0 c0 (i_2+1)):=by
 have C1_:i_2<a0.length:=by omega
 obtain ⟨EL2,EG2⟩:=List.getElem?_eq_some_iff.1 E2
 simp only [formV] at K3
 have W5_:IntKind.i64.wrap ((i_2:Int)+1)=(i_2:Int)+1:=wr64 W5.1 W5.2
 unfold Cont
 simp+decide [ifgV_h2,loopsOf, Tryz.f159,ifgV_C2,C1,C1_,EL2,EG2,E2,K3,C4,W5_]
theorem ifgV_x2_1(C4:r3=true):
  Leave 0 (exec Tryz.prog (tab (n+2)) 0 19 (livesOf 159) big ifgV_C2) (livesOf 159 (outOf 2)) (ifgV_h2 a0 c0 i_2) (.ret) (ifgV_o2a i_2):=by
 have C1_:i_2<a0.length:=by omega
 obtain ⟨EL2,EG2⟩:=List.getElem?_eq_some_iff.1 E2
 simp only [formV] at K3
 unfold Leave
 simp+decide [ifgV_h2,loopsOf, Tryz.f159,ifgV_o2a,ifgV_C2,C1,C1_,EL2,EG2,E2,K3,C4]
end
theorem ifgV_x2_2(C1:¬(i_2:Int)<(a0.length:Int)):
  Leave 0 (exec Tryz.prog (tab (n+2)) 0 19 (livesOf 159) big ifgV_C2) (livesOf 159 (outOf 2)) (ifgV_h2 a0 c0 i_2) (.exit 0) (ifgV_o2b):=by
 have C1_:¬i_2<a0.length:=by omega
 unfold Leave
 simp+decide [ifgV_h2,loopsOf, Tryz.f159,ifgV_o2b,ifgV_C2,C1,C1_]
theorem ifgV_f1(L1:loopG Tryz.prog (tab (n+2)) 0 19 (livesOf 159) 2 ifgV_C2 (ifgV_h2 a0 c0 0)=some (.ret,ifgV_o2a i_2)):
  run (n+2) 159 [.sl 4 (a0.map formC),.clo 98 [.mem [.lit (.int .i64 c0)]]]=some (.lit (.int .i64 (i_2:Int))):=by
 unfold run fnP
 simp+decide [Tryz.f159]
 rw [loopX_G (C':=ifgV_C2) (e:=(ifgV_h2 a0 c0 0)) ?_ ?_,L1]
 rotate_left
 ·kernel_rfl
 ·simp+decide [ifgV_h2]
 simp+decide [ifgV_o2a]
theorem ifgV_f2(L1:loopG Tryz.prog (tab (n+2)) 0 19 (livesOf 159) 2 ifgV_C2 (ifgV_h2 a0 c0 0)=some (.exit 0,ifgV_o2b)):
  run (n+2) 159 [.sl 4 (a0.map formC),.clo 98 [.mem [.lit (.int .i64 c0)]]]=some (.lit (.int .i64 (-1))):=by
 unfold run fnP
 simp+decide [Tryz.f159]
 rw [loopX_G (C':=ifgV_C2) (e:=(ifgV_h2 a0 c0 0)) ?_ ?_,L1]
 rotate_left
 ·kernel_rfl
 ·simp+decide [ifgV_h2]
 simp+decide [ifgV_o2b]
end
theorem cfgV_f1{n:Nat}{a0:List Form}{c0:Int}{r:Int}(K1:run (n+2) 159 [.sl 4 (a0.map formC),.clo 98 [.mem [.lit (.int .i64 c0)]]]=some (.lit (.int .i64 r))):
  run (n+3) 97 [.sl 4 (a0.map formC),.clo 98 [.mem [.lit (.int .i64 c0)]]]=some (.lit (.bool (decide (0≤r)))):=by
 unfold run fnP
 simp+decide [Tryz.f97,K1]
section
variable {a1 : Int} {a0 : TClaim} {n : Nat} {r : Bool}
theorem cvV_f1(C1:a1<1):
  run (n+4) 44 [claimV a0,.lit (.int .i64 a1)]=some (.lit (.bool false)):=by
 unfold run fnP
 simp+decide [Tryz.f44,C1]
section
variable(C1:¬a1<1)
include C1
theorem cvV_f2(C2:256<a1):
  run (n+4) 44 [claimV a0,.lit (.int .i64 a1)]=some (.lit (.bool false)):=by
 unfold run fnP
 simp+decide [Tryz.f44,C1,C2]
section
variable(C2:¬256<a1)(B3a:H a0.Margin≤17179869184)
include C2 B3a
theorem cvV_f3(C5:sgR a0.Margin<0):
  run (n+4) 44 [claimV a0,.lit (.int .i64 a1)]=some (.lit (.bool false)):=by
 have K3:=r_valid (p:=a0.Margin) B3a
 have K4:=r_sign (p:=a0.Margin) B3a
 unfold run fnP
 simp+decide [Tryz.f44,C1,C2,K3,K4,C5]
section
variable(C5:¬sgR a0.Margin<0)
include C5
theorem cvV_f4(C6:a0.Kind=1)(C7:0≤a0.Target)(C8:a0.Target<a1):
  run (n+4) 44 [claimV a0,.lit (.int .i64 a1)]=some (.lit (.bool (((a0.Rows.length:Int)==0)))):=by
 have K3:=r_valid (p:=a0.Margin) B3a
 have K4:=r_sign (p:=a0.Margin) B3a
 have C6_:(a0.Kind==1)=true:=by rw [C6];simp
 have C6_n:(a0.Kind !=1)=false:=by rw [C6];simp
 unfold run fnP
 simp+decide [Tryz.f44,C1,C2,K3,K4,C5,C6_,C6_n,C7,C8]
theorem cvV_f5(C6:a0.Kind=1)(C7:0≤a0.Target)(C8:¬a0.Target<a1):
  run (n+4) 44 [claimV a0,.lit (.int .i64 a1)]=some (.lit (.bool false)):=by
 have K3:=r_valid (p:=a0.Margin) B3a
 have K4:=r_sign (p:=a0.Margin) B3a
 have C6_:(a0.Kind==1)=true:=by rw [C6];simp
 have C6_n:(a0.Kind !=1)=false:=by rw [C6];simp
 unfold run fnP
 simp+decide [Tryz.f44,C1,C2,K3,K4,C5,C6_,C6_n,C7,C8]
theorem cvV_f6(C6:a0.Kind=1)(C7:¬0≤a0.Target):
  run (n+4) 44 [claimV a0,.lit (.int .i64 a1)]=some (.lit (.bool false)):=by
 have K3:=r_valid (p:=a0.Margin) B3a
 have K4:=r_sign (p:=a0.Margin) B3a
 have C6_:(a0.Kind==1)=true:=by rw [C6];simp
 have C6_n:(a0.Kind !=1)=false:=by rw [C6];simp
 unfold run fnP
 simp+decide [Tryz.f44,C1,C2,K3,K4,C5,C6_,C6_n,C7]
theorem cvV_f7(C6:¬a0.Kind=1)(C7:a0.Kind=2)(C8:a0.Target=0)(C9:1≤(a0.Rows.length:Int))(C10:(a0.Rows.length:Int)≤256)(K11:run (n+3) 97 [.sl 4 (a0.Rows.map formC),.clo 98 [.mem [.lit (.int .i64 a1)]]]=some (.lit (.bool r))):
  run (n+4) 44 [claimV a0,.lit (.int .i64 a1)]=some (.lit (.bool (!r))):=by
 have K3:=r_valid (p:=a0.Margin) B3a
 have K4:=r_sign (p:=a0.Margin) B3a
 have C6_:(a0.Kind==1)=false:=by simpa using C6
 have C6_n:(a0.Kind !=1)=true:=by simpa using C6
 have C7_:(a0.Kind==2)=true:=by rw [C7];simp
 have C7_n:(a0.Kind !=2)=false:=by rw [C7];simp
 have C8_:(a0.Target==0)=true:=by rw [C8];simp
 have C8_n:(a0.Target !=0)=false:=by rw [C8];simp
 have C9_:1≤a0.Rows.length:=by omega
 have C10_:a0.Rows.length≤256:=by omega
 unfold run fnP
 simp+decide [Tryz.f44,C1,C2,K3,K4,C5,C6_,C6_n,C7_,C7_n,C8_,C8_n,C9,C9_,C10,C10_,K11]
theorem cvV_f8(C6:¬a0.Kind=1)(C7:a0.Kind=2)(C8:a0.Target=0)(C9:1≤(a0.Rows.length:Int))(C10:¬(a0.Rows.length:Int)≤256):
  run (n+4) 44 [claimV a0,.lit (.int .i64 a1)]=some (.lit (.bool false)):=by
 have K3:=r_valid (p:=a0.Margin) B3a
 have K4:=r_sign (p:=a0.Margin) B3a
 have C6_:(a0.Kind==1)=false:=by simpa using C6
 have C6_n:(a0.Kind !=1)=true:=by simpa using C6
 have C7_:(a0.Kind==2)=true:=by rw [C7];simp
 have C7_n:(a0.Kind !=2)=false:=by rw [C7];simp
 have C8_:(a0.Target==0)=true:=by rw [C8];simp
 have C8_n:(a0.Target !=0)=false:=by rw [C8];simp
 have C9_:1≤a0.Rows.length:=by omega
 have C10_:¬a0.Rows.length≤256:=by omega
 unfold run fnP
 simp+decide [Tryz.f44,C1,C2,K3,K4,C5,C6_,C6_n,C7_,C7_n,C8_,C8_n,C9,C9_,C10,C10_]
theorem cvV_f9(C6:¬a0.Kind=1)(C7:a0.Kind=2)(C8:a0.Target=0)(C9:¬1≤(a0.Rows.length:Int)):
  run (n+4) 44 [claimV a0,.lit (.int .i64 a1)]=some (.lit (.bool false)):=by
 have K3:=r_valid (p:=a0.Margin) B3a
 have K4:=r_sign (p:=a0.Margin) B3a
 have C6_:(a0.Kind==1)=false:=by simpa using C6
 have C6_n:(a0.Kind !=1)=true:=by simpa using C6
 have C7_:(a0.Kind==2)=true:=by rw [C7];simp
 have C7_n:(a0.Kind !=2)=false:=by rw [C7];simp
 have C8_:(a0.Target==0)=true:=by rw [C8];simp
 have C8_n:(a0.Target !=0)=false:=by rw [C8];simp
 have C9_:¬1≤a0.Rows.length:=by omega
 unfold run fnP
 simp+decide [Tryz.f44,C1,C2,K3,K4,C5,C6_,C6_n,C7_,C7_n,C8_,C8_n,C9,C9_]
theorem cvV_f10(C6:¬a0.Kind=1)(C7:a0.Kind=2)(C8:¬a0.Target=0):
  run (n+4) 44 [claimV a0,.lit (.int .i64 a1)]=some (.lit (.bool false)):=by
 have K3:=r_valid (p:=a0.Margin) B3a
 have K4:=r_sign (p:=a0.Margin) B3a
 have C6_:(a0.Kind==1)=false:=by simpa using C6
 have C6_n:(a0.Kind !=1)=true:=by simpa using C6
 have C7_:(a0.Kind==2)=true:=by rw [C7];simp
 have C7_n:(a0.Kind !=2)=false:=by rw [C7];simp
 have C8_:(a0.Target==0)=false:=by simpa using C8
 have C8_n:(a0.Target !=0)=true:=by simpa using C8
 unfold run fnP
 simp+decide [Tryz.f44,C1,C2,K3,K4,C5,C6_,C6_n,C7_,C7_n,C8_,C8_n]
theorem cvV_f11(C6:¬a0.Kind=1)(C7:¬a0.Kind=2):
  run (n+4) 44 [claimV a0,.lit (.int .i64 a1)]=some (.lit (.bool false)):=by
 have K3:=r_valid (p:=a0.Margin) B3a
 have K4:=r_sign (p:=a0.Margin) B3a
 have C6_:(a0.Kind==1)=false:=by simpa using C6
 have C6_n:(a0.Kind !=1)=true:=by simpa using C6
 have C7_:(a0.Kind==2)=false:=by simpa using C7
 have C7_n:(a0.Kind !=2)=true:=by simpa using C7
 unfold run fnP
 simp+decide [Tryz.f44,C1,C2,K3,K4,C5,C6_,C6_n,C7_,C7_n]
end
end
end
end
section
variable {a1 : Int} {a0 : TClaim} {n : Nat} {r : Bool}
theorem fVV_f1(C1:a1<1):
  run (n+2) 20 [claimV a0,.lit (.int .i64 a1)]=some (.lit (.bool false)):=by
 unfold run fnP
 simp+decide [Tryz.f20,C1]
section
variable(C1:¬a1<1)
include C1
theorem fVV_f2(C2:256<a1):
  run (n+2) 20 [claimV a0,.lit (.int .i64 a1)]=some (.lit (.bool false)):=by
 unfold run fnP
 simp+decide [Tryz.f20,C1,C2]
section
variable(C2:¬256<a1)(B3a:H a0.Margin≤17179869184)
include C2 B3a
theorem fVV_f3(C5:sgR a0.Margin<0):
  run (n+2) 20 [claimV a0,.lit (.int .i64 a1)]=some (.lit (.bool false)):=by
 have K3:=r_valid (p:=a0.Margin) B3a
 have K4:=r_sign (p:=a0.Margin) B3a
 unfold run fnP
 simp+decide [Tryz.f20,C1,C2,K3,K4,C5]
section
variable(C5:¬sgR a0.Margin<0)
include C5
theorem fVV_f4(C6:a0.Kind=1)(C7:0≤a0.Target)(C8:a0.Target<a1):
  run (n+2) 20 [claimV a0,.lit (.int .i64 a1)]=some (.lit (.bool (((a0.Rows.length:Int)==0)))):=by
 have K3:=r_valid (p:=a0.Margin) B3a
 have K4:=r_sign (p:=a0.Margin) B3a
 have C6_:(a0.Kind==1)=true:=by rw [C6];simp
 have C6_n:(a0.Kind !=1)=false:=by rw [C6];simp
 unfold run fnP
 simp+decide [Tryz.f20,C1,C2,K3,K4,C5,C6_,C6_n,C7,C8]
theorem fVV_f5(C6:a0.Kind=1)(C7:0≤a0.Target)(C8:¬a0.Target<a1):
  run (n+2) 20 [claimV a0,.lit (.int .i64 a1)]=some (.lit (.bool false)):=by
 have K3:=r_valid (p:=a0.Margin) B3a
 have K4:=r_sign (p:=a0.Margin) B3a
 have C6_:(a0.Kind==1)=true:=by rw [C6];simp
 have C6_n:(a0.Kind !=1)=false:=by rw [C6];simp
 unfold run fnP
 simp+decide [Tryz.f20,C1,C2,K3,K4,C5,C6_,C6_n,C7,C8]
theorem fVV_f6(C6:a0.Kind=1)(C7:¬0≤a0.Target):
  run (n+2) 20 [claimV a0,.lit (.int .i64 a1)]=some (.lit (.bool false)):=by
 have K3:=r_valid (p:=a0.Margin) B3a
 have K4:=r_sign (p:=a0.Margin) B3a
 have C6_:(a0.Kind==1)=true:=by rw [C6];simp
 have C6_n:(a0.Kind !=1)=false:=by rw [C6];simp
 unfold run fnP
 simp+decide [Tryz.f20,C1,C2,K3,K4,C5,C6_,C6_n,C7]
theorem fVV_f7(C6:¬a0.Kind=1)(C7:a0.Kind=2)(C8:a0.Target=0)(C9:1≤(a0.Rows.length:Int))(C10:(a0.Rows.length:Int)≤256)(K11:run (n+1) 55 [.sl 4 (a0.Rows.map formC),.lit (.int .i64 a1)]=some (.lit (.bool r))):
  run (n+2) 20 [claimV a0,.lit (.int .i64 a1)]=some (.lit (.bool r)):=by
 have K3:=r_valid (p:=a0.Margin) B3a
 have K4:=r_sign (p:=a0.Margin) B3a
 have C6_:(a0.Kind==1)=false:=by simpa using C6
 have C6_n:(a0.Kind !=1)=true:=by simpa using C6
 have C7_:(a0.Kind==2)=true:=by rw [C7];simp
 have C7_n:(a0.Kind !=2)=false:=by rw [C7];simp
 have C8_:(a0.Target==0)=true:=by rw [C8];simp
 have C8_n:(a0.Target !=0)=false:=by rw [C8];simp
 have C9_:1≤a0.Rows.length:=by omega
 have C10_:a0.Rows.length≤256:=by omega
 unfold run fnP
 simp+decide [Tryz.f20,C1,C2,K3,K4,C5,C6_,C6_n,C7_,C7_n,C8_,C8_n,C9,C9_,C10,C10_,K11]
theorem fVV_f8(C6:¬a0.Kind=1)(C7:a0.Kind=2)(C8:a0.Target=0)(C9:1≤(a0.Rows.length:Int))(C10:¬(a0.Rows.length:Int)≤256):
  run (n+2) 20 [claimV a0,.lit (.int .i64 a1)]=some (.lit (.bool false)):=by
 have K3:=r_valid (p:=a0.Margin) B3a
 have K4:=r_sign (p:=a0.Margin) B3a
 have C6_:(a0.Kind==1)=false:=by simpa using C6
 have C6_n:(a0.Kind !=1)=true:=by simpa using C6
 have C7_:(a0.Kind==2)=true:=by rw [C7];simp
 have C7_n:(a0.Kind !=2)=false:=by rw [C7];simp
 have C8_:(a0.Target==0)=true:=by rw [C8];simp
 have C8_n:(a0.Target !=0)=false:=by rw [C8];simp
 have C9_:1≤a0.Rows.length:=by omega
 have C10_:¬a0.Rows.length≤256:=by omega
 unfold run fnP
 simp+decide [Tryz.f20,C1,C2,K3,K4,C5,C6_,C6_n,C7_,C7_n,C8_,C8_n,C9,C9_,C10,C10_]
theorem fVV_f9(C6:¬a0.Kind=1)(C7:a0.Kind=2)(C8:a0.Target=0)(C9:¬1≤(a0.Rows.length:Int)):
  run (n+2) 20 [claimV a0,.lit (.int .i64 a1)]=some (.lit (.bool false)):=by
 have K3:=r_valid (p:=a0.Margin) B3a
 have K4:=r_sign (p:=a0.Margin) B3a
 have C6_:(a0.Kind==1)=false:=by simpa using C6
 have C6_n:(a0.Kind !=1)=true:=by simpa using C6
 have C7_:(a0.Kind==2)=true:=by rw [C7];simp
 have C7_n:(a0.Kind !=2)=false:=by rw [C7];simp
 have C8_:(a0.Target==0)=true:=by rw [C8];simp
 have C8_n:(a0.Target !=0)=false:=by rw [C8];simp
 have C9_:¬1≤a0.Rows.length:=by omega
 unfold run fnP
 simp+decide [Tryz.f20,C1,C2,K3,K4,C5,C6_,C6_n,C7_,C7_n,C8_,C8_n,C9,C9_]
theorem fVV_f10(C6:¬a0.Kind=1)(C7:a0.Kind=2)(C8:¬a0.Target=0):
  run (n+2) 20 [claimV a0,.lit (.int .i64 a1)]=some (.lit (.bool false)):=by
 have K3:=r_valid (p:=a0.Margin) B3a
 have K4:=r_sign (p:=a0.Margin) B3a
 have C6_:(a0.Kind==1)=false:=by simpa using C6
 have C6_n:(a0.Kind !=1)=true:=by simpa using C6
 have C7_:(a0.Kind==2)=true:=by rw [C7];simp
 have C7_n:(a0.Kind !=2)=false:=by rw [C7];simp
 have C8_:(a0.Target==0)=false:=by simpa using C8
 have C8_n:(a0.Target !=0)=true:=by simpa using C8
 unfold run fnP
 simp+decide [Tryz.f20,C1,C2,K3,K4,C5,C6_,C6_n,C7_,C7_n,C8_,C8_n]
theorem fVV_f11(C6:¬a0.Kind=1)(C7:¬a0.Kind=2):
  run (n+2) 20 [claimV a0,.lit (.int .i64 a1)]=some (.lit (.bool false)):=by
 have K3:=r_valid (p:=a0.Margin) B3a
 have K4:=r_sign (p:=a0.Margin) B3a
 have C6_:(a0.Kind==1)=false:=by simpa using C6
 have C6_n:(a0.Kind !=1)=true:=by simpa using C6
 have C7_:(a0.Kind==2)=false:=by simpa using C7
 have C7_n:(a0.Kind !=2)=true:=by simpa using C7
 unfold run fnP
 simp+decide [Tryz.f20,C1,C2,K3,K4,C5,C6_,C6_n,C7_,C7_n]
end
end
end
end
noncomputable def vlV_C2:Code:=(loopsOf (bodyOf Tryz.f55)).getD 0 .skip
def vlV_h2(a0:List Form)(a1:Int)(i_2:Nat):St:=
 ⟨[(0,.sl 4 (a0.map formC)),(1,.lit (.int .i64 a1)),(5,.lit (.int .i64 (i_2:Int)))],
  [],0⟩
def vlV_o2a:St:=
 ⟨[(4,.lit (.bool false))],
  [],0⟩
def vlV_o2b:St:=
 ⟨[(4,.any)],
  [],0⟩
section
variable{r3:Bool}{F3:List (Int × Rat)}{a1:Int}{i_2:Nat}{q3:Rat}{n:Nat}{a0:List Form}
section
variable(C1:(i_2:Int)<(a0.length:Int))(E2:a0[i_2]?=some (F3,q3))(K3:run n 113 [formV (F3,q3),.lit (.int .i64 a1)]=some (.lit (.bool r3)))
include C1 E2 K3
theorem vlV_r2_1(C4:r3=true)(W5:InI ((i_2:Int)+1)):
  Cont 0 (exec Tryz.prog (tab (n+1)) 0 19 (livesOf 55) big vlV_C2) (livesOf 55 2) (vlV_h2 a0 a1 i_2) (vlV_h2 a0 a1 (i_2+1)):=by
 have C1_:i_2<a0.length:=by omega
 obtain ⟨EL2,EG2⟩:=List.getElem?_eq_some_iff.1 E2
 simp only [formV] at K3
 have W5_:IntKind.i64.wrap ((i_2:Int)+1)=(i_2:Int)+1:=wr64 W5.1 W5.2
 unfold Cont
 simp+decide [vlV_h2,loopsOf, Tryz.f55,vlV_C2,C1,C1_,EL2,EG2,E2,K3,C4,W5_]
theorem vlV_x2_1(C4:r3=false):
  Leave 0 (exec Tryz.prog (tab (n+1)) 0 19 (livesOf 55) big vlV_C2) (livesOf 55 (outOf 2)) (vlV_h2 a0 a1 i_2) (.ret) (vlV_o2a):=by
 have C1_:i_2<a0.length:=by omega
 obtain ⟨EL2,EG2⟩:=List.getElem?_eq_some_iff.1 E2
 simp only [formV] at K3
 unfold Leave
 simp+decide [vlV_h2,loopsOf, Tryz.f55,vlV_o2a,vlV_C2,C1,C1_,EL2,EG2,E2,K3,C4]
end
theorem vlV_x2_2(C1:¬(i_2:Int)<(a0.length:Int)):
  Leave 0 (exec Tryz.prog (tab (n+1)) 0 19 (livesOf 55) big vlV_C2) (livesOf 55 (outOf 2)) (vlV_h2 a0 a1 i_2) (.exit 0) (vlV_o2b):=by
 have C1_:¬i_2<a0.length:=by omega
 unfold Leave
 simp+decide [vlV_h2,loopsOf, Tryz.f55,vlV_o2b,vlV_C2,C1,C1_]
theorem vlV_f1(L1:loopG Tryz.prog (tab (n+1)) 0 19 (livesOf 55) 2 vlV_C2 (vlV_h2 a0 a1 0)=some (.ret,vlV_o2a)):
  run (n+1) 55 [.sl 4 (a0.map formC),.lit (.int .i64 a1)]=some (.lit (.bool false)):=by
 unfold run fnP
 simp+decide [Tryz.f55]
 rw [loopX_G (C':=vlV_C2) (e:=(vlV_h2 a0 a1 0)) ?_ ?_,L1]
 rotate_left
 ·kernel_rfl
 ·simp+decide [vlV_h2]
 simp+decide [vlV_o2a]
theorem vlV_f2(L1:loopG Tryz.prog (tab (n+1)) 0 19 (livesOf 55) 2 vlV_C2 (vlV_h2 a0 a1 0)=some (.exit 0,vlV_o2b)):
  run (n+1) 55 [.sl 4 (a0.map formC),.lit (.int .i64 a1)]=some (.lit (.bool true)):=by
 unfold run fnP
 simp+decide [Tryz.f55]
 rw [loopX_G (C':=vlV_C2) (e:=(vlV_h2 a0 a1 0)) ?_ ?_,L1]
 rotate_left
 ·kernel_rfl
 ·simp+decide [vlV_h2]
 simp+decide [vlV_o2b]
end
end
section
open Go.RowKit
noncomputable def lva_C2:Code:=(loopsOf (bodyOf Tryz.f99)).getD 0 .skip
def lva_h2(a0:Form)(a1:Int)(i_2:Nat):St:=
 ⟨[(1,.lit (.int .i64 a1)),(2,.ptr 0 0),(8,.sl 4 (a0.1.map termC)),(9,.lit (.int .i64 (a0.1.length:Int))),(10,.lit (.int .i64 (i_2:Int)))],
  [(0,some (.box 79 [.sl 4 (a0.1.map termC),.lit (.bool (rawQ a0.2).s),natA (rawQ a0.2).l1,natA (rawQ a0.2).l2] false))],1⟩
def lva_o2a(a0:Form):St:=
 ⟨[(2,.ptr 0 0),(4,.lit (.bool false))],
  [(0,some (.box 79 [.sl 4 (a0.1.map termC),.lit (.bool (rawQ a0.2).s),natA (rawQ a0.2).l1,natA (rawQ a0.2).l2] false))],1⟩
def lva_o2b(a0:Form):St:=
 ⟨[(2,.ptr 0 0),(4,.any)],
  [(0,some (.box 79 [.sl 4 (a0.1.map termC),.lit (.bool (rawQ a0.2).s),natA (rawQ a0.2).l1,natA (rawQ a0.2).l2] false))],1⟩
section
variable {v5 : Int} {a1 : Int} {i_2 : Nat} {v4 : Int} {n : Nat} {q5 : Rat} {q4 : Rat} {a0 : Form}
section
variable(C1:(i_2:Int)<(a0.1.length:Int))(E2:a0.1[i_2]?=some (v4,q4))
include C1 E2
theorem lva_r2_1(C3:¬v4<0)(C4:¬a1≤v4)(C5:0<(i_2:Int))(W6:InI ((i_2:Int)-1))(E7:a0.1[i_2-1]?=some (v5,q5))(Z7:1≤i_2)(C8:¬v4≤v5)(B9a:H q4≤17179869184)(C10:¬sgR q4=0)(W12:InI ((i_2:Int)+1)):
  Cont 0 (exec Tryz.prog (tab n) 0 56 (livesOf 99) big lva_C2) (livesOf 99 2) (lva_h2 a0 a1 i_2) (lva_h2 a0 a1 (i_2+1)):=by
 have C1_:i_2<a0.1.length:=by omega
 obtain ⟨EL2,EG2⟩:=List.getElem?_eq_some_iff.1 E2
 have C5_:0<i_2:=by omega
 have C5_z:(i_2:Int)≠0:=by omega
 have C5_e:((i_2:Int)==0)=false:=by simpa using C5_z
 have C5_g:((i_2:Int) !=0)=true:=by simpa using C5_z
 have W6_:IntKind.i64.wrap ((i_2:Int)-1)=(i_2:Int)-1:=wr64 W6.1 W6.2
 obtain ⟨EL7,EG7⟩:=List.getElem?_eq_some_iff.1 E7
 have Z7_0:(1:Int)≤(i_2:Int):=by omega
 have Z7_1:0≤(i_2:Int)-1:=by omega
 have K9:=r_sign (p:=q4) B9a
 have C10_:(sgR q4==0)=false:=by simpa using C10
 have C10_n:(sgR q4 !=0)=true:=by simpa using C10
 have K11:=r_valid (p:=q4) B9a
 have W12_:IntKind.i64.wrap ((i_2:Int)+1)=(i_2:Int)+1:=wr64 W12.1 W12.2
 unfold Cont
 simp+decide [lva_h2,loopsOf, Tryz.f99,lva_C2,C1,C1_,EL2,EG2,E2,C3,C4,C5,C5_,C5_e,C5_g,W6_,EL7,EG7,E7,Z7,Z7_0,Z7_1,C8,K9,C10_,C10_n,K11,W12_]
theorem lva_r2_2(C3:¬v4<0)(C4:¬a1≤v4)(C5:¬0<(i_2:Int))(B6a:H q4≤17179869184)(C7:¬sgR q4=0)(W9:InI ((i_2:Int)+1)):
  Cont 0 (exec Tryz.prog (tab n) 0 56 (livesOf 99) big lva_C2) (livesOf 99 2) (lva_h2 a0 a1 i_2) (lva_h2 a0 a1 (i_2+1)):=by
 have C1_:i_2<a0.1.length:=by omega
 obtain ⟨EL2,EG2⟩:=List.getElem?_eq_some_iff.1 E2
 have C5_:¬0<i_2:=by omega
 have C5_z:(i_2:Int)=0:=by omega
 have C5_e:((i_2:Int)==0)=true:=by rw [C5_z];simp
 have C5_g:((i_2:Int) !=0)=false:=by rw [C5_z];simp
 have K6:=r_sign (p:=q4) B6a
 have C7_:(sgR q4==0)=false:=by simpa using C7
 have C7_n:(sgR q4 !=0)=true:=by simpa using C7
 have K8:=r_valid (p:=q4) B6a
 have W9_:IntKind.i64.wrap ((i_2:Int)+1)=(i_2:Int)+1:=wr64 W9.1 W9.2
 unfold Cont
 simp+decide [lva_h2,loopsOf, Tryz.f99,lva_C2,C1,C1_,EL2,EG2,E2,C3,C4,C5,C5_,C5_e,C5_g,K6,C7_,C7_n,K8,W9_]
theorem lva_x2_1(C3:v4<0):
  Leave 0 (exec Tryz.prog (tab n) 0 56 (livesOf 99) big lva_C2) (livesOf 99 (outOf 2)) (lva_h2 a0 a1 i_2) (.ret) (lva_o2a a0):=by
 have C1_:i_2<a0.1.length:=by omega
 obtain ⟨EL2,EG2⟩:=List.getElem?_eq_some_iff.1 E2
 unfold Leave
 simp+decide [lva_h2,loopsOf, Tryz.f99,lva_o2a,lva_C2,C1,C1_,EL2,EG2,E2,C3]
theorem lva_x2_2(C3:¬v4<0)(C4:a1≤v4):
  Leave 0 (exec Tryz.prog (tab n) 0 56 (livesOf 99) big lva_C2) (livesOf 99 (outOf 2)) (lva_h2 a0 a1 i_2) (.ret) (lva_o2a a0):=by
 have C1_:i_2<a0.1.length:=by omega
 obtain ⟨EL2,EG2⟩:=List.getElem?_eq_some_iff.1 E2
 unfold Leave
 simp+decide [lva_h2,loopsOf, Tryz.f99,lva_o2a,lva_C2,C1,C1_,EL2,EG2,E2,C3,C4]
theorem lva_x2_3(C3:¬v4<0)(C4:¬a1≤v4)(C5:0<(i_2:Int))(W6:InI ((i_2:Int)-1))(E7:a0.1[i_2-1]?=some (v5,q5))(Z7:1≤i_2)(C8:v4≤v5):
  Leave 0 (exec Tryz.prog (tab n) 0 56 (livesOf 99) big lva_C2) (livesOf 99 (outOf 2)) (lva_h2 a0 a1 i_2) (.ret) (lva_o2a a0):=by
 have C1_:i_2<a0.1.length:=by omega
 obtain ⟨EL2,EG2⟩:=List.getElem?_eq_some_iff.1 E2
 have C5_:0<i_2:=by omega
 have C5_z:(i_2:Int)≠0:=by omega
 have C5_e:((i_2:Int)==0)=false:=by simpa using C5_z
 have C5_g:((i_2:Int) !=0)=true:=by simpa using C5_z
 have W6_:IntKind.i64.wrap ((i_2:Int)-1)=(i_2:Int)-1:=wr64 W6.1 W6.2
 obtain ⟨EL7,EG7⟩:=List.getElem?_eq_some_iff.1 E7
 have Z7_0:(1:Int)≤(i_2:Int):=by omega
 have Z7_1:0≤(i_2:Int)-1:=by omega
 unfold Leave
 simp+decide [lva_h2,loopsOf, Tryz.f99,lva_o2a,lva_C2,C1,C1_,EL2,EG2,E2,C3,C4,C5,C5_,C5_e,C5_g,W6_,EL7,EG7,E7,Z7,Z7_0,Z7_1,C8]
theorem lva_x2_4(C3:¬v4<0)(C4:¬a1≤v4)(C5:0<(i_2:Int))(W6:InI ((i_2:Int)-1))(E7:a0.1[i_2-1]?=some (v5,q5))(Z7:1≤i_2)(C8:¬v4≤v5)(B9a:H q4≤17179869184)(C10:sgR q4=0):
  Leave 0 (exec Tryz.prog (tab n) 0 56 (livesOf 99) big lva_C2) (livesOf 99 (outOf 2)) (lva_h2 a0 a1 i_2) (.ret) (lva_o2a a0):=by
 have C1_:i_2<a0.1.length:=by omega
 obtain ⟨EL2,EG2⟩:=List.getElem?_eq_some_iff.1 E2
 have C5_:0<i_2:=by omega
 have C5_z:(i_2:Int)≠0:=by omega
 have C5_e:((i_2:Int)==0)=false:=by simpa using C5_z
 have C5_g:((i_2:Int) !=0)=true:=by simpa using C5_z
 have W6_:IntKind.i64.wrap ((i_2:Int)-1)=(i_2:Int)-1:=wr64 W6.1 W6.2
 obtain ⟨EL7,EG7⟩:=List.getElem?_eq_some_iff.1 E7
 have Z7_0:(1:Int)≤(i_2:Int):=by omega
 have Z7_1:0≤(i_2:Int)-1:=by omega
 have K9:=r_sign (p:=q4) B9a
 have C10_:(sgR q4==0)=true:=by rw [C10];simp
 have C10_n:(sgR q4 !=0)=false:=by rw [C10];simp
 unfold Leave
 simp+decide [lva_h2,loopsOf, Tryz.f99,lva_o2a,lva_C2,C1,C1_,EL2,EG2,E2,C3,C4,C5,C5_,C5_e,C5_g,W6_,EL7,EG7,E7,Z7,Z7_0,Z7_1,C8,K9,C10_,C10_n]
theorem lva_x2_5(C3:¬v4<0)(C4:¬a1≤v4)(C5:¬0<(i_2:Int))(B6a:H q4≤17179869184)(C7:sgR q4=0):
  Leave 0 (exec Tryz.prog (tab n) 0 56 (livesOf 99) big lva_C2) (livesOf 99 (outOf 2)) (lva_h2 a0 a1 i_2) (.ret) (lva_o2a a0):=by
 have C1_:i_2<a0.1.length:=by omega
 obtain ⟨EL2,EG2⟩:=List.getElem?_eq_some_iff.1 E2
 have C5_:¬0<i_2:=by omega
 have C5_z:(i_2:Int)=0:=by omega
 have C5_e:((i_2:Int)==0)=true:=by rw [C5_z];simp
 have C5_g:((i_2:Int) !=0)=false:=by rw [C5_z];simp
 have K6:=r_sign (p:=q4) B6a
 have C7_:(sgR q4==0)=true:=by rw [C7];simp
 have C7_n:(sgR q4 !=0)=false:=by rw [C7];simp
 unfold Leave
 simp+decide [lva_h2,loopsOf, Tryz.f99,lva_o2a,lva_C2,C1,C1_,EL2,EG2,E2,C3,C4,C5,C5_,C5_e,C5_g,K6,C7_,C7_n]
end
theorem lva_x2_6(C1:¬(i_2:Int)<(a0.1.length:Int)):
  Leave 0 (exec Tryz.prog (tab n) 0 56 (livesOf 99) big lva_C2) (livesOf 99 (outOf 2)) (lva_h2 a0 a1 i_2) (.exit 0) (lva_o2b a0):=by
 have C1_:¬i_2<a0.1.length:=by omega
 unfold Leave
 simp+decide [lva_h2,loopsOf, Tryz.f99,lva_o2b,lva_C2,C1,C1_]
theorem lva_f1(L1:loopG Tryz.prog (tab n) 0 56 (livesOf 99) 2 lva_C2 (lva_h2 a0 a1 0)=some (.ret,lva_o2a a0)):
  run n 99 [formV a0,.lit (.int .i64 a1)]=some (.lit (.bool false)):=by
 unfold run fnP
 simp+decide [Tryz.f99]
 rw [loopX_G (C':=lva_C2) (e:=(lva_h2 a0 a1 0)) ?_ ?_,L1]
 rotate_left
 ·kernel_rfl
 ·simp+decide [lva_h2]
 simp+decide [lva_o2a]
theorem lva_f2(L1:loopG Tryz.prog (tab n) 0 56 (livesOf 99) 2 lva_C2 (lva_h2 a0 a1 0)=some (.exit 0,lva_o2b a0))(B2a:H a0.2≤17179869184):
  run n 99 [formV a0,.lit (.int .i64 a1)]=some (.lit (.bool true)):=by
 have K2:=r_valid (p:=a0.2) B2a
 unfold run fnP
 simp+decide [Tryz.f99,K2]
 rw [loopX_G (C':=lva_C2) (e:=(lva_h2 a0 a1 0)) ?_ ?_,L1]
 rotate_left
 ·kernel_rfl
 ·simp+decide [lva_h2,K2]
 simp+decide [lva_o2b,K2]
end
end
section
open Go.RowKit
attribute [local irreducible] run runL loopG exec
theorem lvalid_c{n:Nat}{f:Form}{vars:Int}(hB:BdF 17179869184 f):run n 99 [formV f,.lit (.int .i64 vars)]=some (.lit (.bool (tv (OkFm f vars)))):=by
 have hl:=hB.l
 have L:=loopG_all (O:=tab n) (P:= Tryz.prog) (m:=0) (N:=56) (lives:=livesOf 99) (r:=2) (C:=lva_C2) (M:=f.1.length) (enc:=lva_h2 f vars) (p:=fun i=>tv (OkTm f.1 vars i)) (exN:=.exit 0) (exE:=.ret) (out:=lva_o2b f) (outE:=lva_o2a f) (by omega) (by simp) (by simp)
  (fun i hi hI=>by
   have hx:f.1[i]?=some f.1[i]:=List.getElem?_eq_getElem hi
   generalize f.1[i]=t at hx
   obtain ⟨v,c⟩:=t
   have hc:H c≤17179869184:=hB.t _ (List.mem_of_getElem? hx)
   have C1:(i:Int)<(f.1.length:Int):=by omega
   have W:InI ((i:Int)+1):=⟨by omega,by omega⟩
   have W2:InI ((i:Int)-1):=⟨by omega,by omega⟩
   have hs:sgR c=0↔c=0:=sgR_eq_zero
   by_cases h0:0<i
   ·have hy:f.1[i-1]?=some (f.1[i-1]'(by omega)):=List.getElem?_eq_getElem _
    generalize f.1[i-1]'(by omega)=t at hy
    obtain ⟨v',c'⟩:=t
    refine ⟨fun hp=>?_,fun hp=>?_⟩
    ·obtain ⟨a1,a2,a3,a4⟩:=tv_true hp v c hx
     have a5:=a4 v' c' h0 hy
     exact lva_r2_1 C1 hx (by omega) (by omega) (by omega) W2 hy (by omega) (by omega) hc (fun h=>a3 (hs.1 h)) W
    ·by_cases b1:v<0
     ·exact lva_x2_1 C1 hx b1
     ·by_cases b2:vars≤v
      ·exact lva_x2_2 C1 hx b1 b2
      ·by_cases b3:v≤v'
       ·exact lva_x2_3 C1 hx b1 b2 (by omega) W2 hy (by omega) b3
       ·by_cases b4:c=0
        ·exact lva_x2_4 C1 hx b1 b2 (by omega) W2 hy (by omega) b3 hc (hs.2 b4)
        ·refine absurd (fun u d hu=>?_) (tv_false hp)
         rw [hx] at hu;cases hu
         exact ⟨by omega,by omega,b4,fun v2 c2 _ h2=>by rw [hy] at h2;cases h2;omega⟩
   ·refine ⟨fun hp=>?_,fun hp=>?_⟩
    ·obtain ⟨a1,a2,a3,a4⟩:=tv_true hp v c hx
     exact lva_r2_2 C1 hx (by omega) (by omega) (by omega) hc (fun h=>a3 (hs.1 h)) W
    ·by_cases b1:v<0
     ·exact lva_x2_1 C1 hx b1
     ·by_cases b2:vars≤v
      ·exact lva_x2_2 C1 hx b1 b2
      ·by_cases b4:c=0
       ·exact lva_x2_5 C1 hx b1 b2 (by omega) hc (hs.2 b4)
       ·refine absurd (fun u d hu=>?_) (tv_false hp)
        rw [hx] at hu;cases hu
        exact ⟨by omega,by omega,b4,fun v2 c2 h2=>absurd h2 h0⟩)
  (lva_x2_6 (by omega))
 by_cases h:OkFm f vars
 ·rw [if_pos (fun i hi=>tv_t (h i hi))] at L
  rw [tv_t h]
  exact lva_f2 L hB.k
 ·rw [if_neg (fun h2=>h fun i hi=>tv_true (h2 i hi))] at L
  rw [tv_f h]
  exact lva_f1 L
def OkKC(c:TClaim)(z:Int):Prop:=(c.Kind=1∧0≤c.Target∧c.Target<z∧c.Rows=[])∨(c.Kind=2∧c.Target=0∧1≤c.Rows.length∧c.Rows.length≤256∧∀f∈c.Rows,OkFm f z)
structure OkCl (c:TClaim) (z:Int):Prop where
 z0:1≤z
 z1:z≤256
 m0:¬sgR c.Margin<0
 k:OkKC c z
section
variable {n : Nat} {c : TClaim} {z : Int}
theorem cvcV_c{f:Form}(hB:BdF 17179869184 f):run (n+1) 98 [formV f,.mem [.lit (.int .i64 z)]]=some (.lit (.bool (!tv (OkFm f z)))):=cvcV_f1 (lvalid_c (n:=n) hB)
theorem cifV_c{L:List Form}(hl:L.length≤256)(hB:∀f∈L,BdF 17179869184 f):∃r:Int,run (n+2) 159 [.sl 4 (L.map formC),.clo 98 [.mem [.lit (.int .i64 z)]]]=some (.lit (.int .i64 r))∧(0≤r↔¬∀f∈L,OkFm f z):=by
 obtain ⟨ex,t,h1,h2⟩:=loopG_Q (β:=Unit) (P:= Tryz.prog) (O:=tab (n+2)) (m:=0) (N:=19) (lives:=livesOf 159) (r:=2) (C:=ifgV_C2) (M:=L.length) (enc:=fun i _=>ifgV_h2 L z i)
  (fun i _=>∀j f,j<i→L[j]?=some f→OkFm f z) (fun ex t=>(ex=.exit 0∧t=ifgV_o2b∧∀f∈L,OkFm f z)∨(ex=.ret∧∃i:Nat,t=ifgV_o2a i∧¬∀f∈L,OkFm f z)) () (fun j f hj=>by omega) (by omega)
  (fun i b hi hI=>by
   have hx:L[i]?=some L[i]:=List.getElem?_eq_getElem hi
   generalize L[i]=f at hx
   have hm:=List.mem_of_getElem? hx
   have K:=cvcV_c (n:=n) (z:=z) (hB f hm)
   obtain ⟨F,q⟩:=f
   by_cases h:OkFm (F,q) z
   ·rw [tv_t h] at K
    refine .inl ⟨(),ifgV_r2_1 (by omega) hx K rfl ⟨by omega,by omega⟩,fun j g hj hg=>?_⟩
    rcases Nat.lt_succ_iff_lt_or_eq.1 hj with h2|rfl
    ·exact hI j g h2 hg
    ·rw [hx] at hg;cases hg;exact h
   ·rw [tv_f h] at K
    exact .inr ⟨_,_,by simp,ifgV_x2_1 (by omega) hx K rfl,.inr ⟨rfl,i,rfl,fun h2=>h (h2 _ hm)⟩⟩)
  (fun b hI=>⟨_,_,by simp,ifgV_x2_2 (by omega),.inl ⟨rfl,rfl,fun f hf=>by
   obtain ⟨j,hj⟩:=List.mem_iff_getElem?.1 hf
   exact hI j f (List.getElem?_eq_some_iff.1 hj).1 hj⟩⟩)
 rcases h2 with ⟨rfl,rfl,h3⟩|⟨rfl,i,rfl,h3⟩
 ·exact ⟨-1,ifgV_f2 h1,fun h=>by omega,fun h=>absurd h3 h⟩
 ·exact ⟨(i:Int),ifgV_f1 h1,fun _=>h3,fun _=>by omega⟩
theorem cfgV_c{L:List Form}(hl:L.length≤256)(hB:∀f∈L,BdF 17179869184 f):run (n+3) 97 [.sl 4 (L.map formC),.clo 98 [.mem [.lit (.int .i64 z)]]]=some (.lit (.bool (!tv (∀f∈L,OkFm f z)))):=by
 obtain ⟨r,h1,h2⟩:=cifV_c (n:=n) (z:=z) hl hB
 rw [cfgV_f1 (n:=n) h1]
 by_cases h:∀f∈L,OkFm f z
 ·rw [tv_t h,decide_eq_false (fun h4=>(h2.1 h4) h)];rfl
 ·rw [tv_f h,decide_eq_true (h2.2 h)];rfl
theorem vlV_c{L:List Form}(hl:L.length≤256)(hB:∀f∈L,BdF 17179869184 f):run (n+1) 55 [.sl 4 (L.map formC),.lit (.int .i64 z)]=some (.lit (.bool (tv (∀f∈L,OkFm f z)))):=by
 have hG:=loopG_all (O:=tab (n+1)) (P:= Tryz.prog) (m:=0) (N:=19) (lives:=livesOf 55) (r:=2) (C:=vlV_C2) (M:=L.length) (enc:=vlV_h2 L z) (p:=fun i=>tv (∀f,L[i]?=some f→OkFm f z)) (exN:=.exit 0) (exE:=.ret) (out:=vlV_o2b) (outE:=vlV_o2a) (by omega) (by simp) (by simp)
  (fun i hi hI=>by
   have hx:L[i]?=some L[i]:=List.getElem?_eq_getElem hi
   generalize L[i]=f at hx
   have hm:=List.mem_of_getElem? hx
   have K:=validF_c (n:=n) (vars:=z) (hB f hm)
   rw [tv_one (P:=fun f:Form=>OkFm f z) hx]
   obtain ⟨F,q⟩:=f
   exact ⟨fun hp=>vlV_r2_1 (by omega) hx K hp ⟨by omega,by omega⟩,fun hp=>vlV_x2_1 (by omega) hx K hp⟩)
  (vlV_x2_2 (by omega))
 by_cases h:∀f∈L,OkFm f z
 ·rw [ite_all (P:=fun f:Form=>OkFm f z) h] at hG
  rw [tv_t h]
  exact vlV_f2 hG
 ·rw [ite_not (P:=fun f:Form=>OkFm f z) h] at hG
  rw [tv_f h]
  exact vlV_f1 hG
theorem validC(hm:H c.Margin≤17179869184)(hB:∀f∈c.Rows,BdF 17179869184 f):run (n+4) 44 [claimV c,.lit (.int .i64 z)]=some (.lit (.bool (tv (OkCl c z))))∧run (n+2) 20 [claimV c,.lit (.int .i64 z)]=some (.lit (.bool (tv (OkCl c z)))):=by
 by_cases c1:z<1
 ·rw [tv_f (fun h=>by have:=h.z0;omega)];exact ⟨cvV_f1 c1,fVV_f1 c1⟩
 by_cases c2:256<z
 ·rw [tv_f (fun h=>by have:=h.z1;omega)];exact ⟨cvV_f2 c1 c2,fVV_f2 c1 c2⟩
 by_cases c4:sgR c.Margin<0
 ·rw [tv_f (fun h=>h.m0 c4)];exact ⟨cvV_f3 c1 c2 hm c4,fVV_f3 c1 c2 hm c4⟩
 have red:∀{q:Prop},(OkKC c z↔q)→tv (OkCl c z)=tv q:=fun h=>tv_if ⟨fun k=>h.1 k.k,fun k=>⟨by omega,by omega,c4,h.2 k⟩⟩
 by_cases c5:c.Kind=1
 ·by_cases c6:0≤c.Target
  ·by_cases c7:c.Target<z
   ·have R:=cvV_f4 (n:=n) c1 c2 hm c4 c5 c6 c7
    have R2:=fVV_f4 (n:=n) c1 c2 hm c4 c5 c6 c7
    rw [len0] at R R2
    rw [red (q:=c.Rows=[]) ⟨fun h=>by rcases h with h|h;exact h.2.2.2;omega,fun h=>.inl ⟨c5,c6,c7,h⟩⟩]
    exact ⟨R,R2⟩
   ·rw [red (q:=False) ⟨fun h=>by rcases h with h|h <;>omega,False.elim⟩,tv_f id]
    exact ⟨cvV_f5 c1 c2 hm c4 c5 c6 c7,fVV_f5 c1 c2 hm c4 c5 c6 c7⟩
  ·rw [red (q:=False) ⟨fun h=>by rcases h with h|h <;>omega,False.elim⟩,tv_f id]
   exact ⟨cvV_f6 c1 c2 hm c4 c5 c6,fVV_f6 c1 c2 hm c4 c5 c6⟩
 by_cases c6:c.Kind=2
 ·by_cases c7:c.Target=0
  ·by_cases c8:1≤(c.Rows.length:Int)
   ·by_cases c9:(c.Rows.length:Int)≤256
    ·have R:=cvV_f7 (n:=n) c1 c2 hm c4 c5 c6 c7 c8 c9 (cfgV_c (n:=n) (z:=z) (by omega) hB)
     have R2:=fVV_f7 (n:=n) c1 c2 hm c4 c5 c6 c7 c8 c9 (vlV_c (n:=n) (z:=z) (by omega) hB)
     rw [Bool.not_not] at R
     rw [red (q:=∀f∈c.Rows,OkFm f z) ⟨fun h=>by rcases h with h|h;omega;exact h.2.2.2.2,fun h=>.inr ⟨c6,c7,by omega,by omega,h⟩⟩]
     exact ⟨R,R2⟩
    ·rw [red (q:=False) ⟨fun h=>by rcases h with h|h <;>omega,False.elim⟩,tv_f id]
     exact ⟨cvV_f8 c1 c2 hm c4 c5 c6 c7 c8 c9,fVV_f8 c1 c2 hm c4 c5 c6 c7 c8 c9⟩
   ·rw [red (q:=False) ⟨fun h=>by rcases h with h|h <;>omega,False.elim⟩,tv_f id]
    exact ⟨cvV_f9 c1 c2 hm c4 c5 c6 c7 c8,fVV_f9 c1 c2 hm c4 c5 c6 c7 c8⟩
  ·rw [red (q:=False) ⟨fun h=>by rcases h with h|h <;>omega,False.elim⟩,tv_f id]
   exact ⟨cvV_f10 c1 c2 hm c4 c5 c6 c7,fVV_f10 c1 c2 hm c4 c5 c6 c7⟩
 ·rw [red (q:=False) ⟨fun h=>by rcases h with h|h <;>omega,False.elim⟩,tv_f id]
  exact ⟨cvV_f11 c1 c2 hm c4 c5 c6,fVV_f11 c1 c2 hm c4 c5 c6⟩
end
end
section
open Go.RowKit Go.Lib
attribute [local irreducible] run runL loopG exec
def wM:List UInt8:=[109,97,114,103,105,110]
theorem last_room{L:List UInt8}(h:0≤lastIndex L wM):lastIndex L wM+6≤L.length:=by
 unfold lastIndex at h ⊢
 have e:wM.length=6:=rfl
 rw [e] at h ⊢
 split
 ·rename_i h1
  rw [if_pos h1] at h
  rcases lastOcc_spec L wM (L.length-6+1) with ⟨h2,_⟩|⟨i,h2,h3,_⟩
  ·omega
  ·omega
 ·rename_i h1
  rw [if_neg h1] at h
  omega
theorem last_c{L:List UInt8}(hL:L.length≤100000):oLastIndex [.lit (.string (bs L)),.lit (.string (⟨#[109,97,114,103,105,110]⟩:ByteArray))]=some (.lit (.int .i64 (lastIndex L wM))):=by
 unfold oLastIndex
 dsimp only
 rw [if_pos (by rw [bs_size];omega),bs_data]
 rfl
def hdF(B:List UInt8):Except Nat (Int × Int × List Form):=
 if hasPrefix (trL B) topW=true then match tgP ((trL B).drop 3) with
  | some v=>.ok (1,(v:Int),[])
  | none=>.error 0
 else match rwsF 0 [] (pcs B) with
  | .ok fs=>.ok (2,0,fs)
  | .error e=>.error e
open Classical in
noncomputable def prG(r:Int)(B R:List UInt8):Except (Int × Int) TClaim:=
 match hdF B with
 | .error e=>.error ((e:Int),4)
 | .ok (k,t,fs)=>if (fmF R).2=false∨(121:UInt8)∈R then .error (r+6,4) else if OkCl ⟨k,t,(fmF R).1.2,fs⟩ 256 then .ok ⟨k,t,(fmF R).1.2,fs⟩ else .error (0,1)
noncomputable def prF(L:List UInt8):Except (Int × Int) TClaim:=
 if 0≤lastIndex L wM then prG (lastIndex L wM) (L.take (lastIndex L wM).toNat) (L.drop ((lastIndex L wM).toNat+6)) else prG (lastIndex L wM) L [48]
def prR:Except (Int × Int) TClaim→AV
 | .ok c=>.tup [claimV c,.lit (.int .i64 0),.lit (.int .i64 0)]
 | .error (a,e)=>.tup [.agg [.lit (.int .i64 0),.lit (.int .i64 0),.lit (.bool false),.sl 1 [],.sl 1 [],.sl 4 []],.lit (.int .i64 a),.lit (.int .i64 e)]
section
variable {r : Int} {B R : List UInt8} {e : Nat} {k t : Int} {fs : List Form}
theorem prG_1(h:hdF B=.error e):prG r B R=.error ((e:Int),4):=by unfold prG;rw [h]
theorem prG_2(h:hdF B=.ok (k,t,fs))(f:(fmF R).2=false∨(121:UInt8)∈R):prG r B R=.error (r+6,4):=by unfold prG;rw [h];exact if_pos f
theorem prG_3(h:hdF B=.ok (k,t,fs))(f1:(fmF R).2=true)(f2:¬(121:UInt8)∈R)(v:¬OkCl ⟨k,t,(fmF R).1.2,fs⟩ 256):prG r B R=.error (0,1):=by
 unfold prG;rw [h];dsimp only;rw [if_neg (fun h=>by rcases h with h|h;rw [f1] at h;cases h;exact f2 h),if_neg v]
theorem prG_4(h:hdF B=.ok (k,t,fs))(f1:(fmF R).2=true)(f2:¬(121:UInt8)∈R)(v:OkCl ⟨k,t,(fmF R).1.2,fs⟩ 256):prG r B R=.ok ⟨k,t,(fmF R).1.2,fs⟩:=by
 unfold prG;rw [h];dsimp only;rw [if_neg (fun h=>by rcases h with h|h;rw [f1] at h;cases h;exact f2 h),if_pos v]
end
theorem rw_sb{L:List UInt8}(hG:GoodP L){f:Form}(h:rwF L=.ok f):SB 700000 200 f:=by
 have hk:¬spF L<0→spF L=((spF L).toNat:Int):=fun h=>by omega
 unfold rwF at h
 split at h
 ·cases h
 ·rename_i h0
  obtain ⟨sA,sB⟩:=hG.2 _ (hk h0)
  split at h
  ·cases h
  ·split at h
   ·cases h
   ·cases h
    split
    ·exact (sub_sb sB sA).mono (by omega) (by omega)
    ·exact (sub_sb sA sB).mono (by omega) (by omega)
theorem rws_sb:∀{ps:List (List UInt8)} {a:Nat} {out fs:List Form},(∀p∈ps,GoodP p)→(∀f∈out,SB 700000 200 f)→rwsF a out ps=.ok fs→∀f∈fs,SB 700000 200 f
 | [],a,out,fs,_,ho,h=>by rw [rwsF] at h;cases h;exact ho
 | p::ps,a,out,fs,hp,ho,h=>by
   rw [rwsF] at h
   cases hr:rwF p with
   | error e=>rw [hr] at h;cases h
   | ok g=>
     rw [hr] at h
     exact rws_sb (fun q hq=>hp q (List.mem_cons_of_mem _ hq)) (fun f hf=>by
      rcases List.mem_append.1 hf with h2|h2
      ·exact ho f h2
      ·rw [List.mem_singleton.1 h2];exact rw_sb (hp p List.mem_cons_self) hr) h
theorem hd_sb{B:List UInt8}(hB:∀p∈pcs B,GoodP p){k t:Int}{fs:List Form}(h:hdF B=.ok (k,t,fs)):∀f∈fs,SB 700000 200 f:=by
 unfold hdF at h
 split at h
 ·split at h
  ·cases h;exact fun f hf=>(by cases hf)
  ·cases h
 ·split at h
  ·rename_i gs hg
   cases h
   exact rws_sb hB (fun f hf=>by cases hf) hg
  ·cases h
theorem hd_valid{n:Nat}{B R:List UInt8}(hB:B.length≤80)(hR:R.length≤80){k t:Int}{fs:List Form}(h:hdF B=.ok (k,t,fs)):
  run (n+4) 44 [claimV ⟨k,t,(fmF R).1.2,fs⟩,.lit (.int .i64 256)]=some (.lit (.bool (tv (OkCl ⟨k,t,(fmF R).1.2,fs⟩ 256))))∧run (n+2) 20 [claimV ⟨k,t,(fmF R).1.2,fs⟩,.lit (.int .i64 256)]=some (.lit (.bool (tv (OkCl ⟨k,t,(fmF R).1.2,fs⟩ 256)))):=
 validC (n:=n) (c:=⟨k,t,(fmF R).1.2,fs⟩) (z:=256) (by have:=(fm_sb hR).k;show H (fmF R).1.2≤_;omega) (fun f hf=>(hd_sb (fun p hp=>goodP_80 (Nat.le_trans ((pcs_len B).2 p hp) hB)) h f hf).bd (by omega) (by omega))
structure PrOk (B R:List UInt8):Prop where
 b:B.length≤100000
 p:∀p∈pcs B,GoodP p
 r:R.length≤900
 k:H (fmF R).1.2≤8300
 v:∀(n:Nat) (k t:Int) (fs:List Form),hdF B=.ok (k,t,fs)→run (n+4) 44 [claimV ⟨k,t,(fmF R).1.2,fs⟩,.lit (.int .i64 256)]=some (.lit (.bool (tv (OkCl ⟨k,t,(fmF R).1.2,fs⟩ 256))))
theorem prOk_80{B R:List UInt8}(hB:B.length≤80)(hR:R.length≤80):PrOk B R:=⟨by omega,fun p hp=>goodP_80 (Nat.le_trans ((pcs_len B).2 p hp) hB),by omega,(fm_sb hR).k,fun n k t fs h=>(hd_valid hB hR h).1⟩
def bodyF(L:List UInt8):List UInt8:=if 0≤lastIndex L wM then L.take (lastIndex L wM).toNat else L
def restF(L:List UInt8):List UInt8:=if 0≤lastIndex L wM then L.drop ((lastIndex L wM).toNat+6) else [48]
section
variable {n : Nat} {L : List UInt8}
theorem cparse_g(hL:L.length≤100000)(hP:PrOk (bodyF L) (restF L)):run (n+14) 21 [.lit (.string (bs L))]=some (prR (prF L)):=by
 have K1:=last_c (L:=L) (by omega)
 unfold prF
 unfold bodyF restF at hP
 by_cases hr:0≤lastIndex L wM
 ·rw [if_pos hr,if_pos hr] at hP
  rw [if_pos hr]
  have room:=last_room hr
  have hs:(bs L).size=L.length:=bs_size _
  have U3:0≤0∧0≤lastIndex L wM∧lastIndex L wM≤((bs L).size:Int):=⟨by omega,by omega,by omega⟩
  have D3:bs (L.take (lastIndex L wM).toNat)=(bs L).extract 0 (lastIndex L wM).toNat:=(bs_to L _).symm
  have W4:InI (lastIndex L wM+6):=⟨by omega,by omega⟩
  have U5:0≤lastIndex L wM+6∧lastIndex L wM+6≤((bs L).size:Int)∧((bs L).size:Int)≤((bs L).size:Int):=⟨by omega,by omega,by omega⟩
  have e6:(lastIndex L wM+6).toNat=(lastIndex L wM).toNat+6:=by omega
  have D5:bs (L.drop ((lastIndex L wM).toNat+6))=(bs L).extract (lastIndex L wM+6).toNat (bs L).size:=by rw [e6];exact (bs_from L _).symm
  generalize L.take (lastIndex L wM).toNat=B at D3 hP ⊢
  generalize L.drop ((lastIndex L wM).toNat+6)=R at D5 hP ⊢
  have hB:=hP.b
  have hR:=hP.r
  have K6:=trimLeft_c (L:=B) (by omega)
  have K7:oHasPrefix [.lit (.string (bs (trL B))),.lit (.string (⟨#[116,111,112]⟩:ByteArray))]=some (.lit (.bool (hasPrefix (trL B) topW))):=pre_c (t:=topW)
  have K11:=form_c (n:=n+1) (L:=R) (by omega)
  have K13:=contains_c (c:=121) (L:=R) (by omega)
  cases hp:hasPrefix (trL B) topW with
  | true=>
    have K9:=target_c (n:=n+4) (L:=B) (by omega) hp
    cases ht:tgP ((trL B).drop 3) with
    | none=>
      have hd:hdF B=.error 0:=by unfold hdF;rw [if_pos hp,ht]
      rw [ht] at K9
      rw [prG_1 hd]
      exact cpa_f1 K1 hr U3 D3 W4 U5 D5 K6 K7 hp K9 rfl
    | some v=>
      have hd:hdF B=.ok (1,(v:Int),[]):=by unfold hdF;rw [if_pos hp,ht]
      rw [ht] at K9
      cases f1:(fmF R).2 with
      | false=>rw [prG_2 hd (.inl f1)];exact cpa_f2 K1 hr U3 D3 W4 U5 D5 K6 K7 hp K9 rfl K11 f1
      | true=>
        by_cases f2:(121:UInt8)∈R
        ·rw [prG_2 hd (.inr f2)];exact cpa_f3 K1 hr U3 D3 W4 U5 D5 K6 K7 hp K9 rfl K11 f1 K13 (decide_eq_true f2)
        ·have V:=hP.v (n+9) _ _ _ hd
         by_cases ho:OkCl ⟨1,(v:Int),(fmF R).1.2,[]⟩ 256
         ·rw [tv_t ho] at V;rw [prG_4 hd f1 f2 ho];exact cpa_f5 K1 hr U3 D3 W4 U5 D5 K6 K7 hp K9 rfl K11 f1 K13 (decide_eq_false f2) V rfl
         ·rw [tv_f ho] at V;rw [prG_3 hd f1 f2 ho];exact cpa_f4 K1 hr U3 D3 W4 U5 D5 K6 K7 hp K9 rfl K11 f1 K13 (decide_eq_false f2) V rfl
  | false=>
    have K9:=crows_g (n:=n) (L:=B) hB hP.p
    cases ht:rwsF 0 [] (pcs B) with
    | error e=>
      have hd:hdF B=.error e:=by unfold hdF;rw [if_neg (by rw [hp];simp),ht]
      rw [ht] at K9
      rw [prG_1 hd]
      exact cpa_f6 (r6:=[]) K1 hr U3 D3 W4 U5 D5 K6 K7 hp K9 rfl
    | ok fs=>
      have hd:hdF B=.ok (2,0,fs):=by unfold hdF;rw [if_neg (by rw [hp];simp),ht]
      rw [ht] at K9
      cases f1:(fmF R).2 with
      | false=>rw [prG_2 hd (.inl f1)];exact cpa_f7 K1 hr U3 D3 W4 U5 D5 K6 K7 hp K9 rfl K11 f1
      | true=>
        by_cases f2:(121:UInt8)∈R
        ·rw [prG_2 hd (.inr f2)];exact cpa_f8 K1 hr U3 D3 W4 U5 D5 K6 K7 hp K9 rfl K11 f1 K13 (decide_eq_true f2)
        ·have V:=hP.v (n+9) _ _ _ hd
         by_cases ho:OkCl ⟨2,0,(fmF R).1.2,fs⟩ 256
         ·rw [tv_t ho] at V;rw [prG_4 hd f1 f2 ho];exact cpa_f10 K1 hr U3 D3 W4 U5 D5 K6 K7 hp K9 rfl K11 f1 K13 (decide_eq_false f2) V rfl
         ·rw [tv_f ho] at V;rw [prG_3 hd f1 f2 ho];exact cpa_f9 K1 hr U3 D3 W4 U5 D5 K6 K7 hp K9 rfl K11 f1 K13 (decide_eq_false f2) V rfl
 ·rw [if_neg hr,if_neg hr] at hP
  rw [if_neg hr]
  have K6:=trimLeft_c (L:=L) (by omega)
  have K7:oHasPrefix [.lit (.string (bs (trL L))),.lit (.string (⟨#[116,111,112]⟩:ByteArray))]=some (.lit (.bool (hasPrefix (trL L) topW))):=pre_c (t:=topW)
  have K11:run (n+13) 61 [.lit (.string (⟨#[48]⟩:ByteArray))]=some (.tup [formV (fmF [48]).1,.lit (.bool (fmF [48]).2)]):=form_c (n:=n+1) (L:=[48]) (by decide)
  have K13:oContains [.lit (.string (⟨#[48]⟩:ByteArray)),.lit (.string (⟨#[121]⟩:ByteArray))]=some (.lit (.bool (decide ((121:UInt8)∈([48]:List UInt8))))):=contains_c (c:=121) (L:=[48]) (by decide)
  have f2:¬(121:UInt8)∈([48]:List UInt8):=by decide
  have W:InI (lastIndex L wM+6):=by
   have h1:-1≤lastIndex L wM:=by
    unfold lastIndex
    split
    ·rcases lastOcc_spec L wM (L.length-wM.length+1) with ⟨h2,_⟩|⟨i,_,h3,_⟩ <;>omega
    ·omega
   exact ⟨by omega,by omega⟩
  cases hp:hasPrefix (trL L) topW with
  | true=>
    have K9:=target_c (n:=n+4) (L:=L) (by omega) hp
    cases ht:tgP ((trL L).drop 3) with
    | none=>
      have hd:hdF L=.error 0:=by unfold hdF;rw [if_pos hp,ht]
      rw [ht] at K9
      rw [prG_1 hd]
      exact cpa_f11 K1 hr K6 K7 hp K9 rfl
    | some v=>
      have hd:hdF L=.ok (1,(v:Int),[]):=by unfold hdF;rw [if_pos hp,ht]
      rw [ht] at K9
      cases f1:(fmF [48]).2 with
      | false=>rw [prG_2 hd (.inl f1)];exact cpa_f12 K1 hr K6 K7 hp K9 rfl K11 f1 W
      | true=>
        have V:=hP.v (n+9) _ _ _ hd
        by_cases ho:OkCl ⟨1,(v:Int),(fmF [48]).1.2,[]⟩ 256
        ·rw [tv_t ho] at V;rw [prG_4 hd f1 f2 ho];exact cpa_f15 K1 hr K6 K7 hp K9 rfl K11 f1 K13 (decide_eq_false f2) V rfl
        ·rw [tv_f ho] at V;rw [prG_3 hd f1 f2 ho];exact cpa_f14 K1 hr K6 K7 hp K9 rfl K11 f1 K13 (decide_eq_false f2) V rfl
  | false=>
    have K9:=crows_g (n:=n) (L:=L) hL hP.p
    cases ht:rwsF 0 [] (pcs L) with
    | error e=>
      have hd:hdF L=.error e:=by unfold hdF;rw [if_neg (by rw [hp];simp),ht]
      rw [ht] at K9
      rw [prG_1 hd]
      exact cpa_f16 (r21:=[]) K1 hr K6 K7 hp K9 rfl
    | ok fs=>
      have hd:hdF L=.ok (2,0,fs):=by unfold hdF;rw [if_neg (by rw [hp];simp),ht]
      rw [ht] at K9
      cases f1:(fmF [48]).2 with
      | false=>rw [prG_2 hd (.inl f1)];exact cpa_f17 K1 hr K6 K7 hp K9 rfl K11 f1 W
      | true=>
        have V:=hP.v (n+9) _ _ _ hd
        by_cases ho:OkCl ⟨2,0,(fmF [48]).1.2,fs⟩ 256
        ·rw [tv_t ho] at V;rw [prG_4 hd f1 f2 ho];exact cpa_f20 K1 hr K6 K7 hp K9 rfl K11 f1 K13 (decide_eq_false f2) V rfl
        ·rw [tv_f ho] at V;rw [prG_3 hd f1 f2 ho];exact cpa_f19 K1 hr K6 K7 hp K9 rfl K11 f1 K13 (decide_eq_false f2) V rfl
theorem cparse_c(hL:L.length≤80):run (n+14) 21 [.lit (.string (bs L))]=some (prR (prF L)):=cparse_g (by omega) (by
 unfold bodyF restF
 by_cases hr:0≤lastIndex L wM
 ·rw [if_pos hr,if_pos hr];exact prOk_80 (by rw [List.length_take];omega) (by rw [List.length_drop];omega)
 ·rw [if_neg hr,if_neg hr];exact prOk_80 hL (by decide))
end
end
section
open Go.RowKit Go.Lib
attribute [local irreducible] run runL loopG exec
theorem pcs_cut:∀(k:Nat) (M:List UInt8),(∀j:Nat,j<k→M[j]?≠some 59)→M[k]?=some 59→pcs M=M.take k::pcs (M.drop (k+1))
 | k,[],_,h=>by simp at h
 | 0,c::l,_,h=>by
   have hc:c=59:=by simpa using h
   conv=>lhs;unfold pcs
   rw [if_pos hc]
   rfl
 | k+1,c::l,h0,h=>by
   have hc:c≠59:=fun e=>h0 0 (by omega) (by rw [e];rfl)
   have ih:=pcs_cut k l (fun j hj=>by have:=h0 (j+1) (by omega);simpa using this) (by simpa using h)
   conv=>lhs;unfold pcs
   rw [if_neg hc,ih]
   simp
theorem pcs_none:∀(M:List UInt8),(∀j:Nat,M[j]?≠some 59)→pcs M=[M]
 | [],_=>rfl
 | c::l,h0=>by
   have hc:c≠59:=fun e=>h0 0 (by rw [e];rfl)
   have ih:=pcs_none l (fun j=>by have:=h0 (j+1);simpa using this)
   unfold pcs
   rw [if_neg hc,ih]
section
variable {n : Nat} {B : List UInt8}
theorem floop{a0:ByteArray}{bh:Int}(hB:B.length≤80):
  (∃(z:Nat) (out:List Form),(loopG Tryz.prog (tab (n+8)) 0 111 (livesOf 23) 15 fpa2_C15 (fpa2_h15 a0 (bs B) bh 0 0 [])=some (.ret,fpa2_o15a a0 (z:Nat) bh out)∨loopG Tryz.prog (tab (n+8)) 0 111 (livesOf 23) 15 fpa2_C15 (fpa2_h15 a0 (bs B) bh 0 0 [])=some (.ret,fpa2_o15b a0 (z:Nat) bh out))∧rwsF 0 [] (pcs B)=.error z)∨
  (∃out:List Form,loopG Tryz.prog (tab (n+8)) 0 111 (livesOf 23) 15 fpa2_C15 (fpa2_h15 a0 (bs B) bh 0 0 [])=some (.exit 0,fpa2_o15c a0 bh out)∧rwsF 0 [] (pcs B)=.ok out):=by
 have hs:(bs B).size=B.length:=bs_size _
 obtain ⟨ex,t,h1,h2⟩:=loopG_Q (β:=List Form × Nat) (P:= Tryz.prog) (O:=tab (n+8)) (m:=0) (N:=111) (lives:=livesOf 23) (r:=15) (C:=fpa2_C15) (M:=B.length+1) (enc:=fun i b=>fpa2_h15 a0 (bs B) bh (b.2:Nat) i b.1)
  (fun i b=>b.1.length≤i∧(i≤B.length→b.2≤i∧(∀j,b.2≤j→j<i→B[j]?≠some 59)∧rwsF b.2 b.1 (pcs (B.drop b.2))=rwsF 0 [] (pcs B))∧(i=B.length+1→rwsF 0 [] (pcs B)=.ok b.1))
  (fun ex t=>(ex=.ret∧∃(z:Nat) (out:List Form),(t=fpa2_o15a a0 (z:Nat) bh out∨t=fpa2_o15b a0 (z:Nat) bh out)∧rwsF 0 [] (pcs B)=.error z)∨(ex=.exit 0∧∃out:List Form,t=fpa2_o15c a0 bh out∧rwsF 0 [] (pcs B)=.ok out)) ([],0) ⟨by simp,fun _=>⟨by omega,fun j h1 h2=>by omega,rfl⟩,fun h=>by omega⟩ (by omega)
  (fun i b hi hI=>by
   obtain ⟨out,fr⟩:=b
   obtain ⟨hI1,hI2,_⟩:=hI
   dsimp only at hI1 hI2 ⊢
   obtain ⟨g1,g2,g3⟩:=hI2 (by omega)
   have C1:(i:Int)≤((bs B).size:Int):=by omega
   have W:InI ((i:Int)+1):=⟨by omega,by omega⟩
   have U:0≤(fr:Int)∧(fr:Int)≤(i:Int)∧(i:Int)≤((bs B).size:Int):=⟨by omega,by omega,by omega⟩
   have D:bs ((B.drop fr).take (i-fr))=(bs B).extract (fr:Int).toNat i:=(bs_cut B fr i).symm
   have ec:((i:Int)+1)=((i+1:Nat):Int):=by omega
   have hpl:((B.drop fr).take (i-fr)).length=i-fr:=by rw [List.length_take,List.length_drop];omega
   have K:=frow_c (n:=n) (L:=(B.drop fr).take (i-fr)) (by omega) (a:=fr) (by omega)
   by_cases h:i<B.length
   ·have C2:(i:Int)<((bs B).size:Int):=by omega
    obtain ⟨b3,e3⟩:∃x,B[i]?=some x:=⟨_,List.getElem?_eq_getElem h⟩
    have E3:(bs B)[i]?=some b3:=by rw [bs_at];exact e3
    have c59:(b3.toNat:Int)=59↔b3=59:=⟨fun h=>UInt8.toNat_inj.1 (by show b3.toNat=59;omega),fun h=>by rw [h];rfl⟩
    by_cases hc:b3=59
    ·have hp:pcs (B.drop fr)=(B.drop fr).take (i-fr)::pcs (B.drop (i+1)):=by
      have h9:=pcs_cut (i-fr) (B.drop fr) (fun j hj=>by rw [List.getElem?_drop];exact g2 _ (by omega) (by omega)) (by rw [List.getElem?_drop,show fr+(i-fr)=i by omega,e3,hc])
      rw [h9,List.drop_drop,show fr+(i-fr+1)=i+1 by omega]
     rw [hp,rwsF] at g3
     cases hr:rwF ((B.drop fr).take (i-fr)) with
     | error e=>
       rw [hr] at g3 K
       exact .inr ⟨_,_,by simp,fpa2_x15_1 (r18:=([],0)) C1 C2 E3 (c59.2 hc) U D K rfl,.inl ⟨rfl,fr+e,out,.inl rfl,g3.symm⟩⟩
     | ok f=>
       rw [hr] at g3 K
       have R:=fpa2_r15_2 (n:=n) (a0:=a0) (r:=bh) (out_15:=out) C1 C2 E3 (c59.2 hc) U D K rfl (by omega) W
       rw [ec] at R
       refine .inl ⟨(out++[f],i+1),R,by rw [List.length_append,List.length_singleton];omega,fun _=>⟨by omega,fun j h1 h2=>by omega,?_⟩,fun h=>by omega⟩
       dsimp only at g3
       rw [hpl,show fr+(i-fr)+1=i+1 by omega] at g3
       exact g3
    ·exact .inl ⟨(out,fr),fpa2_r15_1 C1 C2 E3 (fun h=>hc (c59.1 h)) W,by dsimp only;omega,fun _=>⟨by dsimp only;omega,fun j h1 h2=>by
      rcases Nat.lt_succ_iff_lt_or_eq.1 h2 with h3|rfl
      ·exact g2 j h1 h3
      ·rw [e3];exact fun h=>hc (Option.some.inj h),g3⟩,fun h=>by omega⟩
   ·have hi2:i=B.length:=by omega
    have C2:¬(i:Int)<((bs B).size:Int):=by omega
    have hp:pcs (B.drop fr)=[(B.drop fr).take (i-fr)]:=by
     rw [List.take_of_length_le (by rw [List.length_drop];omega)]
     refine pcs_none _ fun j=>?_
     rw [List.getElem?_drop]
     by_cases hj:fr+j<i
     ·exact g2 _ (by omega) hj
     ·rw [List.getElem?_eq_none (by omega)];simp
    rw [hp,rwsF] at g3
    cases hr:rwF ((B.drop fr).take (i-fr)) with
    | error e=>
      rw [hr] at g3 K
      exact .inr ⟨_,_,by simp,fpa2_x15_2 (r21:=([],0)) C1 C2 U D K rfl,.inl ⟨rfl,fr+e,out,.inr rfl,g3.symm⟩⟩
    | ok f=>
      rw [hr] at g3 K
      have R:=fpa2_r15_3 (n:=n) (a0:=a0) (r:=bh) (out_15:=out) C1 C2 U D K rfl (by omega) W
      rw [ec] at R
      refine .inl ⟨(out++[f],i+1),R,by rw [List.length_append,List.length_singleton];omega,fun h=>by omega,fun _=>?_⟩
      dsimp only at g3
      rw [rwsF] at g3
      exact g3.symm)
  (fun b hI=>by
   obtain ⟨out,fr⟩:=b
   exact ⟨_,_,by simp,fpa2_x15_3 (by omega),.inr ⟨rfl,out,rfl,hI.2.2 rfl⟩⟩)
 rcases h2 with ⟨rfl,z,out,rfl|rfl,h3⟩|⟨rfl,out,rfl,h3⟩
 ·exact .inl ⟨z,out,.inl h1,h3⟩
 ·exact .inl ⟨z,out,.inr h1,h3⟩
 ·exact .inr ⟨out,h1,h3⟩
end
end
section
open Go.RowKit Go.Lib
attribute [local irreducible] run runL loopG exec
theorem fm48:fmF [48]=(([],0),true):=by decide+kernel
theorem claim0(k t:Int)(fs:List Form):claimV ⟨k,t,0,fs⟩=.agg [.lit (.int .i64 k),.lit (.int .i64 t),.lit (.bool false),.sl 1 [],.sl 1 [],.sl 4 (fs.map formC)]:=by simp
section
variable {n : Nat} {L : List UInt8}
theorem head_top{B:List UInt8}(hp:hasPrefix (trL B) topW=true):trB B=topW++trR ((trL B).drop 3):=(top_cut hp).2
theorem fparse_c(hL:L.length≤80):run (n+8) 23 [.lit (.string (bs L))]=some (prR (prF L)):=by
 have K1:=last_c (L:=L) (by omega)
 unfold prF
 by_cases hr:0≤lastIndex L wM
 ·rw [if_pos hr]
  have room:=last_room hr
  have hs:(bs L).size=L.length:=bs_size _
  have U3:0≤0∧0≤lastIndex L wM∧lastIndex L wM≤((bs L).size:Int):=⟨by omega,by omega,by omega⟩
  have D3:bs (L.take (lastIndex L wM).toNat)=(bs L).extract 0 (lastIndex L wM).toNat:=(bs_to L _).symm
  have W4:InI (lastIndex L wM+6):=⟨by omega,by omega⟩
  have C11:0≤lastIndex L wM+6:=by omega
  have U5:0≤lastIndex L wM+6∧lastIndex L wM+6≤((bs L).size:Int)∧((bs L).size:Int)≤((bs L).size:Int):=⟨by omega,by omega,by omega⟩
  have e6:(lastIndex L wM+6).toNat=(lastIndex L wM).toNat+6:=by omega
  have D5:bs (L.drop ((lastIndex L wM).toNat+6))=(bs L).extract (lastIndex L wM+6).toNat (bs L).size:=by rw [e6];exact (bs_from L _).symm
  have hB:(L.take (lastIndex L wM).toNat).length≤80:=by rw [List.length_take];omega
  have hR:(L.drop ((lastIndex L wM).toNat+6)).length≤80:=by rw [List.length_drop];omega
  generalize L.take (lastIndex L wM).toNat=B at D3 hB ⊢
  generalize L.drop ((lastIndex L wM).toNat+6)=R at D5 hR ⊢
  have K5:=ftrim_c (n:=n+7) (L:=B) (by omega)
  have K6:oHasPrefix [.lit (.string (bs (trB B))),.lit (.string (⟨#[116,111,112]⟩:ByteArray))]=some (.lit (.bool (hasPrefix (trL B) topW))):=by
   rw [←top_pre (trL B)]
   exact pre_c (L:=trB B) (t:=topW)
  have K11:=fform_c (n:=n+1) (L:=R) (by omega)
  have K13:=contains_c (c:=121) (L:=R) (by omega)
  cases hp:hasPrefix (trL B) topW with
  | true=>
    have hX:((trL B).drop 3).length≤900:=by have:=trL_len B;rw [List.length_drop];omega
    have K9:=ftarget_c (n:=n+6) (X:=(trL B).drop 3) hX
    have hb:=head_top hp
    have hs2:(bs (trB B)).size=3+(trR ((trL B).drop 3)).length:=by rw [bs_size,hb,List.length_append];rfl
    have U8:0≤3∧3≤((bs (trB B)).size:Int)∧((bs (trB B)).size:Int)≤((bs (trB B)).size:Int):=⟨by omega,by omega,by omega⟩
    have D8:bs (trR ((trL B).drop 3))=(bs (trB B)).extract 3 (bs (trB B)).size:=by rw [bs_from,hb];rfl
    cases ht:tgP ((trL B).drop 3) with
    | none=>
      have hd:hdF B=.error 0:=by unfold hdF;rw [if_pos hp,ht]
      rw [ht] at K9
      rw [prG_1 hd]
      exact fpa2_f1 K1 hr U3 D3 W4 K5 K6 hp U8 D8 K9 rfl
    | some v=>
      have hd:hdF B=.ok (1,(v:Int),[]):=by unfold hdF;rw [if_pos hp,ht]
      rw [ht] at K9
      cases f1:(fmF R).2 with
      | false=>rw [prG_2 hd (.inl f1)];exact fpa2_f2 K1 hr U3 D3 W4 K5 K6 hp U8 D8 K9 rfl C11 U5 D5 K11 f1
      | true=>
        by_cases f2:(121:UInt8)∈R
        ·rw [prG_2 hd (.inr f2)];exact fpa2_f3 K1 hr U3 D3 W4 K5 K6 hp U8 D8 K9 rfl C11 U5 D5 K11 f1 U5 D5 K13 (decide_eq_true f2)
        ·have V:=(hd_valid (n:=n+5) hB hR hd).2
         by_cases ho:OkCl ⟨1,(v:Int),(fmF R).1.2,[]⟩ 256
         ·rw [tv_t ho] at V;rw [prG_4 hd f1 f2 ho];exact fpa2_f5 K1 hr U3 D3 W4 K5 K6 hp U8 D8 K9 rfl C11 U5 D5 K11 f1 U5 D5 K13 (decide_eq_false f2) V rfl
         ·rw [tv_f ho] at V;rw [prG_3 hd f1 f2 ho];exact fpa2_f4 K1 hr U3 D3 W4 K5 K6 hp U8 D8 K9 rfl C11 U5 D5 K11 f1 U5 D5 K13 (decide_eq_false f2) V rfl
  | false=>
    rcases floop (n:=n) (B:=B) (a0:=bs L) (bh:=lastIndex L wM+6) hB with ⟨z,out,h1,h2⟩|⟨out,h1,h2⟩
    ·have hd:hdF B=.error z:=by unfold hdF;rw [if_neg (by rw [hp];simp),h2]
     rw [prG_1 hd]
     rcases h1 with h1|h1
     ·exact fpa2_f8 K1 hr U3 D3 W4 K5 K6 hp h1
     ·exact fpa2_f9 K1 hr U3 D3 W4 K5 K6 hp h1
    ·have hd:hdF B=.ok (2,0,out):=by unfold hdF;rw [if_neg (by rw [hp];simp),h2]
     cases f1:(fmF R).2 with
     | false=>rw [prG_2 hd (.inl f1)];exact fpa2_f10 K1 hr U3 D3 W4 K5 K6 hp h1 C11 U5 D5 K11 f1
     | true=>
       by_cases f2:(121:UInt8)∈R
       ·rw [prG_2 hd (.inr f2)];exact fpa2_f11 K1 hr U3 D3 W4 K5 K6 hp h1 C11 U5 D5 K11 f1 U5 D5 K13 (decide_eq_true f2)
       ·have V:=(hd_valid (n:=n+5) hB hR hd).2
        by_cases ho:OkCl ⟨2,0,(fmF R).1.2,out⟩ 256
        ·rw [tv_t ho] at V;rw [prG_4 hd f1 f2 ho];exact fpa2_f13 K1 hr U3 D3 W4 K5 K6 hp h1 C11 U5 D5 K11 f1 U5 D5 K13 (decide_eq_false f2) V rfl
        ·rw [tv_f ho] at V;rw [prG_3 hd f1 f2 ho];exact fpa2_f12 K1 hr U3 D3 W4 K5 K6 hp h1 C11 U5 D5 K11 f1 U5 D5 K13 (decide_eq_false f2) V rfl
 ·rw [if_neg hr]
  have K5:=ftrim_c (n:=n+7) (L:=L) (by omega)
  have K6:oHasPrefix [.lit (.string (bs (trB L))),.lit (.string (⟨#[116,111,112]⟩:ByteArray))]=some (.lit (.bool (hasPrefix (trL L) topW))):=by
   rw [←top_pre (trL L)]
   exact pre_c (L:=trB L) (t:=topW)
  have hR:([48]:List UInt8).length≤80:=by decide
  have f1:(fmF [48]).2=true:=by rw [fm48]
  have f2:¬(121:UInt8)∈([48]:List UInt8):=by decide
  have m0:(fmF [48]).1.2=0:=by rw [fm48]
  cases hp:hasPrefix (trL L) topW with
  | true=>
    have hX:((trL L).drop 3).length≤900:=by have:=trL_len L;rw [List.length_drop];omega
    have K9:=ftarget_c (n:=n+6) (X:=(trL L).drop 3) hX
    have hb:=head_top hp
    have hs2:(bs (trB L)).size=3+(trR ((trL L).drop 3)).length:=by rw [bs_size,hb,List.length_append];rfl
    have U8:0≤3∧3≤((bs (trB L)).size:Int)∧((bs (trB L)).size:Int)≤((bs (trB L)).size:Int):=⟨by omega,by omega,by omega⟩
    have D8:bs (trR ((trL L).drop 3))=(bs (trB L)).extract 3 (bs (trB L)).size:=by rw [bs_from,hb];rfl
    cases ht:tgP ((trL L).drop 3) with
    | none=>
      have hd:hdF L=.error 0:=by unfold hdF;rw [if_pos hp,ht]
      rw [ht] at K9
      rw [prG_1 hd]
      exact fpa2_f16 K1 hr K5 K6 hp U8 D8 K9 rfl
    | some v=>
      have hd:hdF L=.ok (1,(v:Int),[]):=by unfold hdF;rw [if_pos hp,ht]
      rw [ht] at K9
      have V:=(hd_valid (n:=n+5) hL hR hd).2
      rw [m0] at V
      by_cases ho:OkCl ⟨1,(v:Int),(fmF [48]).1.2,[]⟩ 256
      ·have G:=prG_4 (r:=lastIndex L wM) hd f1 f2 ho
       rw [m0] at G ho
       rw [tv_t ho,claim0] at V
       rw [G]
       show _=some (AV.tup [claimV ⟨1,(v:Int),0,[]⟩,_,_])
       rw [claim0]
       exact fpa2_f18 K1 hr K5 K6 hp U8 D8 K9 rfl V rfl
      ·have G:=prG_3 (r:=lastIndex L wM) hd f1 f2 ho
       rw [m0] at ho
       rw [tv_f ho,claim0] at V
       rw [G]
       exact fpa2_f17 K1 hr K5 K6 hp U8 D8 K9 rfl V rfl
  | false=>
    rcases floop (n:=n) (B:=L) (a0:=bs L) (bh:=lastIndex L wM) hL with ⟨z,out,h1,h2⟩|⟨out,h1,h2⟩
    ·have hd:hdF L=.error z:=by unfold hdF;rw [if_neg (by rw [hp];simp),h2]
     rw [prG_1 hd]
     rcases h1 with h1|h1
     ·exact fpa2_f19 K1 hr K5 K6 hp h1
     ·exact fpa2_f20 K1 hr K5 K6 hp h1
    ·have hd:hdF L=.ok (2,0,out):=by unfold hdF;rw [if_neg (by rw [hp];simp),h2]
     have V:=(hd_valid (n:=n+5) hL hR hd).2
     rw [m0] at V
     by_cases ho:OkCl ⟨2,0,(fmF [48]).1.2,out⟩ 256
     ·have G:=prG_4 (r:=lastIndex L wM) hd f1 f2 ho
      rw [m0] at G ho
      rw [tv_t ho,claim0] at V
      rw [G]
      show _=some (AV.tup [claimV ⟨2,0,0,out⟩,_,_])
      rw [claim0]
      exact fpa2_f26 K1 hr K5 K6 hp h1 hr V rfl
     ·have G:=prG_3 (r:=lastIndex L wM) hd f1 f2 ho
      rw [m0] at ho
      rw [tv_f ho,claim0] at V
      rw [G]
      exact fpa2_f25 K1 hr K5 K6 hp h1 hr V rfl
end
end
section
open Go.RowKit
theorem fsm_f1{n:Nat}{a0:TClaim}{a1:TClaim}{r:Bool}(C1:a0.Kind=a1.Kind)(C2:a0.Target=a1.Target)(B3a:H a0.Margin≤17179869184)(B3b:H a1.Margin≤17179869184)(C4:a0.Margin=a1.Margin)(K5:run (n+1) 63 [.sl 4 (a0.Rows.map formC),.sl 4 (a1.Rows.map formC)]=some (.lit (.bool r))):
  run (n+2) 22 [claimV a0,claimV a1]=some (.lit (.bool r)):=by
 have C1_:(a0.Kind==a1.Kind)=true:=by rw [C1];simp
 have C1_n:(a0.Kind !=a1.Kind)=false:=by rw [C1];simp
 have C2_:(a0.Target==a1.Target)=true:=by rw [C2];simp
 have C2_n:(a0.Target !=a1.Target)=false:=by rw [C2];simp
 have K3:=r_same (p:=a0.Margin) (q:=a1.Margin) B3a B3b
 have C4_:decide (a0.Margin=a1.Margin)=true:=decide_eq_true C4
 unfold run fnP
 simp+decide [Tryz.f22,C1_,C1_n,C2_,C2_n,K3,C4_,K5]
end
section
open Go.RowKit
theorem awake20_c:run 24 15 []=some (.lit (.bool true)):=by kernel_rfl
end
section
open Go.RowKit
def awG(args:List AV):Option AV:=match args with|[]=>some (.lit (.bool true))|_=>none
theorem con_awake:∀args r,awG args=some r→Con Tryz.prog 15 args r:=fun args r hr=>by
 unfold awG at hr
 split at hr
 ·cases hr
  exact ((tab_ok 25).pure _ _ (tb_15 24)).2 _ _ awake20_c
 ·cases hr
end
section
open Go.RowKit
noncomputable def cplT(n:Nat):FuncId→Option Orc:=ext (tab (n+16)) 15 (.pure awG)
theorem cplT_ok(n:Nat):OrcOk Tryz.prog (cplT n):=(tab_ok (n+16)).extP (by kernel_rfl) con_awake
noncomputable def cpl(n:Nat)(args:List AV):Option AV:=fnP Tryz.prog (cplT n) (livesOf 6) big (fnOf 6) args
theorem cpl_con{n:Nat}{args:List AV}{r:AV}(h:cpl n args=some r):Con Tryz.prog 6 args r:=
 con_of (cplT_ok n) mixed (plain_fn (by kernel_rfl)) (body_some (by kernel_rfl) (plain_fn (by kernel_rfl))) h
theorem cpl_aw(n:Nat):cplT n 15=some (.pure awG):=by unfold cplT ext;rw [if_pos rfl]
theorem cpl_l54(n:Nat):cplT n 21=some (.pure (run (n+15) 21)):=by unfold cplT ext;rw [if_neg (by decide)];exact tb_21 _
theorem cpl_l55(n:Nat):cplT n 22=some (.pure (run (n+15) 22)):=by unfold cplT ext;rw [if_neg (by decide)];exact tb_22 _
theorem cpl_l56(n:Nat):cplT n 23=some (.pure (run (n+15) 23)):=by unfold cplT ext;rw [if_neg (by decide)];exact tb_23 _
section
variable {a0 : ByteArray} {n : Nat} {r3 : Int} {r : TClaim} {r5 : Int} {r2 : Int} {r4 : TClaim} {r6 : Int} {r7 : Bool}
theorem cpl_f1(C1:80<(a0.size:Int)):
  cpl n [.lit (.string a0)]=some (.lit (.bool true)):=by
 have C1_:80<a0.size:=by omega
 unfold cpl fnP
 simp+decide [Tryz.f6,C1,C1_,cpl_aw,awG,cpl_l54,cpl_l55,cpl_l56]
theorem cpl_f2(C1:¬80<(a0.size:Int))(K2:run (n+15) 21 [.lit (.string a0)]=some (.tup [claimV r,.lit (.int .i64 r2),.lit (.int .i64 r3)]))(K3:run (n+15) 23 [.lit (.string a0)]=some (.tup [claimV r4,.lit (.int .i64 r5),.lit (.int .i64 r6)]))(C4:r2=r5)(C5:r3=r6)(K6:run (n+15) 22 [claimV r,claimV r4]=some (.lit (.bool r7))):
  cpl n [.lit (.string a0)]=some (.lit (.bool r7)):=by
 have C1_:¬80<a0.size:=by omega
 simp only [claimV] at K2
 simp only [claimV] at K3
 have C4_:(r2==r5)=true:=by rw [C4];simp
 have C4_n:(r2 !=r5)=false:=by rw [C4];simp
 have C5_:(r3==r6)=true:=by rw [C5];simp
 have C5_n:(r3 !=r6)=false:=by rw [C5];simp
 simp only [claimV] at K6
 unfold cpl fnP
 simp+decide [Tryz.f6,C1,C1_,K2,K3,C4_,C4_n,C5_,C5_n,K6,cpl_aw,awG,cpl_l54,cpl_l55,cpl_l56]
end
end
section
open Go.RowKit
end
section
open Go.RowKit
attribute [local irreducible] run runL loopG exec
theorem fea_sm{n:Nat}{L:List Form}(hl:L.length≤100000000)(hB:∀f∈L,BdF 17179869184 f):run (n+1) 63 [.sl 4 (L.map formC),.sl 4 (L.map formC)]=some (.lit (.bool true)):=by
 refine fea_f3 rfl (loopG_I (O:=tab (n+1)) (P:= Tryz.prog) (m:=0) (N:=27) (lives:=livesOf 63) (r:=4) (C:=fea_C4) (L:=L) (f:=fun _ (b:Unit) _=>b) (enc:=fun i _=>fea_h4 L L i) (exN:=.exit 0) (out:=fun _=>fea_o4b) (Inv:=fun _ _=>True) () trivial (by omega) (by simp)
  (fun i f b hi hI=>by
   have hlt:=(List.getElem?_eq_some_iff.1 hi).1
   have hf:=hB f (List.mem_of_getElem? hi)
   have K:=feq_c (n:=n) hf hf
   rw [tv_t rfl] at K
   exact ⟨fea_r4_1 (by omega) hi hi K rfl ⟨by omega,by omega⟩,trivial⟩)
  (fun b hI=>fea_x4_2 (by omega))).1
end
section
open Go.RowKit Go.Lib
attribute [local irreducible] run runL loopG exec cpl
theorem prG_bd{r:Int}{B R:List UInt8}(hB:B.length≤80)(hR:R.length≤80){c:TClaim}(h:prG r B R=.ok c):H c.Margin≤8300∧c.Rows.length≤256∧∀f∈c.Rows,SB 700000 200 f:=by
 cases hd:hdF B with
 | error e=>rw [prG_1 hd] at h;cases h
 | ok p=>
   obtain ⟨k,t,fs⟩:=p
   by_cases f:(fmF R).2=false∨(121:UInt8)∈R
   ·rw [prG_2 hd f] at h;cases h
   have f1:(fmF R).2=true:=by
    cases h9:(fmF R).2 with
    | true=>rfl
    | false=>exact absurd (.inl h9) f
   have f2:¬(121:UInt8)∈R:=fun h9=>f (.inr h9)
   by_cases ho:OkCl ⟨k,t,(fmF R).1.2,fs⟩ 256
   ·rw [prG_4 hd f1 f2 ho] at h
    cases h
    refine ⟨(fm_sb hR).k,?_,hd_sb (prOk_80 hB hR).p hd⟩
    rcases ho.k with h9|h9
    ·rw [h9.2.2.2];simp
    ·exact h9.2.2.2.1
   ·rw [prG_3 hd f1 f2 ho] at h;cases h
theorem prF_bd{L:List UInt8}(hL:L.length≤80){c:TClaim}(h:prF L=.ok c):H c.Margin≤8300∧c.Rows.length≤256∧∀f∈c.Rows,SB 700000 200 f:=by
 unfold prF at h
 split at h
 ·exact prG_bd (by rw [List.length_take];omega) (by rw [List.length_drop];omega) h
 ·exact prG_bd hL (by decide) h
theorem same20_c{c:TClaim}(h:H c.Margin≤17179869184∧c.Rows.length≤256∧∀f∈c.Rows,BdF 17179869184 f):run 15 22 [claimV c,claimV c]=some (.lit (.bool true)):=
 fsm_f1 (n:=13) rfl rfl h.1 h.1 rfl (fea_sm (n:=13) (by omega) h.2.2)
theorem cp_law(L:List UInt8):Con Tryz.prog 6 [.lit (.string (bs L))] (.lit (.bool true)):=by
 by_cases h:80<L.length
 ·exact cpl_con (n:=0) (cpl_f1 (by rw [bs_size];omega))
 have h':¬80<((bs L).size:Int):=by rw [bs_size];omega
 have K2:=cparse_c (n:=1) (L:=L) (by omega)
 have K3:=fparse_c (n:=7) (L:=L) (by omega)
 cases hp:prF L with
 | ok c=>
   rw [hp] at K2 K3
   obtain ⟨b1,b2,b3⟩:=prF_bd (by omega) hp
   exact cpl_con (n:=0) (cpl_f2 h' K2 K3 rfl rfl (same20_c ⟨by omega,b2,fun f hf=>(b3 f hf).bd (by omega) (by omega)⟩))
 | error p=>
   obtain ⟨a,e⟩:=p
   rw [hp] at K2 K3
   have e0:prR (.error (a,e))=.tup [claimV ⟨0,0,0,[]⟩,.lit (.int .i64 a),.lit (.int .i64 e)]:=by rw [claim0];rfl
   rw [e0] at K2 K3
   exact cpl_con (n:=0) (cpl_f2 h' K2 K3 rfl rfl (same20_c ⟨by show H 0≤_;have:H 0≤1:=by decide
                                                               omega,by simp,fun f hf=>(by cases hf)⟩))
end
end Go.Proofs.YtnegdhjdienjlaaGreatDoor
