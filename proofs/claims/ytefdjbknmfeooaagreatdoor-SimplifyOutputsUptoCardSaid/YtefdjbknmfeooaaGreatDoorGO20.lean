import Derived.Test.YtefdjbknmfeooaaGreatDoorGO16
import Derived.Test.YtefdjbknmfeooaaGreatDoorGO19
import Derived.Lib.ItoaNum
import Derived.Lib.Repeat
import Derived.Lib.Join
import Derived.Test.YtefdjbknmfeooaaGreatDoorGO17
set_option linter.all false
set_option maxHeartbeats 6400000
set_option maxRecDepth 100000
namespace Go.Proofs.YtefdjbknmfeooaaGreatDoor
open Go.RowKit
noncomputable def rNe_C3:Code:=(loopsOf (bodyOf Tryz.f25)).getD 0 .skip
noncomputable def rNe_C7:Code:=(loopsOf rNe_C3).getD 0 .skip
noncomputable def rNe_C11:Code:=(loopsOf rNe_C3).getD 1 .skip
def rNe_h7(a0:TGraph)(out_7:List Bool)(i_3:Int)(i_7:Nat):St:=
 ⟨[(1,.ptr 0 0),(3,.own 1 out_7.length),(4,.lit (.int .i64 i_3)),(5,.lit (.int .i64 (a0.Inputs+i_3))),(6,.lit (.int .i64 (i_7:Int)))],
  [(0,some (.box 24 [.lit (.int .i64 (a0.Inputs)),.sl 4 (a0.Units.map formC),.sl 4 (a0.Outputs.map formC)] false)),
   (1,some (.row 4 1 (out_7.map boolC) 0))],2⟩
def rNe_h11(a0:TGraph)(out_11:List Bool)(i_3:Int)(i_11:Int):St:=
 ⟨[(1,.ptr 0 0),(3,.own 1 out_11.length),(4,.lit (.int .i64 i_3)),(5,.lit (.int .i64 (a0.Inputs+i_3))),(7,.lit (.int .i64 i_11))],
  [(0,some (.box 24 [.lit (.int .i64 (a0.Inputs)),.sl 4 (a0.Units.map formC),.sl 4 (a0.Outputs.map formC)] false)),
   (1,some (.row 4 1 (out_11.map boolC) 0))],2⟩
def rNe_h3(a0:TGraph)(out_3:List Bool)(i_3:Int):St:=
 ⟨[(1,.ptr 0 0),(3,.own 1 out_3.length),(4,.lit (.int .i64 i_3))],
  [(0,some (.box 24 [.lit (.int .i64 (a0.Inputs)),.sl 4 (a0.Units.map formC),.sl 4 (a0.Outputs.map formC)] false)),
   (1,some (.row 4 1 (out_3.map boolC) 0))],2⟩
def rNe_o7a(a0:TGraph)(out_7:List Bool)(i_3:Int):St:=
 ⟨[(1,.ptr 0 0),(3,.own 1 out_7.length),(4,.lit (.int .i64 i_3)),(5,.lit (.int .i64 (a0.Inputs+i_3)))],
  [(0,some (.box 24 [.lit (.int .i64 (a0.Inputs)),.sl 4 (a0.Units.map formC),.sl 4 (a0.Outputs.map formC)] false)),
   (1,some (.row 4 1 (out_7.map boolC) 0))],2⟩
def rNe_o11a(a0:TGraph)(out_11:List Bool)(i_3:Int):St:=
 ⟨[(1,.ptr 0 0),(3,.own 1 out_11.length),(4,.lit (.int .i64 i_3))],
  [(0,some (.box 24 [.lit (.int .i64 (a0.Inputs)),.sl 4 (a0.Units.map formC),.sl 4 (a0.Outputs.map formC)] false)),
   (1,some (.row 4 1 (out_11.map boolC) 0))],2⟩
def rNe_o3a(out_3:List Bool):St:=
 ⟨[(3,.own 0 out_3.length)],
  [(0,some (.row 4 1 (out_3.map boolC) 0))],1⟩
section
variable{n:Nat}{i_7:Nat}{i_3:Int}{x15:Bool}{a0:TGraph}{out_7:List Bool}{q12:Rat}{F12:List (Int × Rat)}{r12:Bool}{x20:Bool}{out_11:List Bool}{i_11:Int}{x21:Bool}{q15:Rat}{F15:List (Int × Rat)}{r15:Bool}{out_3:List Bool}
section
variable(C1:(i_7:Int)<(a0.Outputs.length:Int))(G2:i_3.toNat<out_7.length)(Z2:0≤i_3)(E3:out_7[i_3.toNat]?=some x15)(Z3:0≤i_3)
include C1 G2 Z2 E3 Z3
theorem rNe_r7_1(C4:x15=true)(W7:InI ((i_7:Int)+1)):
  Cont 0 (exec Tryz.prog (tab (n+1)) 0 79 (livesOf 25) big rNe_C7) (livesOf 25 7) (rNe_h7 a0 out_7 i_3 i_7) (rNe_h7 a0 (out_7.set i_3.toNat true) i_3 (i_7+1)):=by
 have C1_:i_7<a0.Outputs.length:=by omega
 obtain ⟨EL3,EG3⟩:=List.getElem?_eq_some_iff.1 E3
 have W7_:IntKind.i64.wrap ((i_7:Int)+1)=(i_7:Int)+1:=wr64 W7.1 W7.2
 apply Cont_m
 simp+decide [rNe_h7,loopsOf, Tryz.f25,rNe_C3,rNe_C7,C1,C1_,G2,Z2,EL3,EG3,E3,Z3,C4,W7_]
theorem rNe_r7_2(C4:x15=false)(E5:a0.Outputs[i_7]?=some (F12,q12))(K6:run n 48 [formV (F12,q12),.lit (.int .i64 (a0.Inputs+i_3))]=some (.lit (.bool r12)))(W9:InI ((i_7:Int)+1)):
  Cont 0 (exec Tryz.prog (tab (n+1)) 0 79 (livesOf 25) big rNe_C7) (livesOf 25 7) (rNe_h7 a0 out_7 i_3 i_7) (rNe_h7 a0 (out_7.set i_3.toNat r12) i_3 (i_7+1)):=by
 have C1_:i_7<a0.Outputs.length:=by omega
 obtain ⟨EL3,EG3⟩:=List.getElem?_eq_some_iff.1 E3
 obtain ⟨EL5,EG5⟩:=List.getElem?_eq_some_iff.1 E5
 simp only [formV] at K6
 have W9_:IntKind.i64.wrap ((i_7:Int)+1)=(i_7:Int)+1:=wr64 W9.1 W9.2
 apply Cont_m
 simp+decide [rNe_h7,loopsOf, Tryz.f25,rNe_C3,rNe_C7,C1,C1_,G2,Z2,EL3,EG3,E3,Z3,C4,EL5,EG5,E5,K6,W9_]
end
theorem rNe_x7_1(C1:¬(i_7:Int)<(a0.Outputs.length:Int)):
  Leave 0 (exec Tryz.prog (tab (n+1)) 0 79 (livesOf 25) big rNe_C7) (livesOf 25 (outOf 7)) (rNe_h7 a0 out_7 i_3 i_7) (.exit 2) (rNe_o7a a0 out_7 i_3):=by
 have C1_:¬i_7<a0.Outputs.length:=by omega
 apply Leave_m
 simp+decide [rNe_h7,loopsOf, Tryz.f25,rNe_o7a,rNe_C3,rNe_C7,C1,C1_]
section
variable(C1:i_11<(a0.Units.length:Int))(G2:i_3.toNat<out_11.length)(Z2:0≤i_3)(E3:out_11[i_3.toNat]?=some x20)(Z3:0≤i_3)
include C1 G2 Z2 E3 Z3
theorem rNe_r11_1(C4:x20=true)(W7:InI (i_11+1)):
  Cont 0 (exec Tryz.prog (tab (n+1)) 0 79 (livesOf 25) big rNe_C11) (livesOf 25 11) (rNe_h11 a0 out_11 i_3 i_11) (rNe_h11 a0 (out_11.set i_3.toNat true) i_3 (i_11+1)):=by
 obtain ⟨EL3,EG3⟩:=List.getElem?_eq_some_iff.1 E3
 have W7_:IntKind.i64.wrap (i_11+1)=i_11+1:=wr64 W7.1 W7.2
 apply Cont_m
 simp+decide [rNe_h11,loopsOf, Tryz.f25,rNe_C3,rNe_C11,C1,G2,Z2,EL3,EG3,E3,Z3,C4,W7_]
section
variable(C4:x20=false)(G5:i_11.toNat<out_11.length)(Z5:0≤i_11)(E6:out_11[i_11.toNat]?=some x21)(Z6:0≤i_11)
include C4 G5 Z5 E6 Z6
theorem rNe_r11_2(C7:x21=true)(E8:a0.Units[i_11.toNat]?=some (F15,q15))(Z8:0≤i_11)(K9:run n 48 [formV (F15,q15),.lit (.int .i64 (a0.Inputs+i_3))]=some (.lit (.bool r15)))(W12:InI (i_11+1)):
  Cont 0 (exec Tryz.prog (tab (n+1)) 0 79 (livesOf 25) big rNe_C11) (livesOf 25 11) (rNe_h11 a0 out_11 i_3 i_11) (rNe_h11 a0 (out_11.set i_3.toNat r15) i_3 (i_11+1)):=by
 obtain ⟨EL3,EG3⟩:=List.getElem?_eq_some_iff.1 E3
 obtain ⟨EL6,EG6⟩:=List.getElem?_eq_some_iff.1 E6
 obtain ⟨EL8,EG8⟩:=List.getElem?_eq_some_iff.1 E8
 simp only [formV] at K9
 have W12_:IntKind.i64.wrap (i_11+1)=i_11+1:=wr64 W12.1 W12.2
 apply Cont_m
 simp+decide [rNe_h11,loopsOf, Tryz.f25,rNe_C3,rNe_C11,C1,G2,Z2,EL3,EG3,E3,Z3,C4,G5,Z5,EL6,EG6,E6,Z6,C7,EL8,EG8,E8,Z8,K9,W12_]
theorem rNe_r11_3(C7:x21=false)(W10:InI (i_11+1)):
  Cont 0 (exec Tryz.prog (tab (n+1)) 0 79 (livesOf 25) big rNe_C11) (livesOf 25 11) (rNe_h11 a0 out_11 i_3 i_11) (rNe_h11 a0 (out_11.set i_3.toNat false) i_3 (i_11+1)):=by
 obtain ⟨EL3,EG3⟩:=List.getElem?_eq_some_iff.1 E3
 obtain ⟨EL6,EG6⟩:=List.getElem?_eq_some_iff.1 E6
 have W10_:IntKind.i64.wrap (i_11+1)=i_11+1:=wr64 W10.1 W10.2
 apply Cont_m
 simp+decide [rNe_h11,loopsOf, Tryz.f25,rNe_C3,rNe_C11,C1,G2,Z2,EL3,EG3,E3,Z3,C4,G5,Z5,EL6,EG6,E6,Z6,C7,W10_]
end
end
theorem rNe_x11_1(C1:¬i_11<(a0.Units.length:Int)):
  Leave 0 (exec Tryz.prog (tab (n+1)) 0 79 (livesOf 25) big rNe_C11) (livesOf 25 (outOf 11)) (rNe_h11 a0 out_11 i_3 i_11) (.exit 4) (rNe_o11a a0 out_11 i_3):=by
 apply Leave_m
 simp+decide [rNe_h11,loopsOf, Tryz.f25,rNe_o11a,rNe_C3,rNe_C11,C1]
theorem rNe_r3_1(C1:0≤i_3)(W2:InI (a0.Inputs+i_3))(L3:loopG Tryz.prog (tab (n+1)) 0 79 (livesOf 25) 7 rNe_C7 (rNe_h7 a0 out_3 i_3 0)=some (.exit 2,rNe_o7a a0 out_7 i_3))(W4:InI (i_3+1))(L5:loopG Tryz.prog (tab (n+1)) 0 79 (livesOf 25) 11 rNe_C11 (rNe_h11 a0 out_7 i_3 (i_3+1))=some (.exit 4,rNe_o11a a0 out_11 i_3))(W6:InI (i_3-1)):
  Cont 0 (exec Tryz.prog (tab (n+1)) 0 79 (livesOf 25) big rNe_C3) (livesOf 25 3) (rNe_h3 a0 out_3 i_3) (rNe_h3 a0 out_11 (i_3-1)):=by
 have W2_:IntKind.i64.wrap (a0.Inputs+i_3)=a0.Inputs+i_3:=wr64 W2.1 W2.2
 have W4_:IntKind.i64.wrap (i_3+1)=i_3+1:=wr64 W4.1 W4.2
 have W6_:IntKind.i64.wrap (i_3-1)=i_3-1:=wr64 W6.1 W6.2
 apply Cont_m
 simp+decide [rNe_h3,loopsOf, Tryz.f25,rNe_C3,C1,W2_,W4_,W6_]
 rw [loopX_G (C':=rNe_C7) (e:=(rNe_h7 a0 out_3 i_3 0)) ?_ ?_,L3]
 rotate_left
 ·kernel_rfl
 ·simp+decide [rNe_h7,loopsOf, Tryz.f25,rNe_C3,C1,W2_,W4_,W6_]
 simp+decide [rNe_o7a,loopsOf, Tryz.f25,rNe_C3,C1,W2_,W4_,W6_]
 rw [loopX_G (C':=rNe_C11) (e:=(rNe_h11 a0 out_7 i_3 (i_3+1))) ?_ ?_,L5]
 rotate_left
 ·kernel_rfl
 ·simp+decide [rNe_h11,loopsOf, Tryz.f25,rNe_C3,C1,W2_,W4_,W6_]
 simp+decide [rNe_o11a,loopsOf, Tryz.f25,rNe_C3,C1,W2_,W4_,W6_]
theorem rNe_x3_1(C1:¬0≤i_3):
  Leave 0 (exec Tryz.prog (tab (n+1)) 0 79 (livesOf 25) big rNe_C3) (livesOf 25 (outOf 3)) (rNe_h3 a0 out_3 i_3) (.exit 0) (rNe_o3a out_3):=by
 apply Leave_m
 simp+decide [rNe_h3,loopsOf, Tryz.f25,rNe_o3a,rNe_C3,C1]
theorem rNe_f1(M1:a0.Units.length≤100000000)(W2:InI ((a0.Units.length:Int)-1))(L3:loopG Tryz.prog (tab (n+1)) 0 79 (livesOf 25) 3 rNe_C3 (rNe_h3 a0 (List.replicate a0.Units.length false) ((a0.Units.length:Int)-1))=some (.exit 0,rNe_o3a out_3)):
  run (n+1) 25 [graphV a0]=some (.sl 1 (out_3.map boolC)):=by
 have M1_:∀b,b≤10000→roomy (a0.Units.length) b=true:=fun b hb=>roomy_s M1 hb
 have W2_:IntKind.i64.wrap ((a0.Units.length:Int)-1)=(a0.Units.length:Int)-1:=wr64 W2.1 W2.2
 unfold run fnP
 simp+decide [Tryz.f25,M1_,W2_]
 rw [loopX_G (C':=rNe_C3) (e:=(rNe_h3 a0 (List.replicate a0.Units.length false) ((a0.Units.length:Int)-1))) ?_ ?_,L3]
 rotate_left
 ·kernel_rfl
 ·simp+decide [rNe_h3,M1_,W2_]
 simp+decide [rNe_o3a,M1_,W2_]
end
noncomputable def rDe_C4:Code:=(loopsOf (bodyOf Tryz.f20)).getD 0 .skip
def rDe_h4(i_4:Int)(i2_4:Int)(l_4:List Form)(l2_4:List Form):St:=
 ⟨[(1,.ptr 0 0),(2,.ptr 1 0),(3,.lit (.int .i64 i_4))],
  [(0,some (.box 24 [.lit (.int .i64 i2_4),.sl 4 (l_4.map formC),.sl 4 (l2_4.map formC)] false)),
   (1,some (.box 24 [.lit (.int .i64 0),.nl 4,.nl 4] false))],2⟩
def rDe_o4a(i2_4:Int)(l_4:List Form)(l2_4:List Form):St:=
 ⟨[(1,.ptr 0 0),(2,.ptr 1 0)],
  [(0,some (.box 24 [.lit (.int .i64 i2_4),.sl 4 (l_4.map formC),.sl 4 (l2_4.map formC)] false)),
   (1,some (.box 24 [.lit (.int .i64 0),.nl 4,.nl 4] false))],2⟩
section
variable {n : Nat} {x3 : Bool} {i_4 : Int} {l2_4 : List Form} {l_4 : List Form} {r6 : List Bool} {r7 : TGraph} {i2_4 : Int} {a0 : TGraph} {r : Bool}
section
variable(C1:0≤i_4)(K2:run (n+4) 25 [.agg [.lit (.int .i64 i2_4),.sl 4 (l_4.map formC),.sl 4 (l2_4.map formC)]]=some (.sl 1 (r6.map boolC)))(E3:r6[i_4.toNat]?=some x3)(Z3:0≤i_4)
include C1 K2 E3 Z3
theorem rDe_r4_1(C4:x3=false)(K5:run (n+4) 37 [.agg [.lit (.int .i64 i2_4),.sl 4 (l_4.map formC),.sl 4 (l2_4.map formC)],.lit (.int .i64 i_4),.agg [.sl 4 [],.lit (.bool false),.sl 1 [],.sl 1 []]]=some (graphV r7))(W6:InI (i_4-1)):
  Cont 0 (exec Tryz.prog (tab (n+5)) 0 27 (livesOf 20) big rDe_C4) (livesOf 20 4) (rDe_h4 i_4 i2_4 l_4 l2_4) (rDe_h4 (i_4-1) r7.Inputs r7.Units r7.Outputs):=by
 obtain ⟨EL3,EG3⟩:=List.getElem?_eq_some_iff.1 E3
 simp only [graphV] at K5
 have W6_:IntKind.i64.wrap (i_4-1)=i_4-1:=wr64 W6.1 W6.2
 apply Cont_m
 simp+decide [rDe_h4,loopsOf, Tryz.f20,rDe_C4,C1,K2,EL3,EG3,E3,Z3,C4,K5,W6_]
theorem rDe_r4_2(C4:x3=true)(W5:InI (i_4-1)):
  Cont 0 (exec Tryz.prog (tab (n+5)) 0 27 (livesOf 20) big rDe_C4) (livesOf 20 4) (rDe_h4 i_4 i2_4 l_4 l2_4) (rDe_h4 (i_4-1) i2_4 l_4 l2_4):=by
 obtain ⟨EL3,EG3⟩:=List.getElem?_eq_some_iff.1 E3
 have W5_:IntKind.i64.wrap (i_4-1)=i_4-1:=wr64 W5.1 W5.2
 apply Cont_m
 simp+decide [rDe_h4,loopsOf, Tryz.f20,rDe_C4,C1,K2,EL3,EG3,E3,Z3,C4,W5_]
end
theorem rDe_x4_1(C1:¬0≤i_4):
  Leave 0 (exec Tryz.prog (tab (n+5)) 0 27 (livesOf 20) big rDe_C4) (livesOf 20 (outOf 4)) (rDe_h4 i_4 i2_4 l_4 l2_4) (.exit 0) (rDe_o4a i2_4 l_4 l2_4):=by
 apply Leave_m
 simp+decide [rDe_h4,loopsOf, Tryz.f20,rDe_o4a,rDe_C4,C1]
theorem rDe_f1(K1:run (n+4) 21 [graphV a0]=some (.lit (.bool r)))(C2:r=false):
  run (n+5) 20 [graphV a0]=some (.agg [.lit (.int .i64 0),.sl 4 [],.sl 4 []]):=by
 simp only [graphV] at K1
 unfold run fnP
 simp+decide [Tryz.f20,K1,C2]
theorem rDe_f2(K1:run (n+4) 21 [graphV a0]=some (.lit (.bool r)))(C2:r=true)(W3:InI ((a0.Units.length:Int)-1))(L4:loopG Tryz.prog (tab (n+5)) 0 27 (livesOf 20) 4 rDe_C4 (rDe_h4 ((a0.Units.length:Int)-1) a0.Inputs a0.Units a0.Outputs)=some (.exit 0,rDe_o4a i2_4 l_4 l2_4)):
  run (n+5) 20 [graphV a0]=some (.agg [.lit (.int .i64 i2_4),.sl 4 (l_4.map formC),.sl 4 (l2_4.map formC)]):=by
 simp only [graphV] at K1
 have W3_:IntKind.i64.wrap ((a0.Units.length:Int)-1)=(a0.Units.length:Int)-1:=wr64 W3.1 W3.2
 unfold run fnP
 simp+decide [Tryz.f20,K1,C2,W3_]
 rw [loopX_G (C':=rDe_C4) (e:=(rDe_h4 ((a0.Units.length:Int)-1) a0.Inputs a0.Units a0.Outputs)) ?_ ?_,L4]
 rotate_left
 ·kernel_rfl
 ·simp+decide [rDe_h4,K1,C2,W3_]
 simp+decide [rDe_o4a,K1,C2,W3_]
end
noncomputable def rSi_C1:Code:=(loopsOf (bodyOf Tryz.f16)).getD 0 .skip
def rSi_h1(i_1:Int)(l_1:List Form)(l2_1:List Form):St:=
 ⟨[(1,.ptr 0 0),(2,.ptr 1 0)],
  [(0,some (.box 24 [.lit (.int .i64 i_1),.sl 4 (l_1.map formC),.sl 4 (l2_1.map formC)] false)),
   (1,some (.box 24 [.lit (.int .i64 0),.nl 4,.nl 4] false))],2⟩
def rSi_o1a(r9:TGraph):St:=
 ⟨[(2,.ptr 0 0)],
  [(0,some (.box 24 [.lit (.int .i64 (r9.Inputs)),.sl 4 (r9.Units.map formC),.sl 4 (r9.Outputs.map formC)] false))],1⟩
section
variable {n : Nat} {r7 : TGraph} {i_1 : Int} {r8 : TGraph} {l_1 : List Form} {r9 : TGraph} {l2_1 : List Form} {a0 : TGraph}
section
variable(K1:run (n+5) 14 [.agg [.lit (.int .i64 i_1),.sl 4 (l_1.map formC),.sl 4 (l2_1.map formC)]]=some (graphV r7))(K2:run (n+5) 18 [graphV r7]=some (graphV r8))(K3:run (n+5) 20 [graphV r8]=some (graphV r9))
include K1 K2 K3
theorem rSi_r1_1(C4:¬(r9.Units.length:Int)=(l_1.length:Int)):
  Cont 0 (exec Tryz.prog (tab (n+6)) 0 17 (livesOf 16) big rSi_C1) (livesOf 16 1) (rSi_h1 i_1 l_1 l2_1) (rSi_h1 r9.Inputs r9.Units r9.Outputs):=by
 simp only [graphV] at K1
 simp only [graphV] at K2
 simp only [graphV] at K3
 have C4_:((r9.Units.length:Int)==(l_1.length:Int))=false:=by simpa using C4
 have C4_n:((r9.Units.length:Int) !=(l_1.length:Int))=true:=by simpa using C4
 apply Cont_m
 simp+decide [rSi_h1,loopsOf, Tryz.f16,rSi_C1,K1,K2,K3,C4_,C4_n]
theorem rSi_x1_1(C4:(r9.Units.length:Int)=(l_1.length:Int)):
  Leave 0 (exec Tryz.prog (tab (n+6)) 0 17 (livesOf 16) big rSi_C1) (livesOf 16 (outOf 1)) (rSi_h1 i_1 l_1 l2_1) (.ret) (rSi_o1a r9):=by
 simp only [graphV] at K1
 simp only [graphV] at K2
 simp only [graphV] at K3
 have C4_:((r9.Units.length:Int)==(l_1.length:Int))=true:=by rw [C4];simp
 have C4_n:((r9.Units.length:Int) !=(l_1.length:Int))=false:=by rw [C4];simp
 apply Leave_m
 simp+decide [rSi_h1,loopsOf, Tryz.f16,rSi_o1a,rSi_C1,K1,K2,K3,C4_,C4_n]
end
theorem rSi_f1(L1:loopG Tryz.prog (tab (n+6)) 0 17 (livesOf 16) 1 rSi_C1 (rSi_h1 a0.Inputs a0.Units a0.Outputs)=some (.ret,rSi_o1a r9)):
  run (n+6) 16 [graphV a0]=some (graphV r9):=by
 unfold run fnP
 simp+decide [Tryz.f16]
 rw [loopX_G (C':=rSi_C1) (e:=(rSi_h1 a0.Inputs a0.Units a0.Outputs)) ?_ ?_,L1]
 rotate_left
 ·kernel_rfl
 ·simp+decide [rSi_h1]
 simp+decide [rSi_o1a]
end
noncomputable def rpd_C3:Code:=(loopsOf (bodyOf Tryz.f80)).getD 0 .skip
noncomputable def rpd_C8:Code:=(loopsOf rpd_C3).getD 0 .skip
def rpd_h8(a0:List Form)(a1:Int)(a2:Form)(out_3:List Form)(i_3:Nat)(out_8:List (Int × Rat))(r3:Form)(i_8:Nat):St:=
 ⟨[(1,.lit (.int .i64 a1)),(5,.ptr 0 0),(7,.own 1 out_3.length),(9,.ptr 2 0),(12,.sl 4 (a0.map formC)),(13,.lit (.int .i64 (a0.length:Int))),(14,.lit (.int .i64 (i_3:Int))),(27,.own 3 out_8.length),(28,.lit (.int .i64 (r3.1.length:Int))),(29,.lit (.int .i64 (i_8:Int)))],
  [(0,some (.box 45 [.sl 4 (a2.1.map termC),.lit (.bool (rawQ a2.2).s),natA (rawQ a2.2).l1,natA (rawQ a2.2).l2] false)),
   (1,some (.row 45 4 (out_3.map formC) 0)),
   (2,some (.box 45 [.own 3 out_8.length,.lit (.bool (rawQ r3.2).s),natA (rawQ r3.2).l1,natA (rawQ r3.2).l2] false)),
   (3,some (.row 57 4 (out_8.map termC) 0))],4⟩
def rpd_h3(a0:List Form)(a1:Int)(a2:Form)(out_3:List Form)(i_3:Nat):St:=
 ⟨[(1,.lit (.int .i64 a1)),(5,.ptr 0 0),(7,.own 1 out_3.length),(12,.sl 4 (a0.map formC)),(13,.lit (.int .i64 (a0.length:Int))),(14,.lit (.int .i64 (i_3:Int)))],
  [(0,some (.box 45 [.sl 4 (a2.1.map termC),.lit (.bool (rawQ a2.2).s),natA (rawQ a2.2).l1,natA (rawQ a2.2).l2] false)),
   (1,some (.row 45 4 (out_3.map formC) 0))],2⟩
def rpd_o8a(a0:List Form)(a1:Int)(a2:Form)(out_3:List Form)(i_3:Nat)(out_8:List (Int × Rat))(r3:Form):St:=
 ⟨[(1,.lit (.int .i64 a1)),(5,.ptr 0 0),(7,.own 1 out_3.length),(9,.ptr 2 0),(12,.sl 4 (a0.map formC)),(13,.lit (.int .i64 (a0.length:Int))),(14,.lit (.int .i64 (i_3:Int)))],
  [(0,some (.box 45 [.sl 4 (a2.1.map termC),.lit (.bool (rawQ a2.2).s),natA (rawQ a2.2).l1,natA (rawQ a2.2).l2] false)),
   (1,some (.row 45 4 (out_3.map formC) 0)),
   (2,some (.box 45 [.own 3 out_8.length,.lit (.bool (rawQ r3.2).s),natA (rawQ r3.2).l1,natA (rawQ r3.2).l2] false)),
   (3,some (.row 57 4 (out_8.map termC) 0))],4⟩
def rpd_o3a(out_3:List Form):St:=
 ⟨[(7,.own 0 out_3.length)],
  [(0,some (.row 45 4 (out_3.map formC) 0))],1⟩
section
variable{q12:Rat}{n:Nat}{a1:Int}{v9:Int}{out_8:List (Int × Rat)}{i_3:Nat}{a0:List Form}{i_8:Nat}{a2:Form}{r3:Form}{out_3:List Form}{F3:List (Int × Rat)}{q9:Rat}
theorem rpd_r8_1(C1:(i_8:Int)<(r3.1.length:Int))(G2:i_8<out_8.length)(E3:out_8[i_8]?=some (v9,q12))(C4:a1<v9)(W6:InI (v9-1))(W9:InI ((i_8:Int)+1)):
  Cont 0 (exec Tryz.prog (tab (n+3)) 0 54 (livesOf 80) big rpd_C8) (livesOf 80 8) (rpd_h8 a0 a1 a2 out_3 i_3 out_8 r3 i_8) (rpd_h8 a0 a1 a2 out_3 i_3 (out_8.set i_8 (v9-1,q12)) r3 (i_8+1)):=by
 have C1_:i_8<r3.1.length:=by omega
 obtain ⟨EL3,EG3⟩:=List.getElem?_eq_some_iff.1 E3
 have W6_:IntKind.i64.wrap (v9-1)=v9-1:=wr64 W6.1 W6.2
 have W9_:IntKind.i64.wrap ((i_8:Int)+1)=(i_8:Int)+1:=wr64 W9.1 W9.2
 apply Cont_m
 simp+decide [rpd_h8,loopsOf, Tryz.f80,rpd_C3,rpd_C8,C1,C1_,G2,EL3,EG3,E3,C4,W6_,W9_]
theorem rpd_r8_2(C1:(i_8:Int)<(r3.1.length:Int))(G2:i_8<out_8.length)(E3:out_8[i_8]?=some (v9,q12))(C4:¬a1<v9)(W5:InI ((i_8:Int)+1)):
  Cont 0 (exec Tryz.prog (tab (n+3)) 0 54 (livesOf 80) big rpd_C8) (livesOf 80 8) (rpd_h8 a0 a1 a2 out_3 i_3 out_8 r3 i_8) (rpd_h8 a0 a1 a2 out_3 i_3 out_8 r3 (i_8+1)):=by
 have C1_:i_8<r3.1.length:=by omega
 obtain ⟨EL3,EG3⟩:=List.getElem?_eq_some_iff.1 E3
 have W5_:IntKind.i64.wrap ((i_8:Int)+1)=(i_8:Int)+1:=wr64 W5.1 W5.2
 apply Cont_m
 simp+decide [rpd_h8,loopsOf, Tryz.f80,rpd_C3,rpd_C8,C1,C1_,G2,EL3,EG3,E3,C4,W5_]
theorem rpd_x8_1(C1:¬(i_8:Int)<(r3.1.length:Int)):
  Leave 0 (exec Tryz.prog (tab (n+3)) 0 54 (livesOf 80) big rpd_C8) (livesOf 80 (outOf 8)) (rpd_h8 a0 a1 a2 out_3 i_3 out_8 r3 i_8) (.exit 2) (rpd_o8a a0 a1 a2 out_3 i_3 out_8 r3):=by
 have C1_:¬i_8<r3.1.length:=by omega
 apply Leave_m
 simp+decide [rpd_h8,loopsOf, Tryz.f80,rpd_o8a,rpd_C3,rpd_C8,C1,C1_]
theorem rpd_r3_1(C1:(i_3:Int)<(a0.length:Int))(E2:a0[i_3]?=some (F3,q9))(K3:run (n+2) 105 [formV (F3,q9),.lit (.int .i64 a1),formV a2]=some (formV r3))(M4:r3.1.length≤10000000)(L5:loopG Tryz.prog (tab (n+3)) 0 54 (livesOf 80) 8 rpd_C8 (rpd_h8 a0 a1 a2 out_3 i_3 r3.1 r3 0)=some (.exit 2,rpd_o8a a0 a1 a2 out_3 i_3 out_8 r3))(M6:out_3.length+1≤100000000)(W7:InI ((i_3:Int)+1)):
  Cont 0 (exec Tryz.prog (tab (n+3)) 0 54 (livesOf 80) big rpd_C3) (livesOf 80 3) (rpd_h3 a0 a1 a2 out_3 i_3) (rpd_h3 a0 a1 a2 (out_3++[(out_8,r3.2)]) (i_3+1)):=by
 have C1_:i_3<a0.length:=by omega
 obtain ⟨EL2,EG2⟩:=List.getElem?_eq_some_iff.1 E2
 simp only [formV] at K3
 have K4:=clV_eq (es:=r3.1.map termC) (by simp) (by simpa using M4)
 try simp only [List.length_map] at K4
 have M6_:∀b,b≤10000→roomy (out_3.length+1) b=true:=fun b hb=>roomy_s M6 hb
 have M6_r:1+(out_3.length)=out_3.length+1:=Nat.add_comm _ _
 have W7_:IntKind.i64.wrap ((i_3:Int)+1)=(i_3:Int)+1:=wr64 W7.1 W7.2
 apply Cont_m
 simp+decide [rpd_h3,loopsOf, Tryz.f80,rpd_C3,C1,C1_,EL2,EG2,E2,K3,K4,M6_,M6_r,W7_]
 rw [loopX_G (C':=rpd_C8) (e:=(rpd_h8 a0 a1 a2 out_3 i_3 r3.1 r3 0)) ?_ ?_,L5]
 rotate_left
 ·kernel_rfl
 ·simp+decide [rpd_h8,loopsOf, Tryz.f80,rpd_C3,C1,C1_,EL2,EG2,E2,K3,K4,M6_,M6_r,W7_]
 simp+decide [rpd_o8a,loopsOf, Tryz.f80,rpd_C3,C1,C1_,EL2,EG2,E2,K3,K4,M6_,M6_r,W7_]
theorem rpd_x3_1(C1:¬(i_3:Int)<(a0.length:Int)):
  Leave 0 (exec Tryz.prog (tab (n+3)) 0 54 (livesOf 80) big rpd_C3) (livesOf 80 (outOf 3)) (rpd_h3 a0 a1 a2 out_3 i_3) (.exit 0) (rpd_o3a out_3):=by
 have C1_:¬i_3<a0.length:=by omega
 apply Leave_m
 simp+decide [rpd_h3,loopsOf, Tryz.f80,rpd_o3a,rpd_C3,C1,C1_]
theorem rpd_f1(L1:loopG Tryz.prog (tab (n+3)) 0 54 (livesOf 80) 3 rpd_C3 (rpd_h3 a0 a1 a2 [] 0)=some (.exit 0,rpd_o3a out_3)):
  run (n+3) 80 [.sl 4 (a0.map formC),.lit (.int .i64 a1),formV a2]=some (.sl 4 (out_3.map formC)):=by
 unfold run fnP
 simp+decide [Tryz.f80]
 rw [loopX_G (C':=rpd_C3) (e:=(rpd_h3 a0 a1 a2 [] 0)) ?_ ?_,L1]
 rotate_left
 ·kernel_rfl
 ·simp+decide [rpd_h3]
 simp+decide [rpd_o3a]
end
theorem rpl_f1{n:Nat}{a0:TGraph}{a1:Int}{a2:Form}{A D:List Form}{r:List Form}{r2:List Form}(hA:List.take a1.toNat (a0.Units.map formC)=A.map formC)(hD:List.drop (a1+1).toNat (a0.Units.map formC)=D.map formC)(W1:InI (a0.Inputs+a1))(U2:0≤0∧0≤a1∧a1≤(a0.Units.length:Int))(M3:A.length≤10000000)(W4:InI (a1+1))(U5:0≤a1+1∧a1+1≤(a0.Units.length:Int))(K6:run (n+3) 80 [.sl 4 (D.map formC),.lit (.int .i64 (a0.Inputs+a1)),formV a2]=some (.sl 4 (r.map formC)))(M7:(A++r).length≤100000000)(K8:run (n+3) 80 [.sl 4 (a0.Outputs.map formC),.lit (.int .i64 (a0.Inputs+a1)),formV a2]=some (.sl 4 (r2.map formC))):
  run (n+4) 54 [graphV a0,.lit (.int .i64 a1),formV a2]=some (.agg [.lit (.int .i64 (a0.Inputs)),.sl 4 ((A++r).map formC),.sl 4 (r2.map formC)]):=by
 have W1_:IntKind.i64.wrap (a0.Inputs+a1)=a0.Inputs+a1:=wr64 W1.1 W1.2
 have K3:=clU_eq (es:=A.map formC) (by simp) (by simpa using M3)
 try simp only [List.length_map] at K3
 have W4_:IntKind.i64.wrap (a1+1)=a1+1:=wr64 W4.1 W4.2
 simp only [formV] at K6
 have M7_:∀b,b≤10000→roomy ((A++r).length) b=true:=fun b hb=>roomy_s M7 hb
 simp only [List.length_append] at M7_
 simp only [formV] at K8
 unfold run fnP
 simp+decide [Tryz.f54,hA,hD,W1_,U2,K3,W4_,U5,K6,M7_,K8]
noncomputable def cns_C2:Code:=(loopsOf (bodyOf Tryz.f35)).getD 0 .skip
def cns_h2(i_2:Nat)(i2_2:Int)(l_2:List Form)(l2_2:List Form):St:=
 ⟨[(1,.ptr 0 0),(2,.ptr 1 0),(3,.lit (.int .i64 (i_2:Int)))],
  [(0,some (.box 24 [.lit (.int .i64 i2_2),.sl 4 (l_2.map formC),.sl 4 (l2_2.map formC)] false)),
   (1,some (.box 24 [.lit (.int .i64 0),.nl 4,.nl 4] false))],2⟩
def cns_o2a(i2_2:Int)(l_2:List Form)(l2_2:List Form):St:=
 ⟨[(1,.ptr 0 0),(2,.ptr 1 0)],
  [(0,some (.box 24 [.lit (.int .i64 i2_2),.sl 4 (l_2.map formC),.sl 4 (l2_2.map formC)] false)),
   (1,some (.box 24 [.lit (.int .i64 0),.nl 4,.nl 4] false))],2⟩
section
variable{n:Nat}{l_2:List Form}{q3:Rat}{i_2:Nat}{F3:List (Int × Rat)}{r5:Rat}{r6:TGraph}{i2_2:Int}{l2_2:List Form}{a0:TGraph}
theorem cns_r2_1(C1:(i_2:Int)<(l_2.length:Int))(E2:l_2[i_2]?=some (F3,q3))(C3:(F3.length:Int)=0)(K4:run (n+4) 55 [ratV q3,.agg [.lit (.bool false),.sl 1 [],.sl 1 []]]=some (ratV r5))(K5:run (n+4) 54 [.agg [.lit (.int .i64 i2_2),.sl 4 (l_2.map formC),.sl 4 (l2_2.map formC)],.lit (.int .i64 (i_2:Int)),.agg [.sl 4 [],.lit (.bool (rawQ r5).s),natA (rawQ r5).l1,natA (rawQ r5).l2]]=some (graphV r6)):
  Cont 0 (exec Tryz.prog (tab (n+5)) 0 30 (livesOf 35) big cns_C2) (livesOf 35 2) (cns_h2 i_2 i2_2 l_2 l2_2) (cns_h2 i_2 r6.Inputs r6.Units r6.Outputs):=by
 have C1_:i_2<l_2.length:=by omega
 obtain ⟨EL2,EG2⟩:=List.getElem?_eq_some_iff.1 E2
 have C3_:((F3.length:Int)==0)=true:=by rw [C3];simp
 have C3_n:((F3.length:Int) !=0)=false:=by rw [C3];simp
 have C3_l:¬0<(F3.length:Int):=by omega
 simp only [ratV] at K4
 simp only [graphV] at K5
 apply Cont_m
 simp+decide [cns_h2,loopsOf, Tryz.f35,cns_C2,C1,C1_,EL2,EG2,E2,C3_,C3_n,C3_l,K4,K5]
theorem cns_r2_2(C1:(i_2:Int)<(l_2.length:Int))(E2:l_2[i_2]?=some (F3,q3))(C3:¬(F3.length:Int)=0)(W4:InI ((i_2:Int)+1)):
  Cont 0 (exec Tryz.prog (tab (n+5)) 0 30 (livesOf 35) big cns_C2) (livesOf 35 2) (cns_h2 i_2 i2_2 l_2 l2_2) (cns_h2 (i_2+1) i2_2 l_2 l2_2):=by
 have C1_:i_2<l_2.length:=by omega
 obtain ⟨EL2,EG2⟩:=List.getElem?_eq_some_iff.1 E2
 have C3_:((F3.length:Int)==0)=false:=by simpa using C3
 have C3_n:((F3.length:Int) !=0)=true:=by simpa using C3
 have C3_l:0<(F3.length:Int):=by omega
 have W4_:IntKind.i64.wrap ((i_2:Int)+1)=(i_2:Int)+1:=wr64 W4.1 W4.2
 apply Cont_m
 simp+decide [cns_h2,loopsOf, Tryz.f35,cns_C2,C1,C1_,EL2,EG2,E2,C3_,C3_n,C3_l,W4_]
theorem cns_x2_1(C1:¬(i_2:Int)<(l_2.length:Int)):
  Leave 0 (exec Tryz.prog (tab (n+5)) 0 30 (livesOf 35) big cns_C2) (livesOf 35 (outOf 2)) (cns_h2 i_2 i2_2 l_2 l2_2) (.exit 0) (cns_o2a i2_2 l_2 l2_2):=by
 have C1_:¬i_2<l_2.length:=by omega
 apply Leave_m
 simp+decide [cns_h2,loopsOf, Tryz.f35,cns_o2a,cns_C2,C1,C1_]
theorem cns_f1(L1:loopG Tryz.prog (tab (n+5)) 0 30 (livesOf 35) 2 cns_C2 (cns_h2 0 a0.Inputs a0.Units a0.Outputs)=some (.exit 0,cns_o2a i2_2 l_2 l2_2)):
  run (n+5) 35 [graphV a0]=some (.agg [.lit (.int .i64 i2_2),.sl 4 (l_2.map formC),.sl 4 (l2_2.map formC)]):=by
 unfold run fnP
 simp+decide [Tryz.f35]
 rw [loopX_G (C':=cns_C2) (e:=(cns_h2 0 a0.Inputs a0.Units a0.Outputs)) ?_ ?_,L1]
 rotate_left
 ·kernel_rfl
 ·simp+decide [cns_h2]
 simp+decide [cns_o2a]
end
noncomputable def dup_C3:Code:=(loopsOf (bodyOf Tryz.f40)).getD 0 .skip
def dup_h3(i_3:Nat)(i2_3:Int)(l_3:List Form)(l2_3:List Form)(mp_3:List (ByteArray × Value)):St:=
 ⟨[(1,.ptr 0 0),(2,.ptr 1 0),(3,.mp 2),(4,.lit (.int .i64 (i_3:Int)))],
  [(0,some (.box 24 [.lit (.int .i64 i2_3),.sl 4 (l_3.map formC),.sl 4 (l2_3.map formC)] false)),
   (1,some (.box 24 [.lit (.int .i64 0),.nl 4,.nl 4] false)),
   (2,some (.mp mp_3))],3⟩
def dup_o3a(i2_3:Int)(l_3:List Form)(l2_3:List Form):St:=
 ⟨[(1,.ptr 0 0),(2,.ptr 1 0)],
  [(0,some (.box 24 [.lit (.int .i64 i2_3),.sl 4 (l_3.map formC),.sl 4 (l2_3.map formC)] false)),
   (1,some (.box 24 [.lit (.int .i64 0),.nl 4,.nl 4] false))],2⟩
section
variable{l_3:List Form}{n:Nat}{u3:Int}{i2_3:Int}{q3:Rat}{F3:List (Int × Rat)}{r5:ByteArray}{i_3:Nat}{r6:TGraph}{l2_3:List Form}{mp_3:List (ByteArray × Value)}{a0:TGraph}
section
variable(C1:(i_3:Int)<(l_3.length:Int))(E2:l_3[i_3]?=some (F3,q3))(K3:run (n+7) 62 [formV (F3,q3)]=some (.lit (.string r5)))
include C1 E2 K3
theorem dup_r3_1(K4:findM r5 mp_3=some (.int .i64 u3))(W5:InI (i2_3+u3))(K7:run (n+7) 54 [.agg [.lit (.int .i64 i2_3),.sl 4 (l_3.map formC),.sl 4 (l2_3.map formC)],.lit (.int .i64 (i_3:Int)),.agg [.sl 4 [[.lit (.int .i64 (i2_3+u3)),.lit (.bool (rawQ (ofQ 1)).s),natA (rawQ (ofQ 1)).l1,natA (rawQ (ofQ 1)).l2]],.lit (.bool false),.sl 1 [],.sl 1 []]]=some (graphV r6)):
  Cont 0 (exec Tryz.prog (tab (n+8)) 0 44 (livesOf 40) big dup_C3) (livesOf 40 3) (dup_h3 i_3 i2_3 l_3 l2_3 mp_3) (dup_h3 i_3 r6.Inputs r6.Units r6.Outputs mp_3):=by
 have C1_:i_3<l_3.length:=by omega
 obtain ⟨EL2,EG2⟩:=List.getElem?_eq_some_iff.1 E2
 simp only [formV] at K3
 have W5_:IntKind.i64.wrap (i2_3+u3)=i2_3+u3:=wr64 W5.1 W5.2
 have K6:=r_ofq (z:=1) (by omega) (by omega)
 simp only [graphV] at K7
 apply Cont_m
 simp+decide [dup_h3,loopsOf, Tryz.f40,dup_C3,C1,C1_,EL2,EG2,E2,K3,K4,W5_,K6,K7]
theorem dup_r3_2(K4:findM r5 mp_3=none)(W5:InI ((i_3:Int)+1)):
  Cont 0 (exec Tryz.prog (tab (n+8)) 0 44 (livesOf 40) big dup_C3) (livesOf 40 3) (dup_h3 i_3 i2_3 l_3 l2_3 mp_3) (dup_h3 (i_3+1) i2_3 l_3 l2_3 (putM r5 ((.int .i64 (i_3:Int))) mp_3)):=by
 have C1_:i_3<l_3.length:=by omega
 obtain ⟨EL2,EG2⟩:=List.getElem?_eq_some_iff.1 E2
 simp only [formV] at K3
 have W5_:IntKind.i64.wrap ((i_3:Int)+1)=(i_3:Int)+1:=wr64 W5.1 W5.2
 apply Cont_m
 simp+decide [dup_h3,loopsOf, Tryz.f40,dup_C3,C1,C1_,EL2,EG2,E2,K3,K4,W5_]
end
theorem dup_x3_1(C1:¬(i_3:Int)<(l_3.length:Int)):
  Leave 0 (exec Tryz.prog (tab (n+8)) 0 44 (livesOf 40) big dup_C3) (livesOf 40 (outOf 3)) (dup_h3 i_3 i2_3 l_3 l2_3 mp_3) (.exit 0) (dup_o3a i2_3 l_3 l2_3):=by
 have C1_:¬i_3<l_3.length:=by omega
 apply Leave_m
 simp+decide [dup_h3,loopsOf, Tryz.f40,dup_o3a,dup_C3,C1,C1_]
theorem dup_f1(L1:loopG Tryz.prog (tab (n+8)) 0 44 (livesOf 40) 3 dup_C3 (dup_h3 0 a0.Inputs a0.Units a0.Outputs [])=some (.exit 0,dup_o3a i2_3 l_3 l2_3)):
  run (n+8) 40 [graphV a0]=some (.agg [.lit (.int .i64 i2_3),.sl 4 (l_3.map formC),.sl 4 (l2_3.map formC)]):=by
 unfold run fnP
 simp+decide [Tryz.f40]
 rw [loopX_G (C':=dup_C3) (e:=(dup_h3 0 a0.Inputs a0.Units a0.Outputs [])) ?_ ?_,L1]
 rotate_left
 ·kernel_rfl
 ·simp+decide [dup_h3]
 simp+decide [dup_o3a]
end
section
variable {n : Nat} {a0 : TGraph} {r : Bool}
theorem cpd_f1(K1:run (n+5) 56 [graphV a0]=some (.lit (.bool r)))(C2:r=false):
  run (n+6) 36 [graphV a0]=some (.agg [.lit (.int .i64 0),.sl 4 [],.sl 4 []]):=by
 simp only [graphV] at K1
 unfold run fnP
 simp+decide [Tryz.f36,K1,C2]
theorem cpd_f2(K1:run (n+5) 56 [graphV a0]=some (.lit (.bool r)))(C2:r=true)(M3:a0.Units.length≤10000000)(M4:a0.Outputs.length≤10000000):
  run (n+6) 36 [graphV a0]=some (graphV a0):=by
 simp only [graphV] at K1
 have K3:=clU_eq (es:=a0.Units.map formC) (by simp) (by simpa using M3)
 try simp only [List.length_map] at K3
 have K4:=clU_eq (es:=a0.Outputs.map formC) (by simp) (by simpa using M4)
 try simp only [List.length_map] at K4
 unfold run fnP
 simp+decide [Tryz.f36,K1,C2,K3,K4]
end
theorem ba_loop(a:ByteArray):∀(k i:Nat) (r:List UInt8),k+i=a.size→ByteArray.toList.loop a i r=r.reverse++a.data.toList.drop i
 | 0,i,r,h=>by
   rw [ByteArray.toList.loop,if_neg (by omega),List.drop_eq_nil_of_le (by have e:a.data.toList.length=a.size:=Array.length_toList;omega),List.append_nil]
 | k+1,i,r,h=>by
   have hi:i<a.data.toList.length:=by have e:a.data.toList.length=a.size:=Array.length_toList;omega
   rw [ByteArray.toList.loop,if_pos (by omega),ba_loop a k (i+1) _ (by omega),List.drop_eq_getElem_cons hi]
   have e:a.get! i=a.data.toList[i]:=by
    unfold ByteArray.get!
    rw [Array.getElem_toList]
    exact getElem!_pos a.data i (by simpa using hi)
   rw [e]
   simp
theorem ba_toList(a:ByteArray):a.toList=a.data.toList:=by
 unfold ByteArray.toList
 rw [ba_loop a a.size 0 [] (by omega)]
 simp
theorem ba_ext{a b:ByteArray}(h:a.data.toList=b.data.toList):a=b:=by
 obtain ⟨x⟩:=a
 obtain ⟨y⟩:=b
 congr 1
 exact Array.toList_inj.1 h
theorem ba_inj{a b:ByteArray}(h:a.toList=b.toList):a=b:=ba_ext (by rw [←ba_toList,←ba_toList,h])
theorem cat_q{a b x:ByteArray}(h:a.size+b.size≤9000000000000000000)(d:x=a++b):(if ((a.size:Nat):Int)+((b.size:Nat):Int)≤9223372036854775807 then some (Value.string (a++b)) else none)=some (Value.string x):=by
 rw [if_pos (by omega),d]
theorem set_strC(l:List ByteArray)(i:Nat)(a:ByteArray):(l.map strC).set i [.lit (.string a)]=(l.set i a).map strC:=by
 rw [List.map_set];rfl
def bs(l:List UInt8):ByteArray:=⟨l.toArray⟩
theorem bs_data(l:List UInt8):(bs l).data.toList=l:=by simp [bs]
theorem bs_size(l:List UInt8):(bs l).size=l.length:=by
 show (bs l).data.size=_
 simp [bs]
theorem bs_app(l m:List UInt8):bs l++bs m=bs (l++m):=ba_ext (by simp [bs])
theorem bs_inj{l m:List UInt8}(h:bs l=bs m):l=m:=by
 have:=congrArg (fun a:ByteArray=>a.data.toList) h
 simpa [bs] using this
section
open Lib (decDigits)
def dig(k:Nat):UInt8:=UInt8.ofNat (48+k)
theorem dd_lt{u:Nat}(h:u<10):decDigits u=[dig u]:=by rw [decDigits,dif_pos h];rfl
theorem dd_ge{u:Nat}(h:¬u<10):decDigits u=decDigits (u / 10)++[dig (u % 10)]:=by rw [decDigits,dif_neg h];rfl
def padL:Nat→Nat→List UInt8
 | 0,_=>[]
 | m+1,r=>padL m (r / 10)++[dig (r % 10)]
theorem padL_zero:∀(m:Nat),padL m 0=List.replicate m 48
 | 0=>rfl
 | m+1=>by rw [padL,Nat.zero_div,padL_zero m,List.replicate_succ'];rfl
theorem dd_split:∀(m q r:Nat),0<q→r<10 ^ m→decDigits (q*10 ^ m+r)=decDigits q++padL m r
 | 0,q,r,hq,hr=>by
   have:r=0:=by simpa using hr
   subst this
   rw [Nat.pow_zero,Nat.mul_one,Nat.add_zero,padL,List.append_nil]
 | m+1,q,r,hq,hr=>by
   rw [Nat.pow_succ] at hr
   have hp:0<10 ^ m:=Nat.pow_pos (by omega)
   have e0:q*10 ^ (m+1)=(q*10 ^ m)*10:=by rw [Nat.pow_succ,Nat.mul_assoc]
   have hge:1≤q*10 ^ m:=Nat.mul_pos hq hp
   have h1:¬q*10 ^ (m+1)+r<10:=by omega
   have e1:(q*10 ^ (m+1)+r) / 10=q*10 ^ m+r / 10:=by omega
   have e2:(q*10 ^ (m+1)+r) % 10=r % 10:=by omega
   rw [dd_ge h1,e1,e2,dd_split m q (r / 10) hq (by omega),padL,List.append_assoc]
theorem dd_pad:∀(m r:Nat),r<10 ^ (m+1)→(decDigits r).length≤m+1∧padL (m+1) r=List.replicate (m+1-(decDigits r).length) 48++decDigits r
 | 0,r,h=>by
   have h1:r<10:=by simpa using h
   rw [dd_lt h1]
   refine ⟨by simp,?_⟩
   rw [padL,padL,Nat.mod_eq_of_lt h1]
   simp
 | m+1,r,h=>by
   by_cases h1:r<10
   ·rw [dd_lt h1]
    refine ⟨by simp,?_⟩
    have e:padL (m+1+1) r=padL (m+1) (r / 10)++[dig (r % 10)]:=rfl
    rw [e,Nat.div_eq_of_lt h1,Nat.mod_eq_of_lt h1,padL_zero]
    simp
   ·rw [Nat.pow_succ] at h
    obtain ⟨i1,i2⟩:=dd_pad m (r / 10) (by omega)
    rw [dd_ge h1,List.length_append,List.length_singleton]
    refine ⟨by omega,?_⟩
    have e:padL (m+1+1) r=padL (m+1) (r / 10)++[dig (r % 10)]:=rfl
    rw [e,i2,←List.append_assoc,show m+1+1-((decDigits (r / 10)).length+1)=m+1-(decDigits (r / 10)).length by omega]
theorem dd_ne(k:Nat):decDigits k≠[]:=by
 by_cases h:k<10
 ·rw [dd_lt h];simp
 ·rw [dd_ge h];simp
theorem repL(c:Nat):Lib.repeatL [48] c=List.replicate c 48:=by
 induction c with
 | zero=>rfl
 | succ c ih=>rw [Lib.repeatL,ih,List.replicate_succ];rfl
theorem joinL(xs:List (List UInt8)):Lib.join xs []=xs.flatten:=by
 unfold Lib.join List.intercalate
 induction xs with
 | nil=>rfl
 | cons x xs ih=>
   cases xs with
   | nil=>simp [List.intersperse]
   | cons y ys=>
     rw [List.intersperse,List.flatten_cons,List.flatten_cons,ih]
     ·simp
     ·intro h
      cases h
def rnd:Nat→Nat→Nat
 | 0,_=>0
 | f+1,k=>if k=0 then 0 else rnd f (k / 1000000000)+1
theorem rnd_le:∀(f k:Nat),rnd f k≤f
 | 0,_=>Nat.le_refl _
 | f+1,k=>by rw [rnd];split;omega;have:=rnd_le f (k / 1000000000);omega
theorem rnd_zero(f:Nat):rnd f 0=0:=by cases f <;>simp [rnd]
theorem rnd_enough:∀(f g k:Nat),k<2 ^ f→k<2 ^ g→rnd f k=rnd g k
 | 0,g,k,h,_=>by
   have:k=0:=by simpa using h
   subst this
   rw [rnd_zero,rnd_zero]
 | f+1,0,k,_,h=>by
   have:k=0:=by simpa using h
   subst this
   rw [rnd_zero,rnd_zero]
 | f+1,g+1,k,h,h2=>by
   rw [Nat.pow_succ] at h h2
   rw [rnd,rnd,rnd_enough f g _ (by omega) (by omega)]
def dd0(k:Nat):List UInt8:=if k=0 then [] else decDigits k
theorem dd0_step{k:Nat}(h:0<k):dd0 k=dd0 (k / 1000000000)++(if 0<k / 1000000000 then List.replicate (9-(decDigits (k % 1000000000)).length) 48++decDigits (k % 1000000000) else decDigits (k % 1000000000))∧(decDigits (k % 1000000000)).length≤9:=by
 have hr:k % 1000000000<10 ^ (8+1):=Nat.mod_lt _ (by decide)
 obtain ⟨p1,p2⟩:=dd_pad 8 _ hr
 refine ⟨?_,p1⟩
 unfold dd0
 rw [if_neg (by omega)]
 by_cases hq:0<k / 1000000000
 ·rw [if_neg (by omega),if_pos hq,←p2]
  have e:=dd_split 9 (k / 1000000000) (k % 1000000000) hq hr
  have e2:k / 1000000000*10 ^ 9+k % 1000000000=k:=by
   have:(10:Nat) ^ 9=1000000000:=by decide
   rw [this];omega
  rw [e2] at e
  exact e
 ·rw [if_pos (by omega),if_neg hq,List.nil_append]
  congr 1
  omega
theorem dd_bits:∀(m k:Nat),k<2 ^ m→(decDigits k).length≤m+1
 | 0,k,h=>by
   have:k=0:=by simpa using h
   subst this
   rw [dd_lt (by omega)];simp
 | m+1,k,h=>by
   by_cases h1:k<10
   ·rw [dd_lt h1];simp
   ·rw [Nat.pow_succ] at h
    rw [dd_ge h1,List.length_append,List.length_singleton]
    have:=dd_bits m (k / 10) (by omega)
    omega
end
noncomputable def ldc_C5:Code:=(loopsOf (bodyOf Tryz.f117)).getD 0 .skip
def ldc_h5(nat_5:List Nat)(r:List Nat)(out_5:List ByteArray):St:=
 ⟨[(0,natA nat_5),(3,natA r),(4,.own 0 out_5.length)],
  [(0,some (.row 9 1 (out_5.map strC) 0))],1⟩
def ldc_o5a(out_5:List ByteArray):St:=
 ⟨[(4,.own 0 out_5.length)],
  [(0,some (.row 9 1 (out_5.map strC) 0))],1⟩
section
variable {n : Nat} {r16 : List Nat} {out_5 : List ByteArray} {r17 : List Nat} {r21 : ByteArray} {r20 : Bool} {r19 : Int} {r18 : Int} {nat_5 : List Nat} {r22 : ByteArray} {cat3 : ByteArray} {r : List Nat} {a0 : List Nat} {R : List ByteArray} {r23 : ByteArray}
section
variable(C1:0<(nat_5.length:Int))(K2:(oND fun x y=>.tup [natA (lmb (val x / val y)),natA (lmb (val x % val y)),.lit (.int .i64 0)]) [natA nat_5,natA r]=some (.tup [natA r16,natA r17,.lit (.int .i64 r18)]))(K3:(oN1 u64N fun x=>.tup [.lit (.int .u64 (val x:Nat)),.lit (.bool true)]) [natA r17]=some (.tup [.lit (.int .u64 r19),.lit (.bool r20)]))(K4:(oFU) [.lit (.int .u64 r19),.lit (.int .i64 10)]=some (.lit (.string r21)))
include C1 K2 K3 K4
theorem ldc_r5_1(C5:0<(r16.length:Int))(W6:InI (9-(r21.size:Int)))(K7:(oRepeat) [.lit (.string (⟨#[48]⟩:ByteArray)),.lit (.int .i64 (9-(r21.size:Int)))]=some (.lit (.string r22)))(S8:r22.size+r21.size≤9000000000000000000)(D8:cat3=r22++r21)(M9:out_5.length+1≤100000000):
  Cont 0 (exec Tryz.prog (tab (n+5)) 0 50 (livesOf 117) big ldc_C5) (livesOf 117 5) (ldc_h5 nat_5 r out_5) (ldc_h5 r16 r (out_5++[cat3])):=by
 have C1_:0<nat_5.length:=by omega
 have C5_:0<r16.length:=by omega
 have W6_:IntKind.i64.wrap (9-(r21.size:Int))=9-(r21.size:Int):=wr64 W6.1 W6.2
 have S8_q:=cat_q S8 D8
 have M9_:∀b,b≤10000→roomy (out_5.length+1) b=true:=fun b hb=>roomy_s M9 hb
 unfold Cont
 simp+decide [ldc_h5,loopsOf, Tryz.f117,ldc_C5,C1_,K2,K3,K4,C5_,W6_,K7,S8_q,M9_]
theorem ldc_r5_2(C5:¬0<(r16.length:Int))(M6:out_5.length+1≤100000000):
  Cont 0 (exec Tryz.prog (tab (n+5)) 0 50 (livesOf 117) big ldc_C5) (livesOf 117 5) (ldc_h5 nat_5 r out_5) (ldc_h5 r16 r (out_5++[r21])):=by
 have C1_:0<nat_5.length:=by omega
 have C5_:¬0<r16.length:=by omega
 have M6_:∀b,b≤10000→roomy (out_5.length+1) b=true:=fun b hb=>roomy_s M6 hb
 unfold Cont
 simp+decide [ldc_h5,loopsOf, Tryz.f117,ldc_C5,C1_,K2,K3,K4,C5_,M6_]
end
theorem ldc_x5_1(C1:¬0<(nat_5.length:Int)):
  Leave 0 (exec Tryz.prog (tab (n+5)) 0 50 (livesOf 117) big ldc_C5) (livesOf 117 (outOf 5)) (ldc_h5 nat_5 r out_5) (.exit 0) (ldc_o5a out_5):=by
 have C1_:¬0<nat_5.length:=by omega
 unfold Leave
 simp+decide [ldc_h5,loopsOf, Tryz.f117,ldc_o5a,ldc_C5,C1_]
theorem ldc_f1(C1:(a0.length:Int)=0):
  run (n+5) 117 [natA a0]=some (.lit (.string (⟨#[48]⟩:ByteArray))):=by
 have C1_:((a0.length:Int)==0)=true:=by rw [C1];simp
 unfold run fnP
 simp+decide [Tryz.f117,C1_]
theorem ldc_f2(HR:R.length=out_5.length)(C1:¬(a0.length:Int)=0)(K2:(oU fun k=>natA (lmb k)) [.lit (.int .u64 1000000000)]=some (natA r))(L3:loopG Tryz.prog (tab (n+5)) 0 50 (livesOf 117) 5 ldc_C5 (ldc_h5 a0 r [])=some (.exit 0,ldc_o5a out_5))(K4:runL (n+4) 141 [.own 0 out_5.length] [.row 9 1 (out_5.map strC) 0]=some (.tup [],[(0,.row 9 1 (R.map strC) 0)]))(K5:(oJoin) [.sl 1 (R.map strC),.lit (.string (⟨#[]⟩:ByteArray))]=some (.lit (.string r23))):
  run (n+5) 117 [natA a0]=some (.lit (.string r23)):=by
 have C1_:((a0.length:Int)==0)=false:=by simpa using C1
 unfold run fnP
 simp+decide [Tryz.f117,C1_,K2]
 rw [loopX_G (C':=ldc_C5) (e:=(ldc_h5 a0 r [])) ?_ ?_,L3]
 rotate_left
 ·kernel_rfl
 ·simp+decide [ldc_h5]
 simp+decide [ldc_o5a,HR,K4,K5]
end
noncomputable def srv_C1:Code:=(loopsOf (bodyOf Tryz.f141)).getD 0 .skip
def srv_h1(out_1:List ByteArray)(i_1:Nat)(i2_1:Int):St:=
 ⟨[(0,.own 0 out_1.length),(2,.lit (.int .i64 (i_1:Int))),(3,.lit (.int .i64 i2_1))],
  [(0,some (.row 9 1 (out_1.map strC) 0))],1⟩
def srv_o1a(out_1:List ByteArray):St:=
 ⟨[],
  [(0,some (.row 9 1 (out_1.map strC) 0))],1⟩
section
variable {n : Nat} {x5 : ByteArray} {out_1 : List ByteArray} {i_1 : Nat} {x6 : ByteArray} {i2_1 : Int} {a0 : List ByteArray}
theorem srv_r1_1(C1:(i_1:Int)<i2_1)(G2:i2_1.toNat<out_1.length)(Z2:0≤i2_1)(E3:out_1[i2_1.toNat]?=some x5)(Z3:0≤i2_1)(G4:i_1<out_1.length)(E5:out_1[i_1]?=some x6)(W10:InI ((i_1:Int)+1))(W11:InI (i2_1-1)):
  Cont 1 (exec Tryz.prog (tab n) 1 28 (livesOf 141) big srv_C1) (livesOf 141 1) (srv_h1 out_1 i_1 i2_1) (srv_h1 ((out_1.set i_1 x5).set i2_1.toNat x6) (i_1+1) (i2_1-1)):=by
 obtain ⟨EL3,EG3⟩:=List.getElem?_eq_some_iff.1 E3
 obtain ⟨EL5,EG5⟩:=List.getElem?_eq_some_iff.1 E5
 have W10_:IntKind.i64.wrap ((i_1:Int)+1)=(i_1:Int)+1:=wr64 W10.1 W10.2
 have W11_:IntKind.i64.wrap (i2_1-1)=i2_1-1:=wr64 W11.1 W11.2
 unfold Cont
 simp+decide [srv_h1,loopsOf, Tryz.f141,srv_C1,C1,G2,Z2,EG3,G4,EG5,set_strC,-List.map_set,W10_,W11_]
theorem srv_x1_1(C1:¬(i_1:Int)<i2_1):
  Leave 1 (exec Tryz.prog (tab n) 1 28 (livesOf 141) big srv_C1) (livesOf 141 (outOf 1)) (srv_h1 out_1 i_1 i2_1) (.exit 0) (srv_o1a out_1):=by
 unfold Leave
 simp+decide [srv_h1,loopsOf, Tryz.f141,srv_o1a,srv_C1,C1]
theorem srv_f1(W1:InI ((a0.length:Int)-1))(L2:loopG Tryz.prog (tab n) 1 28 (livesOf 141) 1 srv_C1 (srv_h1 a0 0 ((a0.length:Int)-1))=some (.exit 0,srv_o1a out_1)):
  runL n 141 [.own 0 a0.length] [.row 9 1 (a0.map strC) 0]=some (.tup [],[(0,.row 9 1 (out_1.map strC) 0)]):=by
 have W1_:IntKind.i64.wrap ((a0.length:Int)-1)=(a0.length:Int)-1:=wr64 W1.1 W1.2
 unfold runL fnL
 simp+decide [Tryz.f141,W1_]
 rw [loopX_G (C':=srv_C1) (e:=(srv_h1 a0 0 ((a0.length:Int)-1))) ?_ ?_,L2]
 rotate_left
 ·kernel_rfl
 ·simp+decide [srv_h1]
 simp+decide [srv_o1a]
end
section
open Lib (decDigits)
attribute [local irreducible] run runL loopG exec
theorem few_lmb{k:Nat}(h:(lmb k).length≤1000000):fewN (lmb k)=true:=Nat.ble_eq_true_of_le (by omega)
theorem k_div{k m:Nat}(hk:(lmb k).length≤1000000)(hm:(lmb m).length≤1000000)(h0:0<m):(oND fun x y=>.tup [natA (lmb (val x / val y)),natA (lmb (val x % val y)),.lit (.int .i64 0)]) [natA (lmb k),natA (lmb m)]=some (.tup [natA (lmb (k / m)),natA (lmb (k % m)),.lit (.int .i64 0)]):=by
 have hb:Nat.blt 0 m=true:=Nat.ble_eq_true_of_le h0
 simp only [oND,decN_nat (lim_lmb _),few_lmb hk,few_lmb hm,val_lmb,hb,Bool.and_self,if_true]
theorem k_uint{k:Nat}(h:k<18446744073709551616):(oN1 u64N fun x=>.tup [.lit (.int .u64 (val x:Nat)),.lit (.bool true)]) [natA (lmb k)]=some (.tup [.lit (.int .u64 (k:Int)),.lit (.bool true)]):=by
 have hl:(lmb k).length≤2:=lmb_len_le (by simpa using h)
 have h64:u64N (lmb k)=true:=by
  unfold u64N
  rw [val_lmb]
  exact Nat.ble_eq_true_of_le h
 simp only [oN1,decN_nat (lim_lmb _),few_lmb (show (lmb k).length≤1000000 by omega),h64,Bool.and_self,if_true,val_lmb]
theorem k_ofu{z:Int}(h0:0≤z)(h1:z<18446744073709551616):(oU fun k=>natA (lmb k)) [.lit (.int .u64 z)]=some (natA (lmb z.toNat)):=if_pos ⟨h0,h1⟩
theorem k_fu{d:Nat}(h:d<18446744073709551616):oFU [.lit (.int .u64 (d:Int)),.lit (.int .i64 10)]=some (.lit (.string (bs (decDigits d)))):=by
 have h1:(0:Int)≤(d:Int)∧(d:Int)<18446744073709551616:=⟨by omega,by omega⟩
 simp only [oFU]
 rw [if_pos h1,Int.toNat_natCast]
 rfl
theorem k_rep{l:List UInt8}(h:l.length≤9):oRepeat [.lit (.string (⟨#[48]⟩:ByteArray)),.lit (.int .i64 (9-((bs l).size:Int)))]=some (.lit (.string (bs (List.replicate (9-l.length) 48)))):=by
 have e:(9-((bs l).size:Int)).toNat=9-l.length:=by rw [bs_size];omega
 have e2:(⟨#[48]⟩:ByteArray).size=1:=rfl
 unfold oRepeat
 dsimp only
 rw [if_pos ⟨by rw [bs_size];omega,by rw [bs_size];omega,by rw [e,e2];omega⟩,e]
 rw [repL]
 rfl
theorem strsL_map(l:List ByteArray):strsL (l.map strC)=some l:=by
 induction l with
 | nil=>rfl
 | cons a l ih=>simp [strsL,ih]
theorem k_join{P:List (List UInt8)}(h1:P.length≤100000000)(h2:P.flatten.length≤100000000):oJoin [.sl 1 ((P.map bs).map strC),.lit (.string (⟨#[]⟩:ByteArray))]=some (.lit (.string (bs P.flatten))):=by
 have e:(P.map bs).map (fun (a:ByteArray)=>a.data.toList)=P:=by
  rw [List.map_map]
  conv=>rhs;rw [←List.map_id P]
  apply List.map_congr_left
  intro x _
  exact bs_data x
 have e2:(⟨#[]⟩:ByteArray).data.toList=[]:=rfl
 simp only [oJoin,strsL_map,e2,e,joinL]
 rw [if_pos ⟨by rw [List.length_map];omega,by omega⟩]
 rfl
def rv(L:List ByteArray)(i:Nat):List ByteArray:=(List.range L.length).map fun t=>if t<i∨L.length≤t+i then L.getD (L.length-1-t) ByteArray.empty else L.getD t ByteArray.empty
theorem rv_len(L:List ByteArray)(i:Nat):(rv L i).length=L.length:=by
 unfold rv
 rw [List.length_map,List.length_range]
theorem rv_get{L:List ByteArray}{i t:Nat}(ht:t<L.length):(rv L i)[t]?=some (if t<i∨L.length≤t+i then L.getD (L.length-1-t) ByteArray.empty else L.getD t ByteArray.empty):=by
 unfold rv
 rw [List.getElem?_map,List.getElem?_range ht]
 rfl
theorem rv_zero(L:List ByteArray):rv L 0=L:=by
 apply List.ext_getElem?
 intro t
 rcases Nat.lt_or_ge t L.length with ht|ht
 ·rw [rv_get ht,if_neg (by omega),List.getD_eq_getElem?_getD,List.getElem?_eq_getElem ht];rfl
 ·rw [List.getElem?_eq_none (by rw [rv_len];exact ht),List.getElem?_eq_none ht]
theorem rv_full{L:List ByteArray}{i:Nat}(h:L.length≤2*i+1):rv L i=L.reverse:=by
 apply List.ext_getElem?
 intro t
 rcases Nat.lt_or_ge t L.length with ht|ht
 ·have e:L.reverse[t]?=some (L.getD (L.length-1-t) ByteArray.empty):=by
   rw [List.getElem?_reverse ht,List.getD_eq_getElem?_getD,List.getElem?_eq_getElem (show L.length-1-t<L.length by omega)];rfl
  rw [rv_get ht,e]
  split
  ·rfl
  ·rename_i h1
   have:L.length-1-t=t:=by omega
   rw [this]
 ·rw [List.getElem?_eq_none (by rw [rv_len];exact ht),List.getElem?_eq_none (by rw [List.length_reverse];exact ht)]
theorem rv_step{L:List ByteArray}{i:Nat}(h:i+i+1<L.length):((rv L i).set i (L.getD (L.length-1-i) ByteArray.empty)).set (L.length-1-i) (L.getD i ByteArray.empty)=rv L (i+1):=by
 apply List.ext_getElem?
 intro t
 rcases Nat.lt_or_ge t L.length with ht|ht
 ·rw [rv_get ht]
  by_cases h1:t=L.length-1-i
  ·subst h1
   rw [List.getElem?_set_self (by rw [List.length_set,rv_len];exact ht),if_pos (.inr (by omega))]
   congr 2
   omega
  ·rw [List.getElem?_set_ne (fun e=>h1 e.symm)]
   by_cases h2:t=i
   ·subst h2
    rw [List.getElem?_set_self (by rw [rv_len];exact ht),if_pos (.inl (by omega))]
   ·rw [List.getElem?_set_ne (fun e=>h2 e.symm),rv_get ht]
    by_cases h3:t<i∨L.length≤t+i
    ·rw [if_pos h3,if_pos (by omega)]
    ·rw [if_neg h3,if_neg (by omega)]
 ·rw [List.getElem?_eq_none (by rw [List.length_set,List.length_set,rv_len];exact ht),List.getElem?_eq_none (by rw [rv_len];exact ht)]
theorem srv_c{n:Nat}{L:List ByteArray}(hl:L.length≤100000000):runL n 141 [.own 0 L.length] [.row 9 1 (L.map strC) 0]=some (.tup [],[(0,.row 9 1 (L.reverse.map strC) 0)]):=by
 obtain ⟨b,hL,hI⟩:=loopG_R (O:=tab n) (P:= Tryz.prog) (m:=1) (N:=28) (lives:=livesOf 141) (r:=1) (C:=srv_C1) (exN:=.exit 0) (M:=L.length / 2) (enc:=fun i (_:Unit)=>srv_h1 (rv L i) i ((L.length:Int)-1-(i:Int))) (out:=fun _=>srv_o1a L.reverse)
  (fun i _=>i≤L.length / 2) () (by omega) (by omega) (fun h=>by cases h)
  (fun i _ hi hI=>by
   have e:((L.length:Int)-1-(i:Int)).toNat=L.length-1-i:=by omega
   have h1:(rv L i)[((L.length:Int)-1-(i:Int)).toNat]?=some (L.getD (L.length-1-i) ByteArray.empty):=by
    rw [e,rv_get (by omega),if_neg (by omega)]
   have h2:(rv L i)[i]?=some (L.getD i ByteArray.empty):=by rw [rv_get (by omega),if_neg (by omega)]
   have R:=srv_r1_1 (n:=n) (i_1:=i) (i2_1:=(L.length:Int)-1-(i:Int)) (out_1:=rv L i) (by omega) (by rw [rv_len];omega) (by omega) h1 (by omega) (by rw [rv_len];omega) h2 ⟨by omega,by omega⟩ ⟨by omega,by omega⟩
   rw [e,rv_step (by omega)] at R
   have e2:(L.length:Int)-1-(i:Int)-1=(L.length:Int)-1-((i+1:Nat):Int):=by omega
   rw [e2] at R
   exact ⟨(),R,by omega⟩)
  (fun _ _=>by
   have R:=srv_x1_1 (n:=n) (i_1:=L.length / 2) (i2_1:=(L.length:Int)-1-((L.length / 2:Nat):Int)) (out_1:=rv L (L.length / 2)) (by omega)
   have e:srv_o1a (rv L (L.length / 2))=srv_o1a L.reverse:=by rw [rv_full (by omega)]
   rw [e] at R
   exact R)
 rw [rv_zero] at hL
 have e:(L.length:Int)-1-((0:Nat):Int)=(L.length:Int)-1:=by omega
 rw [e] at hL
 exact srv_f1 ⟨by omega,by omega⟩ hL
theorem ldc_c{n K:Nat}(hK:(lmb K).length≤100000):run (n+5) 117 [natA (lmb K)]=some (.lit (.string (bs (decDigits K)))):=by
 by_cases h0:K=0
 ·subst h0
  have e:bs (decDigits 0)=(⟨#[48]⟩:ByteArray):=by rw [dd_lt (by omega)];rfl
  rw [e]
  exact ldc_f1 (by rw [lmb_zero];rfl)
 have h9:(lmb 1000000000).length≤1000000:=by decide+kernel
 have hbits:K<2 ^ (32*(lmb K).length):=by
  have:=val_lt (lim_lmb K)
  rw [val_lmb] at this
  rwa [Nat.pow_mul]
 have hM:=rnd_le (32*(lmb K).length) K
 have hdd:=dd_bits _ K hbits
 obtain ⟨s,hL,hI⟩:=loopG_R (O:=tab (n+5)) (P:= Tryz.prog) (m:=0) (N:=50) (lives:=livesOf 117) (r:=5) (C:=ldc_C5) (exN:=.exit 0) (M:=rnd (32*(lmb K).length) K) (enc:=fun i (s:Nat × List (List UInt8))=>ldc_h5 (lmb s.1) (lmb 1000000000) (s.2.map bs)) (out:=fun s=>ldc_o5a (s.2.map bs))
  (fun i s=>s.1≤K∧rnd (32*(lmb K).length) s.1+i=rnd (32*(lmb K).length) K∧s.2.length=i∧dd0 s.1++s.2.reverse.flatten=dd0 K) (K,[]) ⟨Nat.le_refl _,rfl,rfl,by simp⟩ (by omega) (fun h=>by cases h)
  (fun i s hi hI=>by
   obtain ⟨k,parts⟩:=s
   obtain ⟨i1,i2,i3,i4⟩:=hI
   dsimp only at i1 i2 i3 i4 ⊢
   have hk0:0<k:=by
    rcases Nat.eq_zero_or_pos k with h|h
    ·subst h;rw [rnd_zero] at i2;omega
    ·exact h
   have hkl:(lmb k).length≤(lmb K).length:=lmb_len_mono i1
   have hp:0<(lmb k).length:=by rw [lmb_pos hk0];simp
   have hlim:k<2 ^ (32*(lmb K).length):=Nat.lt_of_le_of_lt i1 hbits
   have hr:rnd (32*(lmb K).length) k=rnd (32*(lmb K).length) (k / 1000000000)+1:=by
    obtain ⟨f,hf⟩:∃f,32*(lmb K).length=f+1:=⟨32*(lmb K).length-1,by omega⟩
    rw [hf] at hlim ⊢
    rw [rnd,if_neg (by omega)]
    congr 1
    rw [Nat.pow_succ] at hlim
    exact rnd_enough f (f+1) _ (by omega) (by rw [Nat.pow_succ];omega)
   obtain ⟨d1,d2⟩:=dd0_step hk0
   have K2:=k_div (k:=k) (m:=1000000000) (by omega) h9 (by omega)
   have hrm:k % 1000000000<18446744073709551616:=by omega
   have K3:=k_uint hrm
   have K4:=k_fu hrm
   by_cases hq:0<k / 1000000000
   ·rw [if_pos hq] at d1
    have hql:0<(lmb (k / 1000000000)).length:=by rw [lmb_pos hq];simp
    refine ⟨(k / 1000000000,parts++[List.replicate (9-(decDigits (k % 1000000000)).length) 48++decDigits (k % 1000000000)]),?_,Nat.le_trans (Nat.div_le_self _ _) i1,by dsimp only;omega,by simp [i3],?_⟩
    ·have R:=ldc_r5_1 (n:=n) (out_5:=parts.map bs) (by omega) K2 K3 K4 (by omega) ⟨by rw [bs_size];omega,by rw [bs_size];omega⟩ (k_rep d2) (by rw [bs_size,bs_size,List.length_replicate];omega) (bs_app _ _).symm (by rw [List.length_map];omega)
     have e:parts.map bs++[bs (List.replicate (9-(decDigits (k % 1000000000)).length) 48++decDigits (k % 1000000000))]=(parts++[List.replicate (9-(decDigits (k % 1000000000)).length) 48++decDigits (k % 1000000000)]).map bs:=by simp
     rw [e] at R
     exact R
    ·dsimp only
     rw [List.reverse_append,List.reverse_singleton,List.singleton_append,List.flatten_cons,←List.append_assoc,←d1]
     exact i4
   ·rw [if_neg hq] at d1
    have hq0:k / 1000000000=0:=by omega
    refine ⟨(k / 1000000000,parts++[decDigits (k % 1000000000)]),?_,Nat.le_trans (Nat.div_le_self _ _) i1,by dsimp only;omega,by simp [i3],?_⟩
    ·have R:=ldc_r5_2 (n:=n) (out_5:=parts.map bs) (by omega) K2 K3 K4 (by rw [hq0,lmb_zero];simp) (by rw [List.length_map];omega)
     have e:parts.map bs++[bs (decDigits (k % 1000000000))]=(parts++[decDigits (k % 1000000000)]).map bs:=by simp
     rw [e] at R
     exact R
    ·dsimp only
     rw [List.reverse_append,List.reverse_singleton,List.singleton_append,List.flatten_cons,←List.append_assoc,←d1]
     exact i4)
  (fun s hI=>by
   obtain ⟨k,parts⟩:=s
   obtain ⟨i1,i2,i3,i4⟩:=hI
   dsimp only at i1 i2 i3 i4 ⊢
   have hk0:k=0:=by
    rcases Nat.eq_zero_or_pos k with h|h
    ·exact h
    ·exfalso
     have hp:0<32*(lmb K).length:=by
      have hkl:(lmb k).length≤(lmb K).length:=lmb_len_mono i1
      have:0<(lmb k).length:=by rw [lmb_pos h];simp
      omega
     obtain ⟨f,hf⟩:∃f,32*(lmb K).length=f+1:=⟨32*(lmb K).length-1,by omega⟩
     rw [hf,rnd,if_neg (by omega)] at i2
     omega
   subst hk0
   exact ldc_x5_1 (by rw [lmb_zero];simp))
 obtain ⟨k,parts⟩:=s
 obtain ⟨i1,i2,i3,i4⟩:=hI
 dsimp only at i1 i2 i3 i4 hL
 have hk0:k=0:=by
  rcases Nat.eq_zero_or_pos k with h|h
  ·exact h
  ·exfalso
   have hp:0<32*(lmb K).length:=by
    have hkl:(lmb k).length≤(lmb K).length:=lmb_len_mono i1
    have:0<(lmb k).length:=by rw [lmb_pos h];simp
    omega
   obtain ⟨f,hf⟩:∃f,32*(lmb K).length=f+1:=⟨32*(lmb K).length-1,by omega⟩
   rw [hf] at i2
   have e:rnd (f+1) k=rnd f (k / 1000000000)+1:=by rw [rnd,if_neg (by omega)]
   omega
 subst hk0
 have e0:dd0 0=[]:=rfl
 have e1:dd0 K=decDigits K:=if_neg h0
 rw [e0,List.nil_append,e1] at i4
 have V:=srv_c (n:=n+4) (L:=parts.map bs) (by rw [List.length_map];omega)
 have J:=k_join (P:=parts.reverse) (by rw [List.length_reverse];omega) (by rw [i4];omega)
 rw [i4,List.map_reverse] at J
 exact ldc_f2 (by have:0<(lmb K).length:=(by rw [lmb_pos (by omega)];simp);omega) (HR:=by rw [List.length_reverse]) (k_ofu (z:=1000000000) (by omega) (by omega)) hL V J
end
section
variable {n : Nat} {cat : ByteArray} {r2 : ByteArray} {a0 : Rat} {cat2 : ByteArray} {r : ByteArray}
theorem lsz_f1(K1:run (n+5) 117 [natA (rawQ a0).l1]=some (.lit (.string r)))(C2:0<((rawQ a0).l2.length:Int))(K3:run (n+5) 117 [natA (rawQ a0).l2]=some (.lit (.string r2)))(S4:(⟨#[47]⟩:ByteArray).size+r2.size≤9000000000000000000)(D4:cat=(⟨#[47]⟩:ByteArray)++r2)(S5:r.size+cat.size≤9000000000000000000)(D5:cat2=r++cat):
  run (n+6) 92 [ratV a0]=some (.lit (.string cat2)):=by
 have C2_:0<(rawQ a0).l2.length:=by omega
 have S4_q:=cat_q S4 D4
 have S5_q:=cat_q S5 D5
 unfold run fnP
 simp+decide [Tryz.f92,K1,C2_,K3,S4_q,S5_q]
theorem lsz_f2(K1:run (n+5) 117 [natA (rawQ a0).l1]=some (.lit (.string r)))(C2:¬0<((rawQ a0).l2.length:Int)):
  run (n+6) 92 [ratV a0]=some (.lit (.string r)):=by
 have C2_:¬0<(rawQ a0).l2.length:=by omega
 unfold run fnP
 simp+decide [Tryz.f92,K1,C2_]
end
section
open Lib (decDigits)
attribute [local irreducible] run runL loopG exec
def absT(q:Rat):List UInt8:=decDigits q.num.natAbs++if q.den=1 then [] else 47::decDigits q.den
theorem absT_len{q:Rat}(h:H q≤100000):(absT q).length≤7000000:=by
 have bits:∀K:Nat,K<2 ^ (32*(lmb K).length):=fun K=>by
  have:=val_lt (lim_lmb K)
  rw [val_lmb] at this
  rwa [Nat.pow_mul]
 have h1:=dd_bits _ _ (bits q.num.natAbs)
 have h2:=dd_bits _ _ (bits q.den)
 have a1:(lmb q.num.natAbs).length≤H q:=Nat.le_max_left _ _
 have a2:(lmb q.den).length≤H q:=Nat.le_max_right _ _
 unfold absT
 rw [List.length_append]
 split
 ·simp;omega
 ·simp;omega
theorem rawQ_parts(q:Rat):(rawQ q).l1=lmb q.num.natAbs∧(rawQ q).l2=(if q.den=1 then [] else lmb q.den)∧(rawQ q).s=decide (q.num<0):=⟨rfl,rfl,rfl⟩
theorem den_pos(q:Rat):0<(lmb q.den).length:=by rw [lmb_pos q.den_pos];simp
theorem lsz_c{n:Nat}{q:Rat}(hq:H q≤100000):run (n+6) 92 [ratV q]=some (.lit (.string (bs (absT q)))):=by
 have a1:(lmb q.num.natAbs).length≤H q:=Nat.le_max_left _ _
 have a2:(lmb q.den).length≤H q:=Nat.le_max_right _ _
 have ht:=absT_len hq
 have K1:=ldc_c (n:=n) (K:=q.num.natAbs) (by omega)
 by_cases h:q.den=1
 ·have e:absT q=decDigits q.num.natAbs:=by unfold absT;rw [if_pos h,List.append_nil]
  rw [e]
  exact lsz_f2 K1 (by rw [(rawQ_parts q).2.1,if_pos h];simp)
 ·have e:bs (absT q)=bs (decDigits q.num.natAbs)++((⟨#[47]⟩:ByteArray)++bs (decDigits q.den)):=by
   unfold absT
   rw [if_neg h]
   have e2:(⟨#[47]⟩:ByteArray)=bs [47]:=rfl
   rw [e2,bs_app,bs_app];rfl
  have el:(rawQ q).l2=lmb q.den:=by rw [(rawQ_parts q).2.1,if_neg h]
  have K3:=ldc_c (n:=n) (K:=q.den) (by omega)
  rw [←el] at K3
  have hd:=den_pos q
  unfold absT at ht
  rw [if_neg h,List.length_append,List.length_cons] at ht
  have s1:(⟨#[47]⟩:ByteArray).size+(bs (decDigits q.den)).size≤9000000000000000000:=by rw [bs_size];show 1+_≤_;omega
  have s2:(bs (decDigits q.num.natAbs)).size+((⟨#[47]⟩:ByteArray)++bs (decDigits q.den)).size≤9000000000000000000:=by
   have e2:(⟨#[47]⟩:ByteArray)=bs [47]:=rfl
   rw [e2,bs_app,bs_size,bs_size];simp;omega
  exact lsz_f1 K1 (by rw [el];omega) K3 s1 rfl s2 e
def jn(a:List UInt8)(neg:Bool)(p:List UInt8):List UInt8:=if a=[] then (if neg=true then 45::p else p) else a++((if neg=true then [32,45,32] else [32,43,32])++p)
theorem jn_len(a:List UInt8)(neg:Bool)(p:List UInt8):(jn a neg p).length≤a.length+p.length+3:=by
 unfold jn
 split
 ·split
  ·rw [List.length_cons];omega
  ·omega
 ·rw [List.length_append,List.length_append]
  split <;>simp <;>omega
end
end Go.Proofs.YtefdjbknmfeooaaGreatDoor
