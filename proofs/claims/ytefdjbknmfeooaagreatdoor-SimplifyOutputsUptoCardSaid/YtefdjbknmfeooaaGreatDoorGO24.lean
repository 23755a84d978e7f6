import Derived.Test.YtefdjbknmfeooaaGreatDoorGO23
import Derived.Test.YtefdjbknmfeooaaGreatDoorGO22
import Derived.Test.YtefdjbknmfeooaaGreatDoorGO20
import Derived.Test.YtefdjbknmfeooaaGreatDoorGO19
import Derived.Test.YtefdjbknmfeooaaGreatDoorGO16
import Derived.Test.YtefdjbknmfeooaaGreatDoorGO17
set_option linter.all false
set_option maxHeartbeats 6400000
set_option maxRecDepth 100000
namespace Go.Proofs.YtefdjbknmfeooaaGreatDoor
open Go.RowKit
noncomputable def vlR_C2:Code:=(loopsOf (bodyOf Tryz.f44)).getD 0 .skip
def vlR_h2(a0:List FormR)(a1:Int)(i_2:Nat):St:=
 ⟨[(0,.sl 4 (a0.map formRC)),(1,.lit (.int .i64 a1)),(5,.lit (.int .i64 (i_2:Int)))],
  [],0⟩
def vlR_o2a:St:=
 ⟨[(4,.lit (.bool false))],
  [],0⟩
def vlR_o2b:St:=
 ⟨[(4,.any)],
  [],0⟩
section
variable{n:Nat}{a1:Int}{i_2:Nat}{F3:List (Int × Raw)}{r5:Raw}{r6:Bool}{a0:List FormR}
section
variable(C1:(i_2:Int)<(a0.length:Int))(E2:a0[i_2]?=some (F3,r5))(K3:run n 43 [.agg [.sl 4 (F3.map termRC),.lit (.bool r5.s),natA r5.l1,natA r5.l2],.lit (.int .i64 a1)]=some (.lit (.bool r6)))
include C1 E2 K3
theorem vlR_r2_1(C4:r6=true)(W5:InI ((i_2:Int)+1)):
  Cont 0 (exec Tryz.prog (tab (n+1)) 0 19 (livesOf 44) big vlR_C2) (livesOf 44 2) (vlR_h2 a0 a1 i_2) (vlR_h2 a0 a1 (i_2+1)):=by
 have C1_:i_2<a0.length:=by omega
 obtain ⟨EL2,EG2⟩:=List.getElem?_eq_some_iff.1 E2
 have W5_:IntKind.i64.wrap ((i_2:Int)+1)=(i_2:Int)+1:=wr64 W5.1 W5.2
 unfold Cont
 simp+decide [vlR_h2,loopsOf, Tryz.f44,vlR_C2,C1,C1_,EL2,EG2,E2,K3,C4,W5_]
theorem vlR_x2_1(C4:r6=false):
  Leave 0 (exec Tryz.prog (tab (n+1)) 0 19 (livesOf 44) big vlR_C2) (livesOf 44 (outOf 2)) (vlR_h2 a0 a1 i_2) (.ret) (vlR_o2a):=by
 have C1_:i_2<a0.length:=by omega
 obtain ⟨EL2,EG2⟩:=List.getElem?_eq_some_iff.1 E2
 unfold Leave
 simp+decide [vlR_h2,loopsOf, Tryz.f44,vlR_o2a,vlR_C2,C1,C1_,EL2,EG2,E2,K3,C4]
end
theorem vlR_x2_2(C1:¬(i_2:Int)<(a0.length:Int)):
  Leave 0 (exec Tryz.prog (tab (n+1)) 0 19 (livesOf 44) big vlR_C2) (livesOf 44 (outOf 2)) (vlR_h2 a0 a1 i_2) (.exit 0) (vlR_o2b):=by
 have C1_:¬i_2<a0.length:=by omega
 unfold Leave
 simp+decide [vlR_h2,loopsOf, Tryz.f44,vlR_o2b,vlR_C2,C1,C1_]
theorem vlR_f1(L1:loopG Tryz.prog (tab (n+1)) 0 19 (livesOf 44) 2 vlR_C2 (vlR_h2 a0 a1 0)=some (.ret,vlR_o2a)):
  run (n+1) 44 [.sl 4 (a0.map formRC),.lit (.int .i64 a1)]=some (.lit (.bool false)):=by
 unfold run fnP
 simp+decide [Tryz.f44]
 rw [loopX_G (C':=vlR_C2) (e:=(vlR_h2 a0 a1 0)) ?_ ?_,L1]
 rotate_left
 ·kernel_rfl
 ·simp+decide [vlR_h2]
 simp+decide [vlR_o2a]
theorem vlR_f2(L1:loopG Tryz.prog (tab (n+1)) 0 19 (livesOf 44) 2 vlR_C2 (vlR_h2 a0 a1 0)=some (.exit 0,vlR_o2b)):
  run (n+1) 44 [.sl 4 (a0.map formRC),.lit (.int .i64 a1)]=some (.lit (.bool true)):=by
 unfold run fnP
 simp+decide [Tryz.f44]
 rw [loopX_G (C':=vlR_C2) (e:=(vlR_h2 a0 a1 0)) ?_ ?_,L1]
 rotate_left
 ·kernel_rfl
 ·simp+decide [vlR_h2]
 simp+decide [vlR_o2b]
end
noncomputable def vgR_C4:Code:=(loopsOf (bodyOf Tryz.f21)).getD 0 .skip
def vgR_h4(a0:TGraphR)(i_4:Nat):St:=
 ⟨[(1,.ptr 0 0),(3,.lit (.int .i64 (i_4:Int)))],
  [(0,some (.box 24 [.lit (.int .i64 (a0.Inputs)),.sl 4 (a0.Units.map formRC),.sl 4 (a0.Outputs.map formRC)] false))],1⟩
def vgR_o4a(a0:TGraphR):St:=
 ⟨[(1,.ptr 0 0),(2,.lit (.bool false))],
  [(0,some (.box 24 [.lit (.int .i64 (a0.Inputs)),.sl 4 (a0.Units.map formRC),.sl 4 (a0.Outputs.map formRC)] false))],1⟩
def vgR_o4b(a0:TGraphR):St:=
 ⟨[(1,.ptr 0 0),(2,.any)],
  [(0,some (.box 24 [.lit (.int .i64 (a0.Inputs)),.sl 4 (a0.Units.map formRC),.sl 4 (a0.Outputs.map formRC)] false))],1⟩
section
variable{n:Nat}{i_4:Nat}{F3:List (Int × Raw)}{r5:Raw}{r6:Bool}{a0:TGraphR}{r7:Bool}
section
variable(C1:(i_4:Int)<(a0.Units.length:Int))(E2:a0.Units[i_4]?=some (F3,r5))(W3:InI (a0.Inputs+(i_4:Int)))(K4:run (n+1) 43 [.agg [.sl 4 (F3.map termRC),.lit (.bool r5.s),natA r5.l1,natA r5.l2],.lit (.int .i64 (a0.Inputs+(i_4:Int)))]=some (.lit (.bool r6)))
include C1 E2 W3 K4
theorem vgR_r4_1(C5:r6=true)(W6:InI ((i_4:Int)+1)):
  Cont 0 (exec Tryz.prog (tab (n+2)) 0 57 (livesOf 21) big vgR_C4) (livesOf 21 4) (vgR_h4 a0 i_4) (vgR_h4 a0 (i_4+1)):=by
 have C1_:i_4<a0.Units.length:=by omega
 obtain ⟨EL2,EG2⟩:=List.getElem?_eq_some_iff.1 E2
 have W3_:IntKind.i64.wrap (a0.Inputs+(i_4:Int))=a0.Inputs+(i_4:Int):=wr64 W3.1 W3.2
 have W6_:IntKind.i64.wrap ((i_4:Int)+1)=(i_4:Int)+1:=wr64 W6.1 W6.2
 unfold Cont
 simp+decide [vgR_h4,loopsOf, Tryz.f21,vgR_C4,C1,C1_,EL2,EG2,E2,W3_,K4,C5,W6_]
theorem vgR_x4_1(C5:r6=false):
  Leave 0 (exec Tryz.prog (tab (n+2)) 0 57 (livesOf 21) big vgR_C4) (livesOf 21 (outOf 4)) (vgR_h4 a0 i_4) (.ret) (vgR_o4a a0):=by
 have C1_:i_4<a0.Units.length:=by omega
 obtain ⟨EL2,EG2⟩:=List.getElem?_eq_some_iff.1 E2
 have W3_:IntKind.i64.wrap (a0.Inputs+(i_4:Int))=a0.Inputs+(i_4:Int):=wr64 W3.1 W3.2
 unfold Leave
 simp+decide [vgR_h4,loopsOf, Tryz.f21,vgR_o4a,vgR_C4,C1,C1_,EL2,EG2,E2,W3_,K4,C5]
end
theorem vgR_x4_2(C1:¬(i_4:Int)<(a0.Units.length:Int)):
  Leave 0 (exec Tryz.prog (tab (n+2)) 0 57 (livesOf 21) big vgR_C4) (livesOf 21 (outOf 4)) (vgR_h4 a0 i_4) (.exit 0) (vgR_o4b a0):=by
 have C1_:¬i_4<a0.Units.length:=by omega
 unfold Leave
 simp+decide [vgR_h4,loopsOf, Tryz.f21,vgR_o4b,vgR_C4,C1,C1_]
theorem vgR_f1(C1:a0.Inputs<1):
  run (n+2) 21 [graphRV a0]=some (.lit (.bool false)):=by
 unfold run fnP
 simp+decide [Tryz.f21,C1]
section
variable(C1:¬a0.Inputs<1)
include C1
theorem vgR_f2(C2:256<a0.Inputs):
  run (n+2) 21 [graphRV a0]=some (.lit (.bool false)):=by
 unfold run fnP
 simp+decide [Tryz.f21,C1,C2]
theorem vgR_f3(C2:¬256<a0.Inputs)(C3:1024<(a0.Units.length:Int)):
  run (n+2) 21 [graphRV a0]=some (.lit (.bool false)):=by
 have C3_:1024<a0.Units.length:=by omega
 unfold run fnP
 simp+decide [Tryz.f21,C1,C2,C3,C3_]
section
variable(C2:¬256<a0.Inputs)(C3:¬1024<(a0.Units.length:Int))
include C2 C3
theorem vgR_f4(C4:(a0.Outputs.length:Int)<1):
  run (n+2) 21 [graphRV a0]=some (.lit (.bool false)):=by
 have C3_:¬1024<a0.Units.length:=by omega
 have C4_:a0.Outputs.length<1:=by omega
 unfold run fnP
 simp+decide [Tryz.f21,C1,C2,C3,C3_,C4,C4_]
theorem vgR_f5(C4:¬(a0.Outputs.length:Int)<1)(C5:256<(a0.Outputs.length:Int)):
  run (n+2) 21 [graphRV a0]=some (.lit (.bool false)):=by
 have C3_:¬1024<a0.Units.length:=by omega
 have C4_:¬a0.Outputs.length<1:=by omega
 have C5_:256<a0.Outputs.length:=by omega
 unfold run fnP
 simp+decide [Tryz.f21,C1,C2,C3,C3_,C4,C4_,C5,C5_]
theorem vgR_f6(C4:¬(a0.Outputs.length:Int)<1)(C5:¬256<(a0.Outputs.length:Int))(L6:loopG Tryz.prog (tab (n+2)) 0 57 (livesOf 21) 4 vgR_C4 (vgR_h4 a0 0)=some (.ret,vgR_o4a a0)):
  run (n+2) 21 [graphRV a0]=some (.lit (.bool false)):=by
 have C3_:¬1024<a0.Units.length:=by omega
 have C4_:¬a0.Outputs.length<1:=by omega
 have C5_:¬256<a0.Outputs.length:=by omega
 unfold run fnP
 simp+decide [Tryz.f21,C1,C2,C3,C3_,C4,C4_,C5,C5_]
 rw [loopX_G (C':=vgR_C4) (e:=(vgR_h4 a0 0)) ?_ ?_,L6]
 rotate_left
 ·kernel_rfl
 ·simp+decide [vgR_h4,C1,C2,C3,C3_,C4,C4_,C5,C5_]
 simp+decide [vgR_o4a,C1,C2,C3,C3_,C4,C4_,C5,C5_]
theorem vgR_f7(C4:¬(a0.Outputs.length:Int)<1)(C5:¬256<(a0.Outputs.length:Int))(L6:loopG Tryz.prog (tab (n+2)) 0 57 (livesOf 21) 4 vgR_C4 (vgR_h4 a0 0)=some (.exit 0,vgR_o4b a0))(W7:InI (a0.Inputs+(a0.Units.length:Int)))(K8:run (n+1) 44 [.sl 4 (a0.Outputs.map formRC),.lit (.int .i64 (a0.Inputs+(a0.Units.length:Int)))]=some (.lit (.bool r7))):
  run (n+2) 21 [graphRV a0]=some (.lit (.bool r7)):=by
 have C3_:¬1024<a0.Units.length:=by omega
 have C4_:¬a0.Outputs.length<1:=by omega
 have C5_:¬256<a0.Outputs.length:=by omega
 have W7_:IntKind.i64.wrap (a0.Inputs+(a0.Units.length:Int))=a0.Inputs+(a0.Units.length:Int):=wr64 W7.1 W7.2
 unfold run fnP
 simp+decide [Tryz.f21,C1,C2,C3,C3_,C4,C4_,C5,C5_,W7_,K8]
 rw [loopX_G (C':=vgR_C4) (e:=(vgR_h4 a0 0)) ?_ ?_,L6]
 rotate_left
 ·kernel_rfl
 ·simp+decide [vgR_h4,C1,C2,C3,C3_,C4,C4_,C5,C5_,W7_,K8]
 simp+decide [vgR_o4b,C1,C2,C3,C3_,C4,C4_,C5,C5_,W7_,K8]
end
end
end
theorem gvcR_f1{n:Nat}{a0:FormR}{c0:Int}{r:Bool}(K1:run n 83 [.agg [.sl 4 (a0.1.map termRC),.lit (.bool a0.2.s),natA a0.2.l1,natA a0.2.l2],.lit (.int .i64 c0)]=some (.lit (.bool r))):
  run (n+1) 114 [.agg [.sl 4 (a0.1.map termRC),.lit (.bool a0.2.s),natA a0.2.l1,natA a0.2.l2],.mem [.lit (.int .i64 c0)]]=some (.lit (.bool (!r))):=by
 unfold run fnP
 simp+decide [Tryz.f114,K1]
noncomputable def ifgR_C2:Code:=(loopsOf (bodyOf Tryz.f135)).getD 0 .skip
def ifgR_h2(a0:List FormR)(c0:Int)(i_2:Nat):St:=
 ⟨[(0,.sl 4 (a0.map formRC)),(1,.clo 114 [.mem [.lit (.int .i64 c0)]]),(7,.lit (.int .i64 (a0.length:Int))),(8,.lit (.int .i64 (i_2:Int)))],
  [],0⟩
def ifgR_o2a(i_2:Nat):St:=
 ⟨[(4,.lit (.int .i64 (i_2:Int)))],
  [],0⟩
def ifgR_o2b:St:=
 ⟨[(4,.any)],
  [],0⟩
section
variable{n:Nat}{c0:Int}{i_2:Nat}{F3:List (Int × Raw)}{r5:Raw}{r6:Bool}{a0:List FormR}
section
variable(C1:(i_2:Int)<(a0.length:Int))(E2:a0[i_2]?=some (F3,r5))(K3:run (n+1) 114 [.agg [.sl 4 (F3.map termRC),.lit (.bool r5.s),natA r5.l1,natA r5.l2],.mem [.lit (.int .i64 c0)]]=some (.lit (.bool r6)))
include C1 E2 K3
theorem ifgR_r2_1(C4:r6=false)(W5:InI ((i_2:Int)+1)):
  Cont 0 (exec Tryz.prog (tab (n+2)) 0 19 (livesOf 135) big ifgR_C2) (livesOf 135 2) (ifgR_h2 a0 c0 i_2) (ifgR_h2 a0 c0 (i_2+1)):=by
 have C1_:i_2<a0.length:=by omega
 obtain ⟨EL2,EG2⟩:=List.getElem?_eq_some_iff.1 E2
 have W5_:IntKind.i64.wrap ((i_2:Int)+1)=(i_2:Int)+1:=wr64 W5.1 W5.2
 unfold Cont
 simp+decide [ifgR_h2,loopsOf, Tryz.f135,ifgR_C2,C1,C1_,EL2,EG2,E2,K3,C4,W5_]
theorem ifgR_x2_1(C4:r6=true):
  Leave 0 (exec Tryz.prog (tab (n+2)) 0 19 (livesOf 135) big ifgR_C2) (livesOf 135 (outOf 2)) (ifgR_h2 a0 c0 i_2) (.ret) (ifgR_o2a i_2):=by
 have C1_:i_2<a0.length:=by omega
 obtain ⟨EL2,EG2⟩:=List.getElem?_eq_some_iff.1 E2
 unfold Leave
 simp+decide [ifgR_h2,loopsOf, Tryz.f135,ifgR_o2a,ifgR_C2,C1,C1_,EL2,EG2,E2,K3,C4]
end
theorem ifgR_x2_2(C1:¬(i_2:Int)<(a0.length:Int)):
  Leave 0 (exec Tryz.prog (tab (n+2)) 0 19 (livesOf 135) big ifgR_C2) (livesOf 135 (outOf 2)) (ifgR_h2 a0 c0 i_2) (.exit 0) (ifgR_o2b):=by
 have C1_:¬i_2<a0.length:=by omega
 unfold Leave
 simp+decide [ifgR_h2,loopsOf, Tryz.f135,ifgR_o2b,ifgR_C2,C1,C1_]
theorem ifgR_f1(L1:loopG Tryz.prog (tab (n+2)) 0 19 (livesOf 135) 2 ifgR_C2 (ifgR_h2 a0 c0 0)=some (.ret,ifgR_o2a i_2)):
  run (n+2) 135 [.sl 4 (a0.map formRC),.clo 114 [.mem [.lit (.int .i64 c0)]]]=some (.lit (.int .i64 (i_2:Int))):=by
 unfold run fnP
 simp+decide [Tryz.f135]
 rw [loopX_G (C':=ifgR_C2) (e:=(ifgR_h2 a0 c0 0)) ?_ ?_,L1]
 rotate_left
 ·kernel_rfl
 ·simp+decide [ifgR_h2]
 simp+decide [ifgR_o2a]
theorem ifgR_f2(L1:loopG Tryz.prog (tab (n+2)) 0 19 (livesOf 135) 2 ifgR_C2 (ifgR_h2 a0 c0 0)=some (.exit 0,ifgR_o2b)):
  run (n+2) 135 [.sl 4 (a0.map formRC),.clo 114 [.mem [.lit (.int .i64 c0)]]]=some (.lit (.int .i64 (-1))):=by
 unfold run fnP
 simp+decide [Tryz.f135]
 rw [loopX_G (C':=ifgR_C2) (e:=(ifgR_h2 a0 c0 0)) ?_ ?_,L1]
 rotate_left
 ·kernel_rfl
 ·simp+decide [ifgR_h2]
 simp+decide [ifgR_o2b]
end
theorem cfgR_f1{n:Nat}{a0:List FormR}{c0:Int}{r:Int}(K1:run (n+2) 135 [.sl 4 (a0.map formRC),.clo 114 [.mem [.lit (.int .i64 c0)]]]=some (.lit (.int .i64 r))):
  run (n+3) 113 [.sl 4 (a0.map formRC),.clo 114 [.mem [.lit (.int .i64 c0)]]]=some (.lit (.bool (decide (0≤r)))):=by
 unfold run fnP
 simp+decide [Tryz.f113,K1]
theorem gvaR_f1{n:Nat}{a0:List FormR}{a1:Int}{r:Bool}(K1:run (n+3) 113 [.sl 4 (a0.map formRC),.clo 114 [.mem [.lit (.int .i64 a1)]]]=some (.lit (.bool r))):
  run (n+4) 84 [.sl 4 (a0.map formRC),.lit (.int .i64 a1)]=some (.lit (.bool (!r))):=by
 unfold run fnP
 simp+decide [Tryz.f84,K1]
noncomputable def gVR_C4:Code:=(loopsOf (bodyOf Tryz.f56)).getD 0 .skip
def gVR_h4(a0:TGraphR)(i_4:Nat):St:=
 ⟨[(1,.ptr 0 0),(32,.sl 4 (a0.Units.map formRC)),(33,.lit (.int .i64 (a0.Units.length:Int))),(34,.lit (.int .i64 (i_4:Int)))],
  [(0,some (.box 24 [.lit (.int .i64 (a0.Inputs)),.sl 4 (a0.Units.map formRC),.sl 4 (a0.Outputs.map formRC)] false))],1⟩
def gVR_o4a(a0:TGraphR):St:=
 ⟨[(1,.ptr 0 0),(2,.lit (.bool false))],
  [(0,some (.box 24 [.lit (.int .i64 (a0.Inputs)),.sl 4 (a0.Units.map formRC),.sl 4 (a0.Outputs.map formRC)] false))],1⟩
def gVR_o4b(a0:TGraphR):St:=
 ⟨[(1,.ptr 0 0),(2,.any)],
  [(0,some (.box 24 [.lit (.int .i64 (a0.Inputs)),.sl 4 (a0.Units.map formRC),.sl 4 (a0.Outputs.map formRC)] false))],1⟩
section
variable{n:Nat}{i_4:Nat}{F3:List (Int × Raw)}{r5:Raw}{r6:Bool}{a0:TGraphR}{r7:Bool}
section
variable(C1:(i_4:Int)<(a0.Units.length:Int))(E2:a0.Units[i_4]?=some (F3,r5))(W3:InI (a0.Inputs+(i_4:Int)))(K4:run (n+4) 83 [.agg [.sl 4 (F3.map termRC),.lit (.bool r5.s),natA r5.l1,natA r5.l2],.lit (.int .i64 (a0.Inputs+(i_4:Int)))]=some (.lit (.bool r6)))
include C1 E2 W3 K4
theorem gVR_r4_1(C5:r6=true)(W6:InI ((i_4:Int)+1)):
  Cont 0 (exec Tryz.prog (tab (n+5)) 0 56 (livesOf 56) big gVR_C4) (livesOf 56 4) (gVR_h4 a0 i_4) (gVR_h4 a0 (i_4+1)):=by
 have C1_:i_4<a0.Units.length:=by omega
 obtain ⟨EL2,EG2⟩:=List.getElem?_eq_some_iff.1 E2
 have W3_:IntKind.i64.wrap (a0.Inputs+(i_4:Int))=a0.Inputs+(i_4:Int):=wr64 W3.1 W3.2
 have W6_:IntKind.i64.wrap ((i_4:Int)+1)=(i_4:Int)+1:=wr64 W6.1 W6.2
 unfold Cont
 simp+decide [gVR_h4,loopsOf, Tryz.f56,gVR_C4,C1,C1_,EL2,EG2,E2,W3_,K4,C5,W6_]
theorem gVR_x4_1(C5:r6=false):
  Leave 0 (exec Tryz.prog (tab (n+5)) 0 56 (livesOf 56) big gVR_C4) (livesOf 56 (outOf 4)) (gVR_h4 a0 i_4) (.ret) (gVR_o4a a0):=by
 have C1_:i_4<a0.Units.length:=by omega
 obtain ⟨EL2,EG2⟩:=List.getElem?_eq_some_iff.1 E2
 have W3_:IntKind.i64.wrap (a0.Inputs+(i_4:Int))=a0.Inputs+(i_4:Int):=wr64 W3.1 W3.2
 unfold Leave
 simp+decide [gVR_h4,loopsOf, Tryz.f56,gVR_o4a,gVR_C4,C1,C1_,EL2,EG2,E2,W3_,K4,C5]
end
theorem gVR_x4_2(C1:¬(i_4:Int)<(a0.Units.length:Int)):
  Leave 0 (exec Tryz.prog (tab (n+5)) 0 56 (livesOf 56) big gVR_C4) (livesOf 56 (outOf 4)) (gVR_h4 a0 i_4) (.exit 0) (gVR_o4b a0):=by
 have C1_:¬i_4<a0.Units.length:=by omega
 unfold Leave
 simp+decide [gVR_h4,loopsOf, Tryz.f56,gVR_o4b,gVR_C4,C1,C1_]
theorem gVR_f1(C1:a0.Inputs<1):
  run (n+5) 56 [graphRV a0]=some (.lit (.bool false)):=by
 unfold run fnP
 simp+decide [Tryz.f56,C1]
section
variable(C1:¬a0.Inputs<1)
include C1
theorem gVR_f2(C2:256<a0.Inputs):
  run (n+5) 56 [graphRV a0]=some (.lit (.bool false)):=by
 unfold run fnP
 simp+decide [Tryz.f56,C1,C2]
theorem gVR_f3(C2:¬256<a0.Inputs)(C3:1024<(a0.Units.length:Int)):
  run (n+5) 56 [graphRV a0]=some (.lit (.bool false)):=by
 have C3_:1024<a0.Units.length:=by omega
 unfold run fnP
 simp+decide [Tryz.f56,C1,C2,C3,C3_]
section
variable(C2:¬256<a0.Inputs)(C3:¬1024<(a0.Units.length:Int))
include C2 C3
theorem gVR_f4(C4:(a0.Outputs.length:Int)<1):
  run (n+5) 56 [graphRV a0]=some (.lit (.bool false)):=by
 have C3_:¬1024<a0.Units.length:=by omega
 have C4_:a0.Outputs.length<1:=by omega
 unfold run fnP
 simp+decide [Tryz.f56,C1,C2,C3,C3_,C4,C4_]
theorem gVR_f5(C4:¬(a0.Outputs.length:Int)<1)(C5:256<(a0.Outputs.length:Int)):
  run (n+5) 56 [graphRV a0]=some (.lit (.bool false)):=by
 have C3_:¬1024<a0.Units.length:=by omega
 have C4_:¬a0.Outputs.length<1:=by omega
 have C5_:256<a0.Outputs.length:=by omega
 unfold run fnP
 simp+decide [Tryz.f56,C1,C2,C3,C3_,C4,C4_,C5,C5_]
theorem gVR_f6(C4:¬(a0.Outputs.length:Int)<1)(C5:¬256<(a0.Outputs.length:Int))(L6:loopG Tryz.prog (tab (n+5)) 0 56 (livesOf 56) 4 gVR_C4 (gVR_h4 a0 0)=some (.ret,gVR_o4a a0)):
  run (n+5) 56 [graphRV a0]=some (.lit (.bool false)):=by
 have C3_:¬1024<a0.Units.length:=by omega
 have C4_:¬a0.Outputs.length<1:=by omega
 have C5_:¬256<a0.Outputs.length:=by omega
 unfold run fnP
 simp+decide [Tryz.f56,C1,C2,C3,C3_,C4,C4_,C5,C5_]
 rw [loopX_G (C':=gVR_C4) (e:=(gVR_h4 a0 0)) ?_ ?_,L6]
 rotate_left
 ·kernel_rfl
 ·simp+decide [gVR_h4,C1,C2,C3,C3_,C4,C4_,C5,C5_]
 simp+decide [gVR_o4a,C1,C2,C3,C3_,C4,C4_,C5,C5_]
theorem gVR_f7(C4:¬(a0.Outputs.length:Int)<1)(C5:¬256<(a0.Outputs.length:Int))(L6:loopG Tryz.prog (tab (n+5)) 0 56 (livesOf 56) 4 gVR_C4 (gVR_h4 a0 0)=some (.exit 0,gVR_o4b a0))(W7:InI (a0.Inputs+(a0.Units.length:Int)))(K8:run (n+4) 84 [.sl 4 (a0.Outputs.map formRC),.lit (.int .i64 (a0.Inputs+(a0.Units.length:Int)))]=some (.lit (.bool r7))):
  run (n+5) 56 [graphRV a0]=some (.lit (.bool r7)):=by
 have C3_:¬1024<a0.Units.length:=by omega
 have C4_:¬a0.Outputs.length<1:=by omega
 have C5_:¬256<a0.Outputs.length:=by omega
 have W7_:IntKind.i64.wrap (a0.Inputs+(a0.Units.length:Int))=a0.Inputs+(a0.Units.length:Int):=wr64 W7.1 W7.2
 unfold run fnP
 simp+decide [Tryz.f56,C1,C2,C3,C3_,C4,C4_,C5,C5_,W7_,K8]
 rw [loopX_G (C':=gVR_C4) (e:=(gVR_h4 a0 0)) ?_ ?_,L6]
 rotate_left
 ·kernel_rfl
 ·simp+decide [gVR_h4,C1,C2,C3,C3_,C4,C4_,C5,C5_,W7_,K8]
 simp+decide [gVR_o4b,C1,C2,C3,C3_,C4,C4_,C5,C5_,W7_,K8]
end
end
end
section
attribute [local irreducible] run runL loopG exec
def Few7(l:List (Int × Raw))(c:Raw):Prop:=l.length≤20∧Two c∧∀t∈l,Two t.2
def BdR7(f:FormR):Prop:=LimF f∧Few7 f.1 f.2
theorem small_form7{f:FormR}{vars:Int}(hf:Few7 f.1 f.2)(ho:OkFR f vars):frV f=formV (unR f)∧(unR f).1.length=f.1.length∧(∀t∈(unR f).1,H t.2≤2)∧H (unR f).2≤2∧OkFm (unR f) vars:=
 small_formB (by omega) (fun t ht=>hf.2.2 t ht) hf.2.1 ho
structure OkGrR7 (g:TGraphR):Prop where
 i0:1≤g.Inputs
 i1:g.Inputs≤256
 u:(g.Units.length:Int)≤1024
 o0:1≤(g.Outputs.length:Int)
 o1:(g.Outputs.length:Int)≤256
 un:∀i,i<g.Units.length→∀f,g.Units[i]?=some f→OkFR f (g.Inputs+(i:Int))
 ou:∀f∈g.Outputs,OkFR f (g.Inputs+(g.Units.length:Int))
structure BdGR7 (g:TGraphR):Prop where
 lu:g.Units.length≤100000000
 lo:g.Outputs.length≤100000000
 u:∀f∈g.Units,BdR7 f
 o:∀f∈g.Outputs,BdR7 f
theorem validR1_c7{n:Nat}{f:FormR}{vars:Int}(hB:BdR7 f):run n 43 [frV f,.lit (.int .i64 vars)]=some (.lit (.bool (tv (OkFR f vars)))):=validRB_c (by have:=hB.2.1;omega) (fun t ht=>(hB.2.2.2 t ht).rb (hB.1.t t ht)) (hB.2.2.1.rb hB.1.k)
theorem validFsR_c7{n:Nat}{L:List FormR}{vars:Int}(hl:L.length≤100000000)(hB:∀f∈L,BdR7 f):run (n+1) 44 [.sl 4 (L.map formRC),.lit (.int .i64 vars)]=some (.lit (.bool (tv (∀f∈L,OkFR f vars)))):=by
 have hG:=loopG_all (O:=tab (n+1)) (P:= Tryz.prog) (m:=0) (N:=19) (lives:=livesOf 44) (r:=2) (C:=vlR_C2) (M:=L.length) (enc:=vlR_h2 L vars) (p:=fun i=>tv (∀f,L[i]?=some f→OkFR f vars)) (exN:=.exit 0) (exE:=.ret) (out:=vlR_o2b) (outE:=vlR_o2a) (by omega) (by simp) (by simp)
  (fun i hi hI=>by
   have hx:L[i]?=some L[i]:=List.getElem?_eq_getElem hi
   generalize L[i]=f at hx
   have C1:(i:Int)<(L.length:Int):=by omega
   have W:InI ((i:Int)+1):=⟨by omega,by omega⟩
   have K:=validR1_c7 (n:=n) (vars:=vars) (hB f (List.mem_of_getElem? hx))
   have e:tv (∀g,L[i]?=some g→OkFR g vars)=tv (OkFR f vars):=tv_iff ⟨fun h=>h f hx,fun h g hg=>by rw [hx] at hg;cases hg;exact h⟩
   rw [e]
   exact ⟨fun hp=>vlR_r2_1 C1 hx K hp W,fun hp=>vlR_x2_1 C1 hx K hp⟩)
  (vlR_x2_2 (by omega))
 by_cases h:∀f∈L,OkFR f vars
 ·rw [if_pos (fun i hi=>tv_t (all_idx.2 h i hi))] at hG
  rw [tv_t h]
  exact vlR_f2 hG
 ·rw [if_neg (fun h2=>h (all_idx.1 fun i hi=>tv_true (h2 i hi)))] at hG
  rw [tv_f h]
  exact vlR_f1 hG
theorem validGR_c7{n:Nat}{g:TGraphR}(hB:BdGR7 g):run (n+2) 21 [graphRV g]=some (.lit (.bool (tv (OkGrR7 g)))):=by
 have hlu:=hB.lu
 have hlo:=hB.lo
 by_cases c1:g.Inputs<1
 ·rw [tv_f (fun h=>by have:=h.i0;omega)];exact vgR_f1 c1
 by_cases c2:256<g.Inputs
 ·rw [tv_f (fun h=>by have:=h.i1;omega)];exact vgR_f2 c1 c2
 by_cases c3:1024<(g.Units.length:Int)
 ·rw [tv_f (fun h=>by have:=h.u;omega)];exact vgR_f3 c1 c2 c3
 by_cases c4:(g.Outputs.length:Int)<1
 ·rw [tv_f (fun h=>by have:=h.o0;omega)];exact vgR_f4 c1 c2 c3 c4
 by_cases c5:256<(g.Outputs.length:Int)
 ·rw [tv_f (fun h=>by have:=h.o1;omega)];exact vgR_f5 c1 c2 c3 c4 c5
 have hG:=loopG_all (O:=tab (n+2)) (P:= Tryz.prog) (m:=0) (N:=57) (lives:=livesOf 21) (r:=4) (C:=vgR_C4) (M:=g.Units.length) (enc:=vgR_h4 g) (p:=fun i=>tv (∀f,g.Units[i]?=some f→OkFR f (g.Inputs+(i:Int)))) (exN:=.exit 0) (exE:=.ret) (out:=vgR_o4b g) (outE:=vgR_o4a g) (by omega) (by simp) (by simp)
  (fun i hi hI=>by
   have hx:g.Units[i]?=some g.Units[i]:=List.getElem?_eq_getElem hi
   generalize g.Units[i]=f at hx
   have C1:(i:Int)<(g.Units.length:Int):=by omega
   have W:InI ((i:Int)+1):=⟨by omega,by omega⟩
   have W2:InI (g.Inputs+(i:Int)):=⟨by omega,by omega⟩
   have K:=validR1_c7 (n:=n+1) (vars:=g.Inputs+(i:Int)) (hB.u f (List.mem_of_getElem? hx))
   have e:tv (∀f,g.Units[i]?=some f→OkFR f (g.Inputs+(i:Int)))=tv (OkFR f (g.Inputs+(i:Int))):=tv_iff ⟨fun h=>h f hx,fun h g hg=>by rw [hx] at hg;cases hg;exact h⟩
   rw [e]
   exact ⟨fun hp=>vgR_r4_1 C1 hx W2 K hp W,fun hp=>vgR_x4_1 C1 hx W2 K hp⟩)
  (vgR_x4_2 (by omega))
 by_cases h:∀i,i<g.Units.length→∀f,g.Units[i]?=some f→OkFR f (g.Inputs+(i:Int))
 ·rw [if_pos (fun i hi=>tv_t (h i hi))] at hG
  have K:=validFsR_c7 (n:=n) (vars:=g.Inputs+(g.Units.length:Int)) hlo hB.o
  have e:tv (OkGrR7 g)=tv (∀f∈g.Outputs,OkFR f (g.Inputs+(g.Units.length:Int))):=tv_iff ⟨fun k=>k.ou,fun k=>⟨by omega,by omega,by omega,by omega,by omega,h,k⟩⟩
  rw [e]
  exact vgR_f7 c1 c2 c3 c4 c5 hG ⟨by omega,by omega⟩ K
 ·rw [if_neg (fun h2=>h fun i hi=>tv_true (h2 i hi))] at hG
  rw [tv_f (fun k=>h k.un)]
  exact vgR_f6 c1 c2 c3 c4 c5 hG
theorem lvalidR_c7{n:Nat}{f:FormR}{vars:Int}(hB:BdR7 f):run n 83 [frV f,.lit (.int .i64 vars)]=some (.lit (.bool (tv (OkFR f vars)))):=lvalidRB_c (by have:=hB.2.1;omega) (fun t ht=>(hB.2.2.2 t ht).rb (hB.1.t t ht)) (hB.2.2.1.rb hB.1.k)
theorem gvcR_c7{n:Nat}{f:FormR}{vars:Int}(hB:BdR7 f):run (n+1) 114 [frV f,.mem [.lit (.int .i64 vars)]]=some (.lit (.bool (!tv (OkFR f vars)))):=gvcR_f1 (lvalidR_c7 (n:=n) hB)
theorem ifgR_c7{n:Nat}{L:List FormR}{vars:Int}(hl:L.length≤100000000)(hB:∀f∈L,BdR7 f):∃r:Int,run (n+2) 135 [.sl 4 (L.map formRC),.clo 114 [.mem [.lit (.int .i64 vars)]]]=some (.lit (.int .i64 r))∧(0≤r↔¬∀f∈L,OkFR f vars):=by
 obtain ⟨ex,t,h1,h2⟩:=loopG_Q (β:=Unit) (P:= Tryz.prog) (O:=tab (n+2)) (m:=0) (N:=19) (lives:=livesOf 135) (r:=2) (C:=ifgR_C2) (M:=L.length) (enc:=fun i _=>ifgR_h2 L vars i)
  (fun i _=>∀j f,j<i→L[j]?=some f→OkFR f vars) (fun ex t=>(ex=.exit 0∧t=ifgR_o2b∧∀f∈L,OkFR f vars)∨(ex=.ret∧∃i:Nat,t=ifgR_o2a i∧¬∀f∈L,OkFR f vars)) () (fun j f hj=>by omega) (by omega)
  (fun i b hi hI=>by
   have hx:L[i]?=some L[i]:=List.getElem?_eq_getElem hi
   generalize L[i]=f at hx
   have K:=gvcR_c7 (n:=n) (vars:=vars) (hB f (List.mem_of_getElem? hx))
   by_cases h:OkFR f vars
   ·rw [tv_t h] at K
    refine .inl ⟨(),ifgR_r2_1 (by omega) hx K rfl ⟨by omega,by omega⟩,fun j g hj hg=>?_⟩
    rcases Nat.lt_succ_iff_lt_or_eq.1 hj with h2|rfl
    ·exact hI j g h2 hg
    ·rw [hx] at hg;cases hg;exact h
   ·rw [tv_f h] at K
    exact .inr ⟨_,_,by simp,ifgR_x2_1 (by omega) hx K rfl,.inr ⟨rfl,i,rfl,fun h2=>h (h2 f (List.mem_of_getElem? hx))⟩⟩)
  (fun b hI=>⟨_,_,by simp,ifgR_x2_2 (by omega),.inl ⟨rfl,rfl,fun f hf=>by
   obtain ⟨j,hj⟩:=List.mem_iff_getElem?.1 hf
   exact hI j f (List.getElem?_eq_some_iff.1 hj).1 hj⟩⟩)
 rcases h2 with ⟨rfl,rfl,h3⟩|⟨rfl,i,rfl,h3⟩
 ·exact ⟨-1,ifgR_f2 h1,fun h=>by omega,fun h=>absurd h3 h⟩
 ·exact ⟨(i:Int),ifgR_f1 h1,fun _=>h3,fun _=>by omega⟩
theorem gvsR_c7{n:Nat}{L:List FormR}{vars:Int}(hl:L.length≤100000000)(hB:∀f∈L,BdR7 f):run (n+4) 84 [.sl 4 (L.map formRC),.lit (.int .i64 vars)]=some (.lit (.bool (tv (∀f∈L,OkFR f vars)))):=by
 obtain ⟨r,h1,h2⟩:=ifgR_c7 (n:=n) (vars:=vars) hl hB
 have h3:=gvaR_f1 (n:=n) (cfgR_f1 (n:=n) h1)
 rw [h3]
 by_cases h:∀f∈L,OkFR f vars
 ·rw [tv_t h,decide_eq_false (fun h4=>(h2.1 h4) h)];rfl
 ·rw [tv_f h,decide_eq_true (h2.2 h)];rfl
theorem gvalidR_c7{n:Nat}{g:TGraphR}(hB:BdGR7 g):run (n+5) 56 [graphRV g]=some (.lit (.bool (tv (OkGrR7 g)))):=by
 have hlu:=hB.lu
 have hlo:=hB.lo
 by_cases c1:g.Inputs<1
 ·rw [tv_f (fun h=>by have:=h.i0;omega)];exact gVR_f1 c1
 by_cases c2:256<g.Inputs
 ·rw [tv_f (fun h=>by have:=h.i1;omega)];exact gVR_f2 c1 c2
 by_cases c3:1024<(g.Units.length:Int)
 ·rw [tv_f (fun h=>by have:=h.u;omega)];exact gVR_f3 c1 c2 c3
 by_cases c4:(g.Outputs.length:Int)<1
 ·rw [tv_f (fun h=>by have:=h.o0;omega)];exact gVR_f4 c1 c2 c3 c4
 by_cases c5:256<(g.Outputs.length:Int)
 ·rw [tv_f (fun h=>by have:=h.o1;omega)];exact gVR_f5 c1 c2 c3 c4 c5
 have hG:=loopG_all (O:=tab (n+5)) (P:= Tryz.prog) (m:=0) (N:=56) (lives:=livesOf 56) (r:=4) (C:=gVR_C4) (M:=g.Units.length) (enc:=gVR_h4 g) (p:=fun i=>tv (∀f,g.Units[i]?=some f→OkFR f (g.Inputs+(i:Int)))) (exN:=.exit 0) (exE:=.ret) (out:=gVR_o4b g) (outE:=gVR_o4a g) (by omega) (by simp) (by simp)
  (fun i hi hI=>by
   have hx:g.Units[i]?=some g.Units[i]:=List.getElem?_eq_getElem hi
   generalize g.Units[i]=f at hx
   have C1:(i:Int)<(g.Units.length:Int):=by omega
   have W:InI ((i:Int)+1):=⟨by omega,by omega⟩
   have W2:InI (g.Inputs+(i:Int)):=⟨by omega,by omega⟩
   have K:=lvalidR_c7 (n:=n+4) (vars:=g.Inputs+(i:Int)) (hB.u f (List.mem_of_getElem? hx))
   have e:tv (∀f,g.Units[i]?=some f→OkFR f (g.Inputs+(i:Int)))=tv (OkFR f (g.Inputs+(i:Int))):=tv_iff ⟨fun h=>h f hx,fun h g hg=>by rw [hx] at hg;cases hg;exact h⟩
   rw [e]
   exact ⟨fun hp=>gVR_r4_1 C1 hx W2 K hp W,fun hp=>gVR_x4_1 C1 hx W2 K hp⟩)
  (gVR_x4_2 (by omega))
 by_cases h:∀i,i<g.Units.length→∀f,g.Units[i]?=some f→OkFR f (g.Inputs+(i:Int))
 ·rw [if_pos (fun i hi=>tv_t (h i hi))] at hG
  have K:=gvsR_c7 (n:=n) (vars:=g.Inputs+(g.Units.length:Int)) hlo hB.o
  have e:tv (OkGrR7 g)=tv (∀f∈g.Outputs,OkFR f (g.Inputs+(g.Units.length:Int))):=tv_iff ⟨fun k=>k.ou,fun k=>⟨by omega,by omega,by omega,by omega,by omega,h,k⟩⟩
  rw [e]
  exact gVR_f7 c1 c2 c3 c4 c5 hG ⟨by omega,by omega⟩ K
 ·rw [if_neg (fun h2=>h fun i hi=>tv_true (h2 i hi))] at hG
  rw [tv_f (fun k=>h k.un)]
  exact gVR_f6 c1 c2 c3 c4 c5 hG
def unG7(g:TGraphR):TGraph:=⟨g.Inputs,g.Units.map unR,g.Outputs.map unR⟩
theorem map_un7{L:List FormR}(h:∀f∈L,frV f=formV (unR f)):L.map formRC=(L.map unR).map formC:=by
 rw [List.map_map]
 apply List.map_congr_left
 intro f hf
 have e:AV.agg (formRC f)=AV.agg (formC (unR f)):=h f hf
 exact AV.agg.inj e
theorem graph_un7{g:TGraphR}(hB:BdGR7 g)(hO:OkGrR7 g):graphRV g=graphV (unG7 g)∧OkGr (unG7 g)∧BdG 2 (unG7 g)∧(∀f∈(unG7 g).Units,f.1.length≤20)∧∀f∈(unG7 g).Outputs,f.1.length≤20:=by
 have hu:∀f∈g.Units,∃v,OkFR f v:=fun f hf=>by
  obtain ⟨i,hi⟩:=List.mem_iff_getElem?.1 hf
  exact ⟨_,hO.un i (List.getElem?_eq_some_iff.1 hi).1 f hi⟩
 have ho:∀f∈g.Outputs,∃v,OkFR f v:=fun f hf=>⟨_,hO.ou f hf⟩
 have eu:=map_un7 (L:=g.Units) fun f hf=>by
  obtain ⟨v,hv⟩:=hu f hf
  exact (small_form7 (hB.u f hf).2 hv).1
 have eo:=map_un7 (L:=g.Outputs) fun f hf=>by
  obtain ⟨v,hv⟩:=ho f hf
  exact (small_form7 (hB.o f hf).2 hv).1
 have bd:∀L:List FormR,(∀f∈L,BdR7 f)→(∀f∈L,∃v,OkFR f v)→∀f∈L.map unR,BdF 2 f∧f.1.length≤20:=fun L h1 h2 f hf=>by
  obtain ⟨f0,h0,rfl⟩:=List.mem_map.1 hf
  obtain ⟨v,hv⟩:=h2 f0 h0
  obtain ⟨_,s2,s3,s4,_⟩:=small_form7 (h1 f0 h0).2 hv
  have:=(h1 f0 h0).2.1
  exact ⟨⟨by omega,s3,s4⟩,by omega⟩
 have bu:=bd g.Units hB.u hu
 have bo:=bd g.Outputs hB.o ho
 have lu:=hB.lu
 have lo:=hB.lo
 refine ⟨by simp only [graphRV,graphV,unG7,eu,eo],⟨hO.i0,hO.i1,?_,?_,?_,fun i hi f hf=>?_,fun f hf=>?_⟩,⟨?_,?_,fun f hf=>(bu f hf).1,fun f hf=>(bo f hf).1⟩,fun f hf=>(bu f hf).2,fun f hf=>(bo f hf).2⟩
 ·show ((g.Units.map unR).length:Int)≤1024
  rw [List.length_map];exact hO.u
 ·show 1≤((g.Outputs.map unR).length:Int)
  rw [List.length_map];exact hO.o0
 ·show ((g.Outputs.map unR).length:Int)≤256
  rw [List.length_map];exact hO.o1
 ·replace hf:(g.Units.map unR)[i]?=some f:=hf
  rw [List.getElem?_map] at hf
  obtain ⟨f0,h0,rfl⟩:=Option.map_eq_some_iff.1 hf
  exact (small_form7 (hB.u f0 (List.mem_of_getElem? h0)).2 (hO.un i (List.getElem?_eq_some_iff.1 h0).1 f0 h0)).2.2.2.2
 ·obtain ⟨f0,h0,rfl⟩:=List.mem_map.1 (show f∈g.Outputs.map unR from hf)
  have e:((unG7 g).Units.length:Int)=(g.Units.length:Int):=by show ((g.Units.map unR).length:Int)=_;rw [List.length_map]
  rw [e]
  exact (small_form7 (hB.o f0 h0).2 (hO.ou f0 h0)).2.2.2.2
 ·show (g.Units.map unR).length≤_
  rw [List.length_map];exact lu
 ·show (g.Outputs.map unR).length≤_
  rw [List.length_map];exact lo
end
theorem cpdR_f1{n:Nat}{a0:TGraphR}{r:Bool}(K1:run (n+5) 56 [graphRV a0]=some (.lit (.bool r)))(C2:r=false):
  run (n+6) 36 [graphRV a0]=some (.agg [.lit (.int .i64 0),.sl 4 [],.sl 4 []]):=by
 simp only [graphV,graphRV] at K1
 unfold run fnP
 simp+decide [Tryz.f36,K1,C2]
theorem xCoR_f1{n:Nat}{a0:TGraphR}{r:TGraph}{r2:TGraph}(K1:run (n+6) 36 [graphRV a0]=some (graphV r))(K2:run (n+6) 35 [graphV r]=some (graphV r2)):
  run (n+7) 13 [graphRV a0]=some (graphV r2):=by
 simp only [graphV,graphRV] at K1
 simp only [graphV,graphRV] at K2
 unfold run fnP
 simp+decide [Tryz.f13,K1,K2]
theorem xDuR_f1{n:Nat}{a0:TGraphR}{r:TGraph}{r2:TGraph}(K1:run (n+8) 36 [graphRV a0]=some (graphV r))(K2:run (n+8) 40 [graphV r]=some (graphV r2)):
  run (n+9) 17 [graphRV a0]=some (graphV r2):=by
 simp only [graphV,graphRV] at K1
 simp only [graphV,graphRV] at K2
 unfold run fnP
 simp+decide [Tryz.f17,K1,K2]
theorem xDeR_f1{n:Nat}{a0:TGraphR}{r:TGraph}{r2:TGraph}(K1:run (n+6) 36 [graphRV a0]=some (graphV r))(K2:run (n+6) 41 [graphV r]=some (graphV r2)):
  run (n+7) 19 [graphRV a0]=some (graphV r2):=by
 simp only [graphV,graphRV] at K1
 simp only [graphV,graphRV] at K2
 unfold run fnP
 simp+decide [Tryz.f19,K1,K2]
theorem xSiR_f1{n:Nat}{a0:TGraphR}{r:TGraph}{r2:TGraph}(K1:run (n+9) 36 [graphRV a0]=some (graphV r))(K2:run (n+9) 39 [graphV r,.sl 1 [[.clo 35 []],[.clo 40 []],[.clo 41 []]]]=some (graphV r2)):
  run (n+10) 15 [graphRV a0]=some (graphV r2):=by
 simp only [graphV,graphRV] at K1
 simp only [graphV,graphRV] at K2
 unfold run fnP
 simp+decide [Tryz.f15,K1,K2]
theorem rCoR_f1{n:Nat}{a0:TGraphR}{r:Bool}(K1:run (n+4) 21 [graphRV a0]=some (.lit (.bool r)))(C2:r=false):
  run (n+5) 14 [graphRV a0]=some (.agg [.lit (.int .i64 0),.sl 4 [],.sl 4 []]):=by
 simp only [graphV,graphRV] at K1
 unfold run fnP
 simp+decide [Tryz.f14,K1,C2]
theorem rDuR_f1{n:Nat}{a0:TGraphR}{r:Bool}(K1:run (n+4) 21 [graphRV a0]=some (.lit (.bool r)))(C2:r=false):
  run (n+5) 18 [graphRV a0]=some (.agg [.lit (.int .i64 0),.sl 4 [],.sl 4 []]):=by
 simp only [graphV,graphRV] at K1
 unfold run fnP
 simp+decide [Tryz.f18,K1,C2]
theorem rDeR_f1{n:Nat}{a0:TGraphR}{r:Bool}(K1:run (n+4) 21 [graphRV a0]=some (.lit (.bool r)))(C2:r=false):
  run (n+5) 20 [graphRV a0]=some (.agg [.lit (.int .i64 0),.sl 4 [],.sl 4 []]):=by
 simp only [graphV,graphRV] at K1
 unfold run fnP
 simp+decide [Tryz.f20,K1,C2]
def rSiR_h1(i_1:Int)(l_1:List FormR)(l2_1:List FormR):St:=
 ⟨[(1,.ptr 0 0),(2,.ptr 1 0)],
  [(0,some (.box 24 [.lit (.int .i64 i_1),.sl 4 (l_1.map formRC),.sl 4 (l2_1.map formRC)] false)),
   (1,some (.box 24 [.lit (.int .i64 0),.nl 4,.nl 4] false))],2⟩
section
variable {n : Nat} {r7 : TGraph} {i_1 : Int} {r8 : TGraph} {l_1 : List FormR} {r9 : TGraph} {l2_1 : List FormR} {a0 : TGraphR}
section
variable(K1:run (n+5) 14 [.agg [.lit (.int .i64 i_1),.sl 4 (l_1.map formRC),.sl 4 (l2_1.map formRC)]]=some (graphV r7))(K2:run (n+5) 18 [graphV r7]=some (graphV r8))(K3:run (n+5) 20 [graphV r8]=some (graphV r9))
include K1 K2 K3
theorem rSiR_r1_1(C4:¬(r9.Units.length:Int)=(l_1.length:Int)):
  Cont 0 (exec Tryz.prog (tab (n+6)) 0 17 (livesOf 16) big rSi_C1) (livesOf 16 1) (rSiR_h1 i_1 l_1 l2_1) (rSi_h1 r9.Inputs r9.Units r9.Outputs):=by
 simp only [graphV] at K1
 simp only [graphV] at K2
 simp only [graphV] at K3
 have C4_:((r9.Units.length:Int)==(l_1.length:Int))=false:=by simpa using C4
 have C4_n:((r9.Units.length:Int) !=(l_1.length:Int))=true:=by simpa using C4
 apply Cont_m
 simp+decide [rSi_h1,rSiR_h1,loopsOf, Tryz.f16,rSi_C1,K1,K2,K3,C4_,C4_n]
theorem rSiR_x1_1(C4:(r9.Units.length:Int)=(l_1.length:Int)):
  Leave 0 (exec Tryz.prog (tab (n+6)) 0 17 (livesOf 16) big rSi_C1) (livesOf 16 (outOf 1)) (rSiR_h1 i_1 l_1 l2_1) (.ret) (rSi_o1a r9):=by
 simp only [graphV] at K1
 simp only [graphV] at K2
 simp only [graphV] at K3
 have C4_:((r9.Units.length:Int)==(l_1.length:Int))=true:=by rw [C4];simp
 have C4_n:((r9.Units.length:Int) !=(l_1.length:Int))=false:=by rw [C4];simp
 apply Leave_m
 simp+decide [rSi_h1,rSiR_h1,loopsOf, Tryz.f16,rSi_o1a,rSi_C1,K1,K2,K3,C4_,C4_n]
end
theorem rSiR_f1(L1:loopG Tryz.prog (tab (n+6)) 0 17 (livesOf 16) 1 rSi_C1 (rSiR_h1 a0.Inputs a0.Units a0.Outputs)=some (.ret,rSi_o1a r9)):
  run (n+6) 16 [graphRV a0]=some (graphV r9):=by
 unfold run fnP
 simp+decide [Tryz.f16]
 rw [loopX_G (C':=rSi_C1) (e:=(rSiR_h1 a0.Inputs a0.Units a0.Outputs)) ?_ ?_,L1]
 rotate_left
 ·kernel_rfl
 ·simp+decide [rSiR_h1]
 simp+decide [rSi_o1a]
end
noncomputable def sho_C2:Code:=(loopsOf (bodyOf Tryz.f33)).getD 0 .skip
noncomputable def sho_C7:Code:=(loopsOf sho_C2).getD 0 .skip
def sho_h7(a0:List FormR)(i_2:Nat)(i_7:Nat):St:=
 ⟨[(0,.sl 4 (a0.map formRC)),(3,.lit (.int .i64 (i_2:Int))),(4,.lit (.int .i64 (i_7:Int)))],
  [],0⟩
def sho_h2(a0:List FormR)(i_2:Nat):St:=
 ⟨[(0,.sl 4 (a0.map formRC)),(3,.lit (.int .i64 (i_2:Int)))],
  [],0⟩
def sho_o7a(a0:List FormR)(i_2:Nat):St:=
 ⟨[(0,.sl 4 (a0.map formRC)),(2,.lit (.bool false)),(3,.lit (.int .i64 (i_2:Int)))],
  [],0⟩
def sho_o7b(a0:List FormR)(i_2:Nat):St:=
 ⟨[(0,.sl 4 (a0.map formRC)),(2,.any),(3,.lit (.int .i64 (i_2:Int)))],
  [],0⟩
def sho_o2a:St:=
 ⟨[(2,.lit (.bool false))],
  [],0⟩
def sho_o2b:St:=
 ⟨[(2,.any)],
  [],0⟩
section
variable{n:Nat}{F12:List (Int × Raw)}{v9:Int}{i_2:Nat}{i_7:Nat}{r20:Raw}{r21:Raw}{a0:List FormR}{r15:Raw}{F9:List (Int × Raw)}
theorem sho_r7_1(E1:a0[i_2]?=some (F12,r20))(C2:(i_7:Int)<(F12.length:Int))(E3:F12[i_7]?=some (v9,r21))(C4:¬2<(r21.l1.length:Int))(C5:¬1<(r21.l2.length:Int))(W6:InI ((i_7:Int)+1)):
  Cont 0 (exec Tryz.prog (tab n) 0 74 (livesOf 33) big sho_C7) (livesOf 33 7) (sho_h7 a0 i_2 i_7) (sho_h7 a0 i_2 (i_7+1)):=by
 obtain ⟨EL1,EG1⟩:=List.getElem?_eq_some_iff.1 E1
 have C2_:i_7<F12.length:=by omega
 obtain ⟨EL3,EG3⟩:=List.getElem?_eq_some_iff.1 E3
 have C4_:¬2<r21.l1.length:=by omega
 have C5_:¬1<r21.l2.length:=by omega
 have W6_:IntKind.i64.wrap ((i_7:Int)+1)=(i_7:Int)+1:=wr64 W6.1 W6.2
 apply Cont_m
 simp+decide [sho_h7,loopsOf, Tryz.f33,sho_C2,sho_C7,EL1,EG1,E1,C2,C2_,EL3,EG3,E3,C4,C4_,C5,C5_,W6_]
theorem sho_x7_1(E1:a0[i_2]?=some (F12,r20))(C2:(i_7:Int)<(F12.length:Int))(E3:F12[i_7]?=some (v9,r21))(C4:2<(r21.l1.length:Int)):
  Leave 0 (exec Tryz.prog (tab n) 0 74 (livesOf 33) big sho_C7) (livesOf 33 (outOf 7)) (sho_h7 a0 i_2 i_7) (.ret) (sho_o7a a0 i_2):=by
 obtain ⟨EL1,EG1⟩:=List.getElem?_eq_some_iff.1 E1
 have C2_:i_7<F12.length:=by omega
 obtain ⟨EL3,EG3⟩:=List.getElem?_eq_some_iff.1 E3
 have C4_:2<r21.l1.length:=by omega
 apply Leave_m
 simp+decide [sho_h7,loopsOf, Tryz.f33,sho_o7a,sho_C2,sho_C7,EL1,EG1,E1,C2,C2_,EL3,EG3,E3,C4,C4_]
theorem sho_x7_2(E1:a0[i_2]?=some (F12,r20))(C2:(i_7:Int)<(F12.length:Int))(E3:F12[i_7]?=some (v9,r21))(C4:¬2<(r21.l1.length:Int))(C5:1<(r21.l2.length:Int)):
  Leave 0 (exec Tryz.prog (tab n) 0 74 (livesOf 33) big sho_C7) (livesOf 33 (outOf 7)) (sho_h7 a0 i_2 i_7) (.ret) (sho_o7a a0 i_2):=by
 obtain ⟨EL1,EG1⟩:=List.getElem?_eq_some_iff.1 E1
 have C2_:i_7<F12.length:=by omega
 obtain ⟨EL3,EG3⟩:=List.getElem?_eq_some_iff.1 E3
 have C4_:¬2<r21.l1.length:=by omega
 have C5_:1<r21.l2.length:=by omega
 apply Leave_m
 simp+decide [sho_h7,loopsOf, Tryz.f33,sho_o7a,sho_C2,sho_C7,EL1,EG1,E1,C2,C2_,EL3,EG3,E3,C4,C4_,C5,C5_]
theorem sho_x7_3(E1:a0[i_2]?=some (F12,r20))(C2:¬(i_7:Int)<(F12.length:Int)):
  Leave 0 (exec Tryz.prog (tab n) 0 74 (livesOf 33) big sho_C7) (livesOf 33 (outOf 7)) (sho_h7 a0 i_2 i_7) (.exit 2) (sho_o7b a0 i_2):=by
 obtain ⟨EL1,EG1⟩:=List.getElem?_eq_some_iff.1 E1
 have C2_:¬i_7<F12.length:=by omega
 apply Leave_m
 simp+decide [sho_h7,loopsOf, Tryz.f33,sho_o7b,sho_C2,sho_C7,EL1,EG1,E1,C2,C2_]
section
variable(C1:(i_2:Int)<(a0.length:Int))(E2:a0[i_2]?=some (F9,r15))
include C1 E2
theorem sho_r2_1(C3:¬20<(F9.length:Int))(C4:¬2<(r15.l1.length:Int))(C5:¬1<(r15.l2.length:Int))(L6:loopG Tryz.prog (tab n) 0 74 (livesOf 33) 7 sho_C7 (sho_h7 a0 i_2 0)=some (.exit 2,sho_o7b a0 i_2))(W7:InI ((i_2:Int)+1)):
  Cont 0 (exec Tryz.prog (tab n) 0 74 (livesOf 33) big sho_C2) (livesOf 33 2) (sho_h2 a0 i_2) (sho_h2 a0 (i_2+1)):=by
 have C1_:i_2<a0.length:=by omega
 obtain ⟨EL2,EG2⟩:=List.getElem?_eq_some_iff.1 E2
 have C3_:¬20<F9.length:=by omega
 have C4_:¬2<r15.l1.length:=by omega
 have C5_:¬1<r15.l2.length:=by omega
 have W7_:IntKind.i64.wrap ((i_2:Int)+1)=(i_2:Int)+1:=wr64 W7.1 W7.2
 apply Cont_m
 simp+decide [sho_h2,loopsOf, Tryz.f33,sho_C2,C1,C1_,EL2,EG2,E2,C3,C3_,C4,C4_,C5,C5_,W7_]
 rw [loopX_G (C':=sho_C7) (e:=(sho_h7 a0 i_2 0)) ?_ ?_,L6]
 rotate_left
 ·kernel_rfl
 ·simp+decide [sho_h7,loopsOf, Tryz.f33,sho_C2,C1,C1_,EL2,EG2,E2,C3,C3_,C4,C4_,C5,C5_,W7_]
 simp+decide [sho_o7b,loopsOf, Tryz.f33,sho_C2,C1,C1_,EL2,EG2,E2,C3,C3_,C4,C4_,C5,C5_,W7_]
theorem sho_x2_1(C3:20<(F9.length:Int)):
  Leave 0 (exec Tryz.prog (tab n) 0 74 (livesOf 33) big sho_C2) (livesOf 33 (outOf 2)) (sho_h2 a0 i_2) (.ret) (sho_o2a):=by
 have C1_:i_2<a0.length:=by omega
 obtain ⟨EL2,EG2⟩:=List.getElem?_eq_some_iff.1 E2
 have C3_:20<F9.length:=by omega
 apply Leave_m
 simp+decide [sho_h2,loopsOf, Tryz.f33,sho_o2a,sho_C2,C1,C1_,EL2,EG2,E2,C3,C3_]
theorem sho_x2_2(C3:¬20<(F9.length:Int))(C4:2<(r15.l1.length:Int)):
  Leave 0 (exec Tryz.prog (tab n) 0 74 (livesOf 33) big sho_C2) (livesOf 33 (outOf 2)) (sho_h2 a0 i_2) (.ret) (sho_o2a):=by
 have C1_:i_2<a0.length:=by omega
 obtain ⟨EL2,EG2⟩:=List.getElem?_eq_some_iff.1 E2
 have C3_:¬20<F9.length:=by omega
 have C4_:2<r15.l1.length:=by omega
 apply Leave_m
 simp+decide [sho_h2,loopsOf, Tryz.f33,sho_o2a,sho_C2,C1,C1_,EL2,EG2,E2,C3,C3_,C4,C4_]
theorem sho_x2_3(C3:¬20<(F9.length:Int))(C4:¬2<(r15.l1.length:Int))(C5:1<(r15.l2.length:Int)):
  Leave 0 (exec Tryz.prog (tab n) 0 74 (livesOf 33) big sho_C2) (livesOf 33 (outOf 2)) (sho_h2 a0 i_2) (.ret) (sho_o2a):=by
 have C1_:i_2<a0.length:=by omega
 obtain ⟨EL2,EG2⟩:=List.getElem?_eq_some_iff.1 E2
 have C3_:¬20<F9.length:=by omega
 have C4_:¬2<r15.l1.length:=by omega
 have C5_:1<r15.l2.length:=by omega
 apply Leave_m
 simp+decide [sho_h2,loopsOf, Tryz.f33,sho_o2a,sho_C2,C1,C1_,EL2,EG2,E2,C3,C3_,C4,C4_,C5,C5_]
theorem sho_x2_4(C3:¬20<(F9.length:Int))(C4:¬2<(r15.l1.length:Int))(C5:¬1<(r15.l2.length:Int))(L6:loopG Tryz.prog (tab n) 0 74 (livesOf 33) 7 sho_C7 (sho_h7 a0 i_2 0)=some (.ret,sho_o7a a0 i_2)):
  Leave 0 (exec Tryz.prog (tab n) 0 74 (livesOf 33) big sho_C2) (livesOf 33 (outOf 2)) (sho_h2 a0 i_2) (.ret) (sho_o2a):=by
 have C1_:i_2<a0.length:=by omega
 obtain ⟨EL2,EG2⟩:=List.getElem?_eq_some_iff.1 E2
 have C3_:¬20<F9.length:=by omega
 have C4_:¬2<r15.l1.length:=by omega
 have C5_:¬1<r15.l2.length:=by omega
 apply Leave_m
 simp+decide [sho_h2,loopsOf, Tryz.f33,sho_o2a,sho_C2,C1,C1_,EL2,EG2,E2,C3,C3_,C4,C4_,C5,C5_]
 rw [loopX_G (C':=sho_C7) (e:=(sho_h7 a0 i_2 0)) ?_ ?_,L6]
 rotate_left
 ·kernel_rfl
 ·simp+decide [sho_h7,loopsOf, Tryz.f33,sho_o2a,sho_C2,C1,C1_,EL2,EG2,E2,C3,C3_,C4,C4_,C5,C5_]
 simp+decide [sho_o7a,loopsOf, Tryz.f33,sho_o2a,sho_C2,C1,C1_,EL2,EG2,E2,C3,C3_,C4,C4_,C5,C5_]
end
theorem sho_x2_5(C1:¬(i_2:Int)<(a0.length:Int)):
  Leave 0 (exec Tryz.prog (tab n) 0 74 (livesOf 33) big sho_C2) (livesOf 33 (outOf 2)) (sho_h2 a0 i_2) (.exit 0) (sho_o2b):=by
 have C1_:¬i_2<a0.length:=by omega
 apply Leave_m
 simp+decide [sho_h2,loopsOf, Tryz.f33,sho_o2b,sho_C2,C1,C1_]
theorem sho_f1(L1:loopG Tryz.prog (tab n) 0 74 (livesOf 33) 2 sho_C2 (sho_h2 a0 0)=some (.ret,sho_o2a)):
  run n 33 [.sl 4 (a0.map formRC)]=some (.lit (.bool false)):=by
 unfold run fnP
 simp+decide [Tryz.f33]
 rw [loopX_G (C':=sho_C2) (e:=(sho_h2 a0 0)) ?_ ?_,L1]
 rotate_left
 ·kernel_rfl
 ·simp+decide [sho_h2]
 simp+decide [sho_o2a]
theorem sho_f2(L1:loopG Tryz.prog (tab n) 0 74 (livesOf 33) 2 sho_C2 (sho_h2 a0 0)=some (.exit 0,sho_o2b)):
  run n 33 [.sl 4 (a0.map formRC)]=some (.lit (.bool true)):=by
 unfold run fnP
 simp+decide [Tryz.f33]
 rw [loopX_G (C':=sho_C2) (e:=(sho_h2 a0 0)) ?_ ?_,L1]
 rotate_left
 ·kernel_rfl
 ·simp+decide [sho_h2]
 simp+decide [sho_o2b]
end
section
variable {n : Nat} {a0 : TGraphR} {r2 : Bool} {r : Bool}
theorem fai_f1(C1:8<(a0.Units.length:Int)):
  run (n+1) 11 [graphRV a0]=some (.lit (.bool false)):=by
 have C1_:8<a0.Units.length:=by omega
 unfold run fnP
 simp+decide [Tryz.f11,C1,C1_]
section
variable(C1:¬8<(a0.Units.length:Int))
include C1
theorem fai_f2(C2:8<(a0.Outputs.length:Int)):
  run (n+1) 11 [graphRV a0]=some (.lit (.bool false)):=by
 have C1_:¬8<a0.Units.length:=by omega
 have C2_:8<a0.Outputs.length:=by omega
 unfold run fnP
 simp+decide [Tryz.f11,C1,C1_,C2,C2_]
theorem fai_f3(C2:¬8<(a0.Outputs.length:Int))(C3:8<a0.Inputs):
  run (n+1) 11 [graphRV a0]=some (.lit (.bool false)):=by
 have C1_:¬8<a0.Units.length:=by omega
 have C2_:¬8<a0.Outputs.length:=by omega
 unfold run fnP
 simp+decide [Tryz.f11,C1,C1_,C2,C2_,C3]
section
variable(C2:¬8<(a0.Outputs.length:Int))(C3:¬8<a0.Inputs)(K4:run n 33 [.sl 4 (a0.Units.map formRC)]=some (.lit (.bool r)))
include C2 C3 K4
theorem fai_f4(C5:r=true)(K6:run n 33 [.sl 4 (a0.Outputs.map formRC)]=some (.lit (.bool r2))):
  run (n+1) 11 [graphRV a0]=some (.lit (.bool r2)):=by
 have C1_:¬8<a0.Units.length:=by omega
 have C2_:¬8<a0.Outputs.length:=by omega
 unfold run fnP
 simp+decide [Tryz.f11,C1,C1_,C2,C2_,C3,K4,C5,K6]
theorem fai_f5(C5:r=false):
  run (n+1) 11 [graphRV a0]=some (.lit (.bool false)):=by
 have C1_:¬8<a0.Units.length:=by omega
 have C2_:¬8<a0.Outputs.length:=by omega
 unfold run fnP
 simp+decide [Tryz.f11,C1,C1_,C2,C2_,C3,K4,C5]
end
end
end
section
attribute [local irreducible] run runL loopG exec
def Two1(r:Raw):Prop:=r.l1.length≤2∧r.l2.length≤1
structure FewS (f:FormR):Prop where
 l:f.1.length≤20
 k:Two1 f.2
 t:∀t∈f.1,Two1 t.2
theorem sho7_c{n:Nat}{L:List FormR}{i:Nat}{F:List (Int × Raw)}{r:Raw}(hi:L[i]?=some (F,r))(hl:F.length≤20):
  (loopG Tryz.prog (tab n) 0 74 (livesOf 33) 7 sho_C7 (sho_h7 L i 0)=some (.exit 2,sho_o7b L i)∧∀t∈F,Two1 t.2)∨loopG Tryz.prog (tab n) 0 74 (livesOf 33) 7 sho_C7 (sho_h7 L i 0)=some (.ret,sho_o7a L i):=by
 obtain ⟨ex,t,h1,h2⟩:=loopG_Q (β:=Unit) (P:= Tryz.prog) (O:=tab n) (m:=0) (N:=74) (lives:=livesOf 33) (r:=7) (C:=sho_C7) (M:=F.length) (enc:=fun k _=>sho_h7 L i k) (fun k _=>∀j t,j<k→F[j]?=some t→Two1 t.2) (fun ex t=>(ex=.exit 2∧t=sho_o7b L i∧∀t∈F,Two1 t.2)∨(ex=.ret∧t=sho_o7a L i)) () (fun j t hj=>by omega) (by omega)
  (fun k _ hk hI=>by
   have e1:F[k]?=some F[k]:=List.getElem?_eq_getElem hk
   generalize F[k]=t at e1
   obtain ⟨v,c⟩:=t
   by_cases c1:2<(c.l1.length:Int)
   ·exact .inr ⟨_,_,by simp,sho_x7_1 hi (by omega) e1 c1,.inr ⟨rfl,rfl⟩⟩
   by_cases c2:1<(c.l2.length:Int)
   ·exact .inr ⟨_,_,by simp,sho_x7_2 hi (by omega) e1 c1 c2,.inr ⟨rfl,rfl⟩⟩
   refine .inl ⟨(),sho_r7_1 hi (by omega) e1 c1 c2 ⟨by omega,by omega⟩,fun j t hj ht=>?_⟩
   by_cases e:j=k
   ·rw [e,e1] at ht
    cases ht
    exact ⟨by dsimp only;omega,by dsimp only;omega⟩
   ·exact hI j t (by omega) ht)
  (fun _ hI=>⟨_,_,by simp,sho_x7_3 hi (by omega),.inl ⟨rfl,rfl,fun t ht=>by
   obtain ⟨j,hj⟩:=List.mem_iff_getElem?.1 ht
   exact hI j t (List.getElem?_eq_some_iff.1 hj).1 hj⟩⟩)
 rcases h2 with ⟨rfl,rfl,h3⟩|⟨rfl,rfl⟩
 ·exact .inl ⟨h1,h3⟩
 ·exact .inr h1
theorem short17_c{n:Nat}{L:List FormR}(hl:L.length≤8):∃r:Bool,run n 33 [.sl 4 (L.map formRC)]=some (.lit (.bool r))∧(r=true→∀f∈L,FewS f):=by
 obtain ⟨ex,t,h1,h2⟩:=loopG_Q (β:=Unit) (P:= Tryz.prog) (O:=tab n) (m:=0) (N:=74) (lives:=livesOf 33) (r:=2) (C:=sho_C2) (M:=L.length) (enc:=fun k _=>sho_h2 L k) (fun k _=>∀j f,j<k→L[j]?=some f→FewS f) (fun ex t=>(ex=.exit 0∧t=sho_o2b∧∀f∈L,FewS f)∨(ex=.ret∧t=sho_o2a)) () (fun j t hj=>by omega) (by omega)
  (fun k _ hk hI=>by
   have e1:L[k]?=some L[k]:=List.getElem?_eq_getElem hk
   generalize L[k]=f at e1
   obtain ⟨F,c⟩:=f
   by_cases c0:20<(F.length:Int)
   ·exact .inr ⟨_,_,by simp,sho_x2_1 (by omega) e1 c0,.inr ⟨rfl,rfl⟩⟩
   by_cases c1:2<(c.l1.length:Int)
   ·exact .inr ⟨_,_,by simp,sho_x2_2 (by omega) e1 c0 c1,.inr ⟨rfl,rfl⟩⟩
   by_cases c2:1<(c.l2.length:Int)
   ·exact .inr ⟨_,_,by simp,sho_x2_3 (by omega) e1 c0 c1 c2,.inr ⟨rfl,rfl⟩⟩
   rcases sho7_c (n:=n) e1 (by omega) with ⟨h3,h4⟩|h3
   ·refine .inl ⟨(),sho_r2_1 (by omega) e1 c0 c1 c2 h3 ⟨by omega,by omega⟩,fun j f hj hf=>?_⟩
    by_cases e:j=k
    ·rw [e,e1] at hf
     cases hf
     exact ⟨by dsimp only;omega,⟨by dsimp only;omega,by dsimp only;omega⟩,h4⟩
    ·exact hI j f (by omega) hf
   ·exact .inr ⟨_,_,by simp,sho_x2_4 (by omega) e1 c0 c1 c2 h3,.inr ⟨rfl,rfl⟩⟩)
  (fun _ hI=>⟨_,_,by simp,sho_x2_5 (by omega),.inl ⟨rfl,rfl,fun f hf=>by
   obtain ⟨j,hj⟩:=List.mem_iff_getElem?.1 hf
   exact hI j f (List.getElem?_eq_some_iff.1 hj).1 hj⟩⟩)
 rcases h2 with ⟨rfl,rfl,h3⟩|⟨rfl,rfl⟩
 ·exact ⟨true,sho_f2 h1,fun _=>h3⟩
 ·exact ⟨false,sho_f1 h1,fun h=>by cases h⟩
structure FairG (g:TGraphR):Prop where
 u:g.Units.length≤8
 o:g.Outputs.length≤8
 i:g.Inputs≤8
 us:∀f∈g.Units,FewS f
 os:∀f∈g.Outputs,FewS f
theorem fair_c{n:Nat}{g:TGraphR}:∃r:Bool,run (n+1) 11 [graphRV g]=some (.lit (.bool r))∧(r=true→FairG g):=by
 by_cases c1:8<(g.Units.length:Int)
 ·exact ⟨_,fai_f1 c1,fun h=>by cases h⟩
 by_cases c2:8<(g.Outputs.length:Int)
 ·exact ⟨_,fai_f2 c1 c2,fun h=>by cases h⟩
 by_cases c3:8<g.Inputs
 ·exact ⟨_,fai_f3 c1 c2 c3,fun h=>by cases h⟩
 obtain ⟨r,K,h⟩:=short17_c (n:=n) (L:=g.Units) (by omega)
 obtain ⟨r2,K2,h2⟩:=short17_c (n:=n) (L:=g.Outputs) (by omega)
 cases r with
 | true=>exact ⟨r2,fai_f4 c1 c2 c3 K rfl K2,fun e=>⟨by omega,by omega,by omega,h rfl,h2 e⟩⟩
 | false=>exact ⟨_,fai_f5 c1 c2 c3 K rfl,fun h=>by cases h⟩
structure Lim7 (g:TGraphR):Prop where
 u:∀f∈g.Units,LimF f
 o:∀f∈g.Outputs,LimF f
theorem FewS.few{f:FormR}(h:FewS f):Few7 f.1 f.2:=⟨h.l,⟨h.k.1,by have:=h.k.2;omega⟩,fun t ht=>⟨(h.t t ht).1,by have:=(h.t t ht).2;omega⟩⟩
theorem FairG.bd{g:TGraphR}(h:FairG g)(hl:Lim7 g):BdGR7 g:=⟨by have:=h.u;omega,by have:=h.o;omega,fun f hf=>⟨hl.u f hf,(h.us f hf).few⟩,fun f hf=>⟨hl.o f hf,(h.os f hf).few⟩⟩
theorem okf_sg{f:Form}{k:Nat}(hB:BdF 2 f)(ho:OkFm f (k:Int)):Srt f.1∧InR k f.1∧∀{u:Nat},u≤8→HB (hbd u) f:=by
 obtain ⟨s1,s2⟩:=ho.srt
 refine ⟨s1,s2,fun {u} hu=>?_⟩
 have h2:=hbd_two hu
 exact ⟨fun t ht=>⟨s1.2 t ht,Nat.le_trans (hB.t t ht) h2⟩,Nat.le_trans hB.k h2⟩
theorem fair_sg{g:TGraphR}(h:FairG g)(hl:Lim7 g)(hO:OkGrR7 g):graphRV g=graphV (unG7 g)∧OkGr (unG7 g)∧SG (unG7 g):=by
 obtain ⟨e,ok,bd,_⟩:=graph_un7 (h.bd hl) hO
 have hu:(unG7 g).Units.length=g.Units.length:=List.length_map _
 have ho:(unG7 g).Outputs.length=g.Outputs.length:=List.length_map _
 have u8:=h.u
 have o8:=h.o
 have i0:1≤(unG7 g).Inputs:=ok.i0
 have i8:(unG7 g).Inputs≤8:=h.i
 have us:∀(i:Nat) (f:Form),(unG7 g).Units[i]?=some f→OkFm f (((unG7 g).Inputs.toNat+i:Nat):Int):=fun i f hf=>by
  have:=ok.un i (List.getElem?_eq_some_iff.1 hf).1 f hf
  rwa [show (((unG7 g).Inputs.toNat+i:Nat):Int)=(unG7 g).Inputs+(i:Int) from by omega]
 have os:∀f∈(unG7 g).Outputs,OkFm f (((unG7 g).Inputs.toNat+(unG7 g).Units.length:Nat):Int):=fun f hf=>by
  have:=ok.ou f hf
  rwa [show (((unG7 g).Inputs.toNat+(unG7 g).Units.length:Nat):Int)=(unG7 g).Inputs+((unG7 g).Units.length:Int) from by omega]
 refine ⟨e,ok,by omega,i8,by omega,by omega,fun i f hf=>?_,fun f hf=>?_,fun f hf=>?_,fun f hf=>?_⟩
 ·obtain ⟨a,b,_⟩:=okf_sg (bd.u f (List.mem_of_getElem? hf)) (us i f hf)
  exact ⟨a,b⟩
 ·obtain ⟨a,b,_⟩:=okf_sg (bd.o f hf) (os f hf)
  exact ⟨a,b⟩
 ·obtain ⟨i,hi⟩:=List.mem_iff_getElem?.1 hf
  exact (okf_sg (bd.u f hf) (us i f hi)).2.2 (by omega)
 ·exact (okf_sg (bd.o f hf) (os f hf)).2.2 (by omega)
noncomputable def seeG(g:TGraphR):TGraph:=if tv (OkGrR7 g)=true then unG7 g else zG
theorem seeG_sg{g:TGraphR}(h:FairG g)(hl:Lim7 g):SG (seeG g):=by
 unfold seeG
 by_cases c:OkGrR7 g
 ·rw [if_pos (tv_t c)];exact (fair_sg h hl c).2.2
 ·rw [if_neg (by rw [tv_f c];simp)];exact zG_sg
section
variable{n:Nat}{g:TGraphR}(h:FairG g)(hl:Lim7 g)
include h hl
theorem cpdR_no(c:¬OkGrR7 g):run (n+6) 36 [graphRV g]=some (graphV zG):=by
 have K:=gvalidR_c7 (n:=n) (h.bd hl)
 exact cpdR_f1 K (tv_f c)
theorem conR_c:run (n+7) 13 [graphRV g]=some (graphV (coP (seeG g)))∧run (n+5) 14 [graphRV g]=some (graphV (coP (seeG g))):=by
 have hs:=seeG_sg h hl
 unfold seeG at hs ⊢
 by_cases c:OkGrR7 g
 ·rw [if_pos (tv_t c)] at hs ⊢
  obtain ⟨e,ok,sg⟩:=fair_sg h hl c
  have a:=xCo_c (n:=n) sg.bd (by rw [cpG_ok ok];exact sg)
  have b:=rCo_c (n:=n) sg.bd (by rw [cpG_ok ok];exact sg)
  rw [cpG_ok ok] at a b
  rw [e]
  exact ⟨a,b⟩
 ·rw [if_neg (by rw [tv_f c];simp)]
  exact ⟨xCoR_f1 (cpdR_no h hl c) (constants_c zG_sg),rCoR_f1 (validGR_c7 (n:=n+2) (h.bd hl)) (tv_f c)⟩
theorem dupR_c:run (n+9) 17 [graphRV g]=some (graphV (duP (seeG g)))∧run (n+5) 18 [graphRV g]=some (graphV (duP (seeG g))):=by
 have hs:=seeG_sg h hl
 unfold seeG at hs ⊢
 by_cases c:OkGrR7 g
 ·rw [if_pos (tv_t c)] at hs ⊢
  obtain ⟨e,ok,sg⟩:=fair_sg h hl c
  have a:=xDu_c (n:=n) sg.bd (by rw [cpG_ok ok];exact sg)
  have b:=rDu_c (n:=n) sg.bd (by rw [cpG_ok ok];exact sg)
  rw [cpG_ok ok] at a b
  rw [e]
  exact ⟨a,b⟩
 ·rw [if_neg (by rw [tv_f c];simp)]
  exact ⟨xDuR_f1 (cpdR_no (n:=n+2) h hl c) (duplicates_c zG_sg),rDuR_f1 (validGR_c7 (n:=n+2) (h.bd hl)) (tv_f c)⟩
theorem deaR_c:run (n+7) 19 [graphRV g]=some (graphV (deP (seeG g)))∧run (n+5) 20 [graphRV g]=some (graphV (deP (seeG g))):=by
 have hs:=seeG_sg h hl
 unfold seeG at hs ⊢
 by_cases c:OkGrR7 g
 ·rw [if_pos (tv_t c)] at hs ⊢
  obtain ⟨e,ok,sg⟩:=fair_sg h hl c
  have a:=xDe_c (n:=n) sg.bd (by rw [cpG_ok ok];exact sg)
  have b:=rDe_c (n:=n) sg.bd (by rw [cpG_ok ok];exact sg)
  rw [cpG_ok ok] at a b
  rw [e]
  exact ⟨a,b⟩
 ·rw [if_neg (by rw [tv_f c];simp)]
  exact ⟨xDeR_f1 (cpdR_no h hl c) (dead_c zG_sg),rDeR_f1 (validGR_c7 (n:=n+2) (h.bd hl)) (tv_f c)⟩
theorem simR_c:run (n+10) 15 [graphRV g]=some (graphV (simP (seeG g)))∧run (n+6) 16 [graphRV g]=some (graphV (simP (seeG g))):=by
 have hs:=seeG_sg h hl
 have u8:=h.u
 by_cases c:OkGrR7 g
 ·unfold seeG at hs ⊢
  rw [if_pos (tv_t c)] at hs ⊢
  obtain ⟨e,ok,sg⟩:=fair_sg h hl c
  have a:=xSi_c (n:=n) sg.bd (by rw [cpG_ok ok];exact sg)
  have b:=rSi_c (n:=n) sg.bd (by rw [cpG_ok ok];exact sg) sg.u
  rw [cpG_ok ok] at a b
  rw [e]
  exact ⟨a,b⟩
 ·have es:seeG g=zG:=by unfold seeG;rw [if_neg (by rw [tv_f c];simp)]
  rw [es]
  refine ⟨xSiR_f1 (cpdR_no (n:=n+3) h hl c) (all_c zG_sg),?_⟩
  rw [zG_sim]
  have K1:=(conR_c (n:=n) h hl).2
  rw [es,zG_co] at K1
  have Z:=round_c (n:=n) zG_sg.bd (by rw [cpG_no zG_no];exact zG_sg)
  rw [cpG_no zG_no,zG_s] at Z
  obtain ⟨y2,z2,K4,K5,K6⟩:=Z
  have K2:=rDu_c (n:=n) zG_sg.bd (by rw [cpG_no zG_no];exact zG_sg)
  have K3:=rDe_c (n:=n) zG_sg.bd (by rw [cpG_no zG_no];exact zG_sg)
  rw [cpG_no zG_no,zG_du] at K2
  rw [cpG_no zG_no,zG_de] at K3
  obtain ⟨ex,t,L,rfl,rfl⟩:=loopG_Q (β:=Unit) (P:= Tryz.prog) (O:=tab (n+6)) (m:=0) (N:=17) (lives:=livesOf 16) (r:=1) (C:=rSi_C1) (M:=2) (enc:=fun i _=>if i=0 then rSiR_h1 g.Inputs g.Units g.Outputs else rSi_h1 zG.Inputs zG.Units zG.Outputs) (fun i _=>True) (fun ex t=>ex=.ret∧t=rSi_o1a zG) () trivial (by omega)
   (fun i _ hi _=>by
    rcases (by omega:i=0∨i=1) with rfl|rfl
    ·by_cases c:zG.Units.length=g.Units.length
     ·exact .inr ⟨_,_,by simp,rSiR_x1_1 K1 K2 K3 (by omega),rfl,rfl⟩
     ·exact .inl ⟨(),rSiR_r1_1 K1 K2 K3 (by omega),trivial⟩
    ·exact .inr ⟨_,_,by simp,rSi_x1_1 K4 K5 K6 rfl,rfl,rfl⟩)
   (fun _ _=>⟨_,_,by simp,rSi_x1_1 K4 K5 K6 rfl,rfl,rfl⟩)
  exact rSiR_f1 L
end
end
end Go.Proofs.YtefdjbknmfeooaaGreatDoor
