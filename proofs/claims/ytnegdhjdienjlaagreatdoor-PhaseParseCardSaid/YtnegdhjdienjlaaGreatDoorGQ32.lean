import Derived.Test.YtnegdhjdienjlaaGreatDoorGQ20
import Derived.Test.YtnegdhjdienjlaaGreatDoorGQ21
set_option linter.all false
set_option maxHeartbeats 6400000
set_option maxRecDepth 100000
namespace Go.Proofs.YtnegdhjdienjlaaGreatDoor
section
open Go.RowKit
noncomputable def fps4_C4:Code:=(loopsOf (bodyOf Tryz.f14)).getD 0 .skip
noncomputable def fps4_C15:Code:=(loopsOf (bodyOf Tryz.f14)).getD 1 .skip
def fps4_h4(a0:ByteArray)(out_4:List ByteArray)(str_4:ByteArray)(i_4:Nat):St:=
 ⟨[(0,.lit (.string a0)),(2,.ptr 0 0),(4,.own 1 out_4.length),(5,.lit (.string str_4)),(6,.lit (.int .i64 (i_4:Int)))],
  [(0,some (.box 27 [.lit (.int .i64 0),.lit (.int .i64 0),.lit (.bool false),.nl 1,.nl 1] false)),
   (1,some (.row 9 1 (out_4.map strC) 0))],2⟩
def fps4_h15(a0:ByteArray)(W:List ByteArray)(i_15:Nat)(i2_15:Int):St:=
 ⟨[(0,.lit (.string a0)),(2,.ptr 0 0),(4,.own 1 W.length),(7,.ptr 2 0),(8,.lit (.int .i64 (i_15:Int)))],
  [(0,some (.box 27 [.lit (.int .i64 0),.lit (.int .i64 0),.lit (.bool false),.nl 1,.nl 1] false)),
   (1,some (.row 9 1 (W.map strC) 0)),
   (2,some (.box 27 [.lit (.int .i64 0),.lit (.int .i64 i2_15),.lit (.bool false),.nl 1,.nl 1] false))],3⟩
def fps4_o4a(a0:ByteArray)(out_4:List ByteArray)(str_4:ByteArray):St:=
 ⟨[(0,.lit (.string a0)),(2,.ptr 0 0),(4,.own 1 out_4.length),(5,.lit (.string str_4))],
  [(0,some (.box 27 [.lit (.int .i64 0),.lit (.int .i64 0),.lit (.bool false),.nl 1,.nl 1] false)),
   (1,some (.row 9 1 (out_4.map strC) 0))],2⟩
def fps4_o15a(a0:ByteArray)(W:List ByteArray)(i2_15:Int):St:=
 ⟨[(0,.lit (.string a0)),(2,.ptr 0 0),(4,.own 1 W.length),(7,.ptr 2 0)],
  [(0,some (.box 27 [.lit (.int .i64 0),.lit (.int .i64 0),.lit (.bool false),.nl 1,.nl 1] false)),
   (1,some (.row 9 1 (W.map strC) 0)),
   (2,some (.box 27 [.lit (.int .i64 0),.lit (.int .i64 i2_15),.lit (.bool false),.nl 1,.nl 1] false))],3⟩
section
variable {str_4 : ByteArray} {a0 : ByteArray} {out_4 : List ByteArray} {n : Nat} {b3 : UInt8} {i_4 : Nat} {cat3 : ByteArray} {x4 : ByteArray} {i2_15 : Int} {b6 : UInt8} {W : List ByteArray} {i_15 : Nat}
theorem fps4_r4_1(C1:(i_4:Int)<(a0.size:Int))(E2:a0[i_4]?=some b3)(C3:(b3.toNat:Int)=32)(M4:out_4.length+1≤100000000)(W5:InI ((i_4:Int)+1)):
  Cont 0 (exec Tryz.prog (tab (n+43)) 0 118 (livesOf 14) big fps4_C4) (livesOf 14 4) (fps4_h4 a0 out_4 str_4 i_4) (fps4_h4 a0 (out_4++[str_4]) (⟨#[]⟩:ByteArray) (i_4+1)):=by
 have C1_:i_4<a0.size:=by omega
 have C3_:((b3.toNat:Int)==32)=true:=by rw [C3];simp
 have C3_n:((b3.toNat:Int) !=32)=false:=by rw [C3];simp
 have M4_:∀b,b≤10000→roomy (out_4.length+1) b=true:=fun b hb=>roomy_s M4 hb
 have W5_:IntKind.i64.wrap ((i_4:Int)+1)=(i_4:Int)+1:=wr64 W5.1 W5.2
 have EG2:∀h,(a0)[i_4]'h=b3:=fun h=>Option.some.inj ((getElem?_pos (a0) (i_4) h).symm.trans E2)
 unfold Cont
 simp+decide [EG2,fps4_h4,loopsOf, Tryz.f14,fps4_C4,C1,C1_,E2,C3_,C3_n,M4_,W5_]
theorem fps4_r4_2(C1:(i_4:Int)<(a0.size:Int))(E2:a0[i_4]?=some b3)(C3:¬(b3.toNat:Int)=32)(O4:0≤(b3.toNat:Int)∧(b3.toNat:Int)<256)(S5:str_4.size+((oneB ((b3.toNat:Int)))).size≤9000000000000000000)(D5:cat3=str_4++((oneB ((b3.toNat:Int)))))(W6:InI ((i_4:Int)+1)):
  Cont 0 (exec Tryz.prog (tab (n+43)) 0 118 (livesOf 14) big fps4_C4) (livesOf 14 4) (fps4_h4 a0 out_4 str_4 i_4) (fps4_h4 a0 out_4 cat3 (i_4+1)):=by
 have C1_:i_4<a0.size:=by omega
 have C3_:((b3.toNat:Int)==32)=false:=by simpa using C3
 have C3_n:((b3.toNat:Int) !=32)=true:=by simpa using C3
 have O4_:=strOf_one O4.1 O4.2
 have S5_r:=cat_r S5 D5
 have S5_q:=cat_q S5 D5
 have W6_:IntKind.i64.wrap ((i_4:Int)+1)=(i_4:Int)+1:=wr64 W6.1 W6.2
 have EG2:∀h,(a0)[i_4]'h=b3:=fun h=>Option.some.inj ((getElem?_pos (a0) (i_4) h).symm.trans E2)
 obtain ⟨o1,ho1⟩:∃o,oneB ((b3.toNat:Int))=o:=⟨_,rfl⟩
 rw [ho1] at O4_ S5_r S5_q
 unfold Cont
 simp+decide [EG2,fps4_h4,loopsOf, Tryz.f14,fps4_C4,C1,C1_,E2,C3_,C3_n,O4_,↓S5_r,S5_q,W6_]
theorem fps4_x4_1(C1:¬(i_4:Int)<(a0.size:Int)):
  Leave 0 (exec Tryz.prog (tab (n+43)) 0 118 (livesOf 14) big fps4_C4) (livesOf 14 (outOf 4)) (fps4_h4 a0 out_4 str_4 i_4) (.exit 0) (fps4_o4a a0 out_4 str_4):=by
 have C1_:¬i_4<a0.size:=by omega
 unfold Leave
 simp+decide [fps4_h4,loopsOf, Tryz.f14,fps4_o4a,fps4_C4,C1,C1_]
theorem fps4_r15_1(G1:0<W.length)(E2:W[0]?=some x4)(C3:(i_15:Int)<(x4.size:Int))(W4:InI (10*i2_15))(E6:x4[i_15]?=some b6)(W7:InI ((b6.toNat:Int)))(W8:InI ((10*i2_15)+(b6.toNat:Int)))(W9:InI (((10*i2_15)+(b6.toNat:Int))-48))(W10:InI ((i_15:Int)+1)):
  Cont 0 (exec Tryz.prog (tab (n+43)) 0 118 (livesOf 14) big fps4_C15) (livesOf 14 15) (fps4_h15 a0 W i_15 i2_15) (fps4_h15 a0 W (i_15+1) (((10*i2_15)+(b6.toNat:Int))-48)):=by
 obtain ⟨EL2,EG2⟩:=List.getElem?_eq_some_iff.1 E2
 have C3_:i_15<x4.size:=by omega
 have W4_:IntKind.i64.wrap (10*i2_15)=10*i2_15:=wr64 W4.1 W4.2
 have W7_:IntKind.i64.wrap ((b6.toNat:Int))=(b6.toNat:Int):=wr64 W7.1 W7.2
 have W8_:IntKind.i64.wrap ((10*i2_15)+(b6.toNat:Int))=(10*i2_15)+(b6.toNat:Int):=wr64 W8.1 W8.2
 have W9_:IntKind.i64.wrap (((10*i2_15)+(b6.toNat:Int))-48)=((10*i2_15)+(b6.toNat:Int))-48:=wr64 W9.1 W9.2
 have W10_:IntKind.i64.wrap ((i_15:Int)+1)=(i_15:Int)+1:=wr64 W10.1 W10.2
 have EG6:∀h,(x4)[i_15]'h=b6:=fun h=>Option.some.inj ((getElem?_pos (x4) (i_15) h).symm.trans E6)
 unfold Cont
 simp+decide [EG6,fps4_h15,loopsOf, Tryz.f14,fps4_C15,G1,EL2,EG2,E2,C3,C3_,W4_,E6,W7_,W8_,W9_,W10_]
theorem fps4_x15_1(G1:0<W.length)(E2:W[0]?=some x4)(C3:¬(i_15:Int)<(x4.size:Int)):
  Leave 0 (exec Tryz.prog (tab (n+43)) 0 118 (livesOf 14) big fps4_C15) (livesOf 14 (outOf 15)) (fps4_h15 a0 W i_15 i2_15) (.exit 2) (fps4_o15a a0 W i2_15):=by
 obtain ⟨EL2,EG2⟩:=List.getElem?_eq_some_iff.1 E2
 have C3_:¬i_15<x4.size:=by omega
 unfold Leave
 simp+decide [fps4_h15,loopsOf, Tryz.f14,fps4_o15a,fps4_C15,G1,EL2,EG2,E2,C3,C3_]
theorem fps4_f1(hW:out_4++[str_4]=W)(L1:loopG Tryz.prog (tab (n+43)) 0 118 (livesOf 14) 4 fps4_C4 (fps4_h4 a0 [] (⟨#[]⟩:ByteArray) 0)=some (.exit 0,fps4_o4a a0 out_4 str_4))(M2:W.length≤100000000)(C3:(W.length:Int)<2):
  run (n+43) 14 [.lit (.string a0)]=some (.tup [.agg [.lit (.int .i64 0),.lit (.int .i64 0),.lit (.bool false),.sl 1 [],.sl 1 []],.lit (.int .i64 4)]):=by
 have hWl:out_4.length+1=W.length:=by rw [←hW,List.length_append];rfl
 have hWi:(out_4.length:Int)+1=(W.length:Int):=by omega
 have hWm:out_4.map strC++[[.lit (.string str_4)]]=W.map strC:=by rw [←hW,List.map_append];rfl
 have M2_:∀b,b≤10000→roomy (W.length) b=true:=fun b hb=>roomy_s M2 hb
 have C3_:W.length<2:=by omega
 unfold run fnP
 simp+decide [hWl,hWi,hWm, Tryz.f14,M2_,C3,C3_]
 rw [loopX_G (C':=fps4_C4) (e:=(fps4_h4 a0 [] (⟨#[]⟩:ByteArray) 0)) ?_ ?_,L1]
 rotate_left
 ·kernel_rfl
 ·simp+decide [hWl,hWi,hWm,fps4_h4,M2_,C3,C3_]
 simp+decide [hWl,hWi,hWm,fps4_o4a,M2_,C3,C3_]
theorem fps4_f2(hW:out_4++[str_4]=W){x:ByteArray}(L1:loopG Tryz.prog (tab (n+43)) 0 118 (livesOf 14) 4 fps4_C4 (fps4_h4 a0 [] (⟨#[]⟩:ByteArray) 0)=some (.exit 0,fps4_o4a a0 out_4 str_4))(M2:W.length≤100000000)(C3:¬(W.length:Int)<2)(G4:0<W.length)(E5:W[0]?=some x)(C6:(x.size:Int)<2):
  run (n+43) 14 [.lit (.string a0)]=some (.tup [.agg [.lit (.int .i64 0),.lit (.int .i64 0),.lit (.bool false),.sl 1 [],.sl 1 []],.lit (.int .i64 4)]):=by
 have hWl:out_4.length+1=W.length:=by rw [←hW,List.length_append];rfl
 have hWi:(out_4.length:Int)+1=(W.length:Int):=by omega
 have hWm:out_4.map strC++[[.lit (.string str_4)]]=W.map strC:=by rw [←hW,List.map_append];rfl
 have M2_:∀b,b≤10000→roomy (W.length) b=true:=fun b hb=>roomy_s M2 hb
 have C3_:¬W.length<2:=by omega
 obtain ⟨EL5,EG5⟩:=List.getElem?_eq_some_iff.1 E5
 have C6_:x.size<2:=by omega
 unfold run fnP
 simp+decide [hWl,hWi,hWm, Tryz.f14,M2_,C3,C3_,G4,EL5,EG5,E5,C6,C6_]
 rw [loopX_G (C':=fps4_C4) (e:=(fps4_h4 a0 [] (⟨#[]⟩:ByteArray) 0)) ?_ ?_,L1]
 rotate_left
 ·kernel_rfl
 ·simp+decide [hWl,hWi,hWm,fps4_h4,M2_,C3,C3_,G4,EL5,EG5,E5,C6,C6_]
 simp+decide [hWl,hWi,hWm,fps4_o4a,M2_,C3,C3_,G4,EL5,EG5,E5,C6,C6_]
theorem fps4_f3(hW:out_4++[str_4]=W){x:ByteArray}(L1:loopG Tryz.prog (tab (n+43)) 0 118 (livesOf 14) 4 fps4_C4 (fps4_h4 a0 [] (⟨#[]⟩:ByteArray) 0)=some (.exit 0,fps4_o4a a0 out_4 str_4))(M2:W.length≤100000000)(C3:¬(W.length:Int)<2)(G4:0<W.length)(E5:W[0]?=some x)(C6:¬(x.size:Int)<2)(C8:6<(x.size:Int)):
  run (n+43) 14 [.lit (.string a0)]=some (.tup [.agg [.lit (.int .i64 0),.lit (.int .i64 0),.lit (.bool false),.sl 1 [],.sl 1 []],.lit (.int .i64 4)]):=by
 have hWl:out_4.length+1=W.length:=by rw [←hW,List.length_append];rfl
 have hWi:(out_4.length:Int)+1=(W.length:Int):=by omega
 have hWm:out_4.map strC++[[.lit (.string str_4)]]=W.map strC:=by rw [←hW,List.map_append];rfl
 have M2_:∀b,b≤10000→roomy (W.length) b=true:=fun b hb=>roomy_s M2 hb
 have C3_:¬W.length<2:=by omega
 obtain ⟨EL5,EG5⟩:=List.getElem?_eq_some_iff.1 E5
 have C6_:¬x.size<2:=by omega
 have C8_:6<x.size:=by omega
 unfold run fnP
 simp+decide [hWl,hWi,hWm, Tryz.f14,M2_,C3,C3_,G4,EL5,EG5,E5,C6,C6_,C8,C8_]
 rw [loopX_G (C':=fps4_C4) (e:=(fps4_h4 a0 [] (⟨#[]⟩:ByteArray) 0)) ?_ ?_,L1]
 rotate_left
 ·kernel_rfl
 ·simp+decide [hWl,hWi,hWm,fps4_h4,M2_,C3,C3_,G4,EL5,EG5,E5,C6,C6_,C8,C8_]
 simp+decide [hWl,hWi,hWm,fps4_o4a,M2_,C3,C3_,G4,EL5,EG5,E5,C6,C6_,C8,C8_]
end
end
section
open Go.RowKit
section
variable {str_4 : ByteArray} {a0 : ByteArray} {out_4 : List ByteArray} {n : Nat} {W : List ByteArray}
section
variable(hW:out_4++[str_4]=W)
include hW
theorem fps4_f4{x:ByteArray}{i2_15:Int}{x5:ByteArray}{x6:ByteArray}{r:Rat}{r2:Int}{r3:Int}(L1:loopG Tryz.prog (tab (n+43)) 0 118 (livesOf 14) 4 fps4_C4 (fps4_h4 a0 [] (⟨#[]⟩:ByteArray) 0)=some (.exit 0,fps4_o4a a0 out_4 str_4))(M2:W.length≤100000000)(C3:¬(W.length:Int)<2)(G4:0<W.length)(E5:W[0]?=some x)(C6:¬(x.size:Int)<2)(C8:¬6<(x.size:Int))(L9:loopG Tryz.prog (tab (n+43)) 0 118 (livesOf 14) 15 fps4_C15 (fps4_h15 a0 W 1 0)=some (.exit 2,fps4_o15a a0 W i2_15))(G10:1<W.length)(E11:W[1]?=some x5)(C12:x5=(⟨#[111,110]⟩:ByteArray))(C13:2<(W.length:Int))(G14:2<W.length)(E15:W[2]?=some x6)(K16:run (n+42) 39 [.lit (.string x6)]=some (.tup [ratV r,.lit (.int .i64 r2),.lit (.int .i64 r3)]))(C17:¬r3=0):
  run (n+43) 14 [.lit (.string a0)]=some (.tup [.agg [.lit (.int .i64 0),.lit (.int .i64 0),.lit (.bool false),.sl 1 [],.sl 1 []],.lit (.int .i64 4)]):=by
 have hWl:out_4.length+1=W.length:=by rw [←hW,List.length_append];rfl
 have hWi:(out_4.length:Int)+1=(W.length:Int):=by omega
 have hWm:out_4.map strC++[[.lit (.string str_4)]]=W.map strC:=by rw [←hW,List.map_append];rfl
 have M2_:∀b,b≤10000→roomy (W.length) b=true:=fun b hb=>roomy_s M2 hb
 have C3_:¬W.length<2:=by omega
 obtain ⟨EL5,EG5⟩:=List.getElem?_eq_some_iff.1 E5
 have C6_:¬x.size<2:=by omega
 have C8_:¬6<x.size:=by omega
 obtain ⟨EL11,EG11⟩:=List.getElem?_eq_some_iff.1 E11
 have C12_:(x5.toList==(⟨#[111,110]⟩:ByteArray).toList)=true:=by rw [C12];simp
 have C12_n:(x5.toList !=(⟨#[111,110]⟩:ByteArray).toList)=false:=by rw [bne,C12_];rfl
 have C12_k:(x5.toList==([111,110]:List UInt8))=true:=by rw [show ([111,110]:List UInt8)=(⟨#[111,110]⟩:ByteArray).toList by rw [ba_toList]];exact C12_
 have C13_:2<W.length:=by omega
 obtain ⟨EL15,EG15⟩:=List.getElem?_eq_some_iff.1 E15
 simp only [ratV] at K16
 have C17_:(r3==0)=false:=by simpa using C17
 have C17_n:(r3 !=0)=true:=by simpa using C17
 unfold run fnP
 simp+decide [hWl,hWi,hWm, Tryz.f14,M2_,C3,C3_,G4,EL5,EG5,E5,C6,C6_,C8,C8_,G10,EL11,EG11,E11,C12_,C12_n,C12_k,C13,C13_,G14,EL15,EG15,E15,K16,C17_,C17_n]
 rw [loopX_G (C':=fps4_C4) (e:=(fps4_h4 a0 [] (⟨#[]⟩:ByteArray) 0)) ?_ ?_,L1]
 rotate_left
 ·kernel_rfl
 ·simp+decide [hWl,hWi,hWm,fps4_h4,M2_,C3,C3_,G4,EL5,EG5,E5,C6,C6_,C8,C8_,G10,EL11,EG11,E11,C12_,C12_n,C12_k,C13,C13_,G14,EL15,EG15,E15,K16,C17_,C17_n]
 simp+decide [hWl,hWi,hWm,fps4_o4a,M2_,C3,C3_,G4,EL5,EG5,E5,C6,C6_,C8,C8_,G10,EL11,EG11,E11,C12_,C12_n,C12_k,C13,C13_,G14,EL15,EG15,E15,K16,C17_,C17_n]
 rw [loopX_G (C':=fps4_C15) (e:=(fps4_h15 a0 W 1 0)) ?_ ?_,L9]
 rotate_left
 ·kernel_rfl
 ·simp+decide [hWl,hWi,hWm,fps4_h15,M2_,C3,C3_,G4,EL5,EG5,E5,C6,C6_,C8,C8_,G10,EL11,EG11,E11,C12_,C12_n,C12_k,C13,C13_,G14,EL15,EG15,E15,K16,C17_,C17_n]
 simp+decide [hWl,hWi,hWm,fps4_o15a,M2_,C3,C3_,G4,EL5,EG5,E5,C6,C6_,C8,C8_,G10,EL11,EG11,E11,C12_,C12_n,C12_k,C13,C13_,G14,EL15,EG15,E15,K16,C17_,C17_n]
theorem fps4_f5{x:ByteArray}{i2_15:Int}{x5:ByteArray}{x6:ByteArray}{r:Rat}{r2:Int}{r3:Int}{r4:Bool}(L1:loopG Tryz.prog (tab (n+43)) 0 118 (livesOf 14) 4 fps4_C4 (fps4_h4 a0 [] (⟨#[]⟩:ByteArray) 0)=some (.exit 0,fps4_o4a a0 out_4 str_4))(M2:W.length≤100000000)(C3:¬(W.length:Int)<2)(G4:0<W.length)(E5:W[0]?=some x)(C6:¬(x.size:Int)<2)(C8:¬6<(x.size:Int))(L9:loopG Tryz.prog (tab (n+43)) 0 118 (livesOf 14) 15 fps4_C15 (fps4_h15 a0 W 1 0)=some (.exit 2,fps4_o15a a0 W i2_15))(G10:1<W.length)(E11:W[1]?=some x5)(C12:x5=(⟨#[111,110]⟩:ByteArray))(C13:2<(W.length:Int))(G14:2<W.length)(E15:W[2]?=some x6)(K16:run (n+42) 39 [.lit (.string x6)]=some (.tup [ratV r,.lit (.int .i64 r2),.lit (.int .i64 r3)]))(C17:r3=0)(K18:run (n+42) 12 [.agg [.lit (.int .i64 1),.lit (.int .i64 i2_15),.lit (.bool (rawQ r).s),natA (rawQ r).l1,natA (rawQ r).l2]]=some (.lit (.bool r4)))(C19:r4=false):
  run (n+43) 14 [.lit (.string a0)]=some (.tup [.agg [.lit (.int .i64 0),.lit (.int .i64 0),.lit (.bool false),.sl 1 [],.sl 1 []],.lit (.int .i64 4)]):=by
 have hWl:out_4.length+1=W.length:=by rw [←hW,List.length_append];rfl
 have hWi:(out_4.length:Int)+1=(W.length:Int):=by omega
 have hWm:out_4.map strC++[[.lit (.string str_4)]]=W.map strC:=by rw [←hW,List.map_append];rfl
 have M2_:∀b,b≤10000→roomy (W.length) b=true:=fun b hb=>roomy_s M2 hb
 have C3_:¬W.length<2:=by omega
 obtain ⟨EL5,EG5⟩:=List.getElem?_eq_some_iff.1 E5
 have C6_:¬x.size<2:=by omega
 have C8_:¬6<x.size:=by omega
 obtain ⟨EL11,EG11⟩:=List.getElem?_eq_some_iff.1 E11
 have C12_:(x5.toList==(⟨#[111,110]⟩:ByteArray).toList)=true:=by rw [C12];simp
 have C12_n:(x5.toList !=(⟨#[111,110]⟩:ByteArray).toList)=false:=by rw [bne,C12_];rfl
 have C12_k:(x5.toList==([111,110]:List UInt8))=true:=by rw [show ([111,110]:List UInt8)=(⟨#[111,110]⟩:ByteArray).toList by rw [ba_toList]];exact C12_
 have C13_:2<W.length:=by omega
 obtain ⟨EL15,EG15⟩:=List.getElem?_eq_some_iff.1 E15
 simp only [ratV] at K16
 have C17_:(r3==0)=true:=by rw [C17];simp
 have C17_n:(r3 !=0)=false:=by rw [C17];simp
 rw [C19] at K18
 unfold run fnP
 simp+decide [hWl,hWi,hWm, Tryz.f14,M2_,C3,C3_,G4,EL5,EG5,E5,C6,C6_,C8,C8_,G10,EL11,EG11,E11,C12_,C12_n,C12_k,C13,C13_,G14,EL15,EG15,E15,K16,C17_,C17_n,K18,C19]
 rw [loopX_G (C':=fps4_C4) (e:=(fps4_h4 a0 [] (⟨#[]⟩:ByteArray) 0)) ?_ ?_,L1]
 rotate_left
 ·kernel_rfl
 ·simp+decide [hWl,hWi,hWm,fps4_h4,M2_,C3,C3_,G4,EL5,EG5,E5,C6,C6_,C8,C8_,G10,EL11,EG11,E11,C12_,C12_n,C12_k,C13,C13_,G14,EL15,EG15,E15,K16,C17_,C17_n,K18,C19]
 simp+decide [hWl,hWi,hWm,fps4_o4a,M2_,C3,C3_,G4,EL5,EG5,E5,C6,C6_,C8,C8_,G10,EL11,EG11,E11,C12_,C12_n,C12_k,C13,C13_,G14,EL15,EG15,E15,K16,C17_,C17_n,K18,C19]
 rw [loopX_G (C':=fps4_C15) (e:=(fps4_h15 a0 W 1 0)) ?_ ?_,L9]
 rotate_left
 ·kernel_rfl
 ·simp+decide [hWl,hWi,hWm,fps4_h15,M2_,C3,C3_,G4,EL5,EG5,E5,C6,C6_,C8,C8_,G10,EL11,EG11,E11,C12_,C12_n,C12_k,C13,C13_,G14,EL15,EG15,E15,K16,C17_,C17_n,K18,C19]
 simp+decide [hWl,hWi,hWm,fps4_o15a,M2_,C3,C3_,G4,EL5,EG5,E5,C6,C6_,C8,C8_,G10,EL11,EG11,E11,C12_,C12_n,C12_k,C13,C13_,G14,EL15,EG15,E15,K16,C17_,C17_n,K18,C19]
theorem fps4_f6{x:ByteArray}{i2_15:Int}{x5:ByteArray}{x6:ByteArray}{r:Rat}{r2:Int}{r3:Int}{r4:Bool}{r5:ByteArray}(L1:loopG Tryz.prog (tab (n+43)) 0 118 (livesOf 14) 4 fps4_C4 (fps4_h4 a0 [] (⟨#[]⟩:ByteArray) 0)=some (.exit 0,fps4_o4a a0 out_4 str_4))(M2:W.length≤100000000)(C3:¬(W.length:Int)<2)(G4:0<W.length)(E5:W[0]?=some x)(C6:¬(x.size:Int)<2)(C8:¬6<(x.size:Int))(L9:loopG Tryz.prog (tab (n+43)) 0 118 (livesOf 14) 15 fps4_C15 (fps4_h15 a0 W 1 0)=some (.exit 2,fps4_o15a a0 W i2_15))(G10:1<W.length)(E11:W[1]?=some x5)(C12:x5=(⟨#[111,110]⟩:ByteArray))(C13:2<(W.length:Int))(G14:2<W.length)(E15:W[2]?=some x6)(K16:run (n+42) 39 [.lit (.string x6)]=some (.tup [ratV r,.lit (.int .i64 r2),.lit (.int .i64 r3)]))(C17:r3=0)(K18:run (n+42) 12 [.agg [.lit (.int .i64 1),.lit (.int .i64 i2_15),.lit (.bool (rawQ r).s),natA (rawQ r).l1,natA (rawQ r).l2]]=some (.lit (.bool r4)))(C19:r4=true)(K20:run (n+42) 10 [.agg [.lit (.int .i64 1),.lit (.int .i64 i2_15),.lit (.bool (rawQ r).s),natA (rawQ r).l1,natA (rawQ r).l2]]=some (.lit (.string r5)))(C21:¬r5=a0):
  run (n+43) 14 [.lit (.string a0)]=some (.tup [.agg [.lit (.int .i64 0),.lit (.int .i64 0),.lit (.bool false),.sl 1 [],.sl 1 []],.lit (.int .i64 4)]):=by
 have hWl:out_4.length+1=W.length:=by rw [←hW,List.length_append];rfl
 have hWi:(out_4.length:Int)+1=(W.length:Int):=by omega
 have hWm:out_4.map strC++[[.lit (.string str_4)]]=W.map strC:=by rw [←hW,List.map_append];rfl
 have M2_:∀b,b≤10000→roomy (W.length) b=true:=fun b hb=>roomy_s M2 hb
 have C3_:¬W.length<2:=by omega
 obtain ⟨EL5,EG5⟩:=List.getElem?_eq_some_iff.1 E5
 have C6_:¬x.size<2:=by omega
 have C8_:¬6<x.size:=by omega
 obtain ⟨EL11,EG11⟩:=List.getElem?_eq_some_iff.1 E11
 have C12_:(x5.toList==(⟨#[111,110]⟩:ByteArray).toList)=true:=by rw [C12];simp
 have C12_n:(x5.toList !=(⟨#[111,110]⟩:ByteArray).toList)=false:=by rw [bne,C12_];rfl
 have C12_k:(x5.toList==([111,110]:List UInt8))=true:=by rw [show ([111,110]:List UInt8)=(⟨#[111,110]⟩:ByteArray).toList by rw [ba_toList]];exact C12_
 have C13_:2<W.length:=by omega
 obtain ⟨EL15,EG15⟩:=List.getElem?_eq_some_iff.1 E15
 simp only [ratV] at K16
 have C17_:(r3==0)=true:=by rw [C17];simp
 have C17_n:(r3 !=0)=false:=by rw [C17];simp
 have C21_:(r5.toList==a0.toList)=false:=by rw [beq_eq_false_iff_ne];exact fun h=>C21 (ba_inj h)
 have C21_n:(r5.toList !=a0.toList)=true:=by rw [bne,C21_];rfl
 rw [C19] at K18
 unfold run fnP
 simp+decide [hWl,hWi,hWm, Tryz.f14,M2_,C3,C3_,G4,EL5,EG5,E5,C6,C6_,C8,C8_,G10,EL11,EG11,E11,C12_,C12_n,C12_k,C13,C13_,G14,EL15,EG15,E15,K16,C17_,C17_n,K18,C19,K20,C21_,C21_n]
 rw [loopX_G (C':=fps4_C4) (e:=(fps4_h4 a0 [] (⟨#[]⟩:ByteArray) 0)) ?_ ?_,L1]
 rotate_left
 ·kernel_rfl
 ·simp+decide [hWl,hWi,hWm,fps4_h4,M2_,C3,C3_,G4,EL5,EG5,E5,C6,C6_,C8,C8_,G10,EL11,EG11,E11,C12_,C12_n,C12_k,C13,C13_,G14,EL15,EG15,E15,K16,C17_,C17_n,K18,C19,K20,C21_,C21_n]
 simp+decide [hWl,hWi,hWm,fps4_o4a,M2_,C3,C3_,G4,EL5,EG5,E5,C6,C6_,C8,C8_,G10,EL11,EG11,E11,C12_,C12_n,C12_k,C13,C13_,G14,EL15,EG15,E15,K16,C17_,C17_n,K18,C19,K20,C21_,C21_n]
 rw [loopX_G (C':=fps4_C15) (e:=(fps4_h15 a0 W 1 0)) ?_ ?_,L9]
 rotate_left
 ·kernel_rfl
 ·simp+decide [hWl,hWi,hWm,fps4_h15,M2_,C3,C3_,G4,EL5,EG5,E5,C6,C6_,C8,C8_,G10,EL11,EG11,E11,C12_,C12_n,C12_k,C13,C13_,G14,EL15,EG15,E15,K16,C17_,C17_n,K18,C19,K20,C21_,C21_n]
 simp+decide [hWl,hWi,hWm,fps4_o15a,M2_,C3,C3_,G4,EL5,EG5,E5,C6,C6_,C8,C8_,G10,EL11,EG11,E11,C12_,C12_n,C12_k,C13,C13_,G14,EL15,EG15,E15,K16,C17_,C17_n,K18,C19,K20,C21_,C21_n]
theorem fps4_f7{x:ByteArray}{i2_15:Int}{x5:ByteArray}{x6:ByteArray}{r:Rat}{r2:Int}{r3:Int}{r4:Bool}{r5:ByteArray}(L1:loopG Tryz.prog (tab (n+43)) 0 118 (livesOf 14) 4 fps4_C4 (fps4_h4 a0 [] (⟨#[]⟩:ByteArray) 0)=some (.exit 0,fps4_o4a a0 out_4 str_4))(M2:W.length≤100000000)(C3:¬(W.length:Int)<2)(G4:0<W.length)(E5:W[0]?=some x)(C6:¬(x.size:Int)<2)(C8:¬6<(x.size:Int))(L9:loopG Tryz.prog (tab (n+43)) 0 118 (livesOf 14) 15 fps4_C15 (fps4_h15 a0 W 1 0)=some (.exit 2,fps4_o15a a0 W i2_15))(G10:1<W.length)(E11:W[1]?=some x5)(C12:x5=(⟨#[111,110]⟩:ByteArray))(C13:2<(W.length:Int))(G14:2<W.length)(E15:W[2]?=some x6)(K16:run (n+42) 39 [.lit (.string x6)]=some (.tup [ratV r,.lit (.int .i64 r2),.lit (.int .i64 r3)]))(C17:r3=0)(K18:run (n+42) 12 [.agg [.lit (.int .i64 1),.lit (.int .i64 i2_15),.lit (.bool (rawQ r).s),natA (rawQ r).l1,natA (rawQ r).l2]]=some (.lit (.bool r4)))(C19:r4=true)(K20:run (n+42) 10 [.agg [.lit (.int .i64 1),.lit (.int .i64 i2_15),.lit (.bool (rawQ r).s),natA (rawQ r).l1,natA (rawQ r).l2]]=some (.lit (.string r5)))(C21:r5=a0):
  run (n+43) 14 [.lit (.string a0)]=some (.tup [.agg [.lit (.int .i64 1),.lit (.int .i64 i2_15),.lit (.bool (rawQ r).s),natA (rawQ r).l1,natA (rawQ r).l2],.lit (.int .i64 0)]):=by
 have hWl:out_4.length+1=W.length:=by rw [←hW,List.length_append];rfl
 have hWi:(out_4.length:Int)+1=(W.length:Int):=by omega
 have hWm:out_4.map strC++[[.lit (.string str_4)]]=W.map strC:=by rw [←hW,List.map_append];rfl
 have M2_:∀b,b≤10000→roomy (W.length) b=true:=fun b hb=>roomy_s M2 hb
 have C3_:¬W.length<2:=by omega
 obtain ⟨EL5,EG5⟩:=List.getElem?_eq_some_iff.1 E5
 have C6_:¬x.size<2:=by omega
 have C8_:¬6<x.size:=by omega
 obtain ⟨EL11,EG11⟩:=List.getElem?_eq_some_iff.1 E11
 have C12_:(x5.toList==(⟨#[111,110]⟩:ByteArray).toList)=true:=by rw [C12];simp
 have C12_n:(x5.toList !=(⟨#[111,110]⟩:ByteArray).toList)=false:=by rw [bne,C12_];rfl
 have C12_k:(x5.toList==([111,110]:List UInt8))=true:=by rw [show ([111,110]:List UInt8)=(⟨#[111,110]⟩:ByteArray).toList by rw [ba_toList]];exact C12_
 have C13_:2<W.length:=by omega
 obtain ⟨EL15,EG15⟩:=List.getElem?_eq_some_iff.1 E15
 simp only [ratV] at K16
 have C17_:(r3==0)=true:=by rw [C17];simp
 have C17_n:(r3 !=0)=false:=by rw [C17];simp
 have C21_:(r5.toList==a0.toList)=true:=by rw [C21];simp
 have C21_n:(r5.toList !=a0.toList)=false:=by rw [bne,C21_];rfl
 rw [C19] at K18
 unfold run fnP
 simp+decide [hWl,hWi,hWm, Tryz.f14,M2_,C3,C3_,G4,EL5,EG5,E5,C6,C6_,C8,C8_,G10,EL11,EG11,E11,C12_,C12_n,C12_k,C13,C13_,G14,EL15,EG15,E15,K16,C17_,C17_n,K18,C19,K20,C21_,C21_n]
 rw [loopX_G (C':=fps4_C4) (e:=(fps4_h4 a0 [] (⟨#[]⟩:ByteArray) 0)) ?_ ?_,L1]
 rotate_left
 ·kernel_rfl
 ·simp+decide [hWl,hWi,hWm,fps4_h4,M2_,C3,C3_,G4,EL5,EG5,E5,C6,C6_,C8,C8_,G10,EL11,EG11,E11,C12_,C12_n,C12_k,C13,C13_,G14,EL15,EG15,E15,K16,C17_,C17_n,K18,C19,K20,C21_,C21_n]
 simp+decide [hWl,hWi,hWm,fps4_o4a,M2_,C3,C3_,G4,EL5,EG5,E5,C6,C6_,C8,C8_,G10,EL11,EG11,E11,C12_,C12_n,C12_k,C13,C13_,G14,EL15,EG15,E15,K16,C17_,C17_n,K18,C19,K20,C21_,C21_n]
 rw [loopX_G (C':=fps4_C15) (e:=(fps4_h15 a0 W 1 0)) ?_ ?_,L9]
 rotate_left
 ·kernel_rfl
 ·simp+decide [hWl,hWi,hWm,fps4_h15,M2_,C3,C3_,G4,EL5,EG5,E5,C6,C6_,C8,C8_,G10,EL11,EG11,E11,C12_,C12_n,C12_k,C13,C13_,G14,EL15,EG15,E15,K16,C17_,C17_n,K18,C19,K20,C21_,C21_n]
 simp+decide [hWl,hWi,hWm,fps4_o15a,M2_,C3,C3_,G4,EL5,EG5,E5,C6,C6_,C8,C8_,G10,EL11,EG11,E11,C12_,C12_n,C12_k,C13,C13_,G14,EL15,EG15,E15,K16,C17_,C17_n,K18,C19,K20,C21_,C21_n]
theorem fps4_f8{x:ByteArray}{i2_15:Int}{x5:ByteArray}{r6:Bool}(L1:loopG Tryz.prog (tab (n+43)) 0 118 (livesOf 14) 4 fps4_C4 (fps4_h4 a0 [] (⟨#[]⟩:ByteArray) 0)=some (.exit 0,fps4_o4a a0 out_4 str_4))(M2:W.length≤100000000)(C3:¬(W.length:Int)<2)(G4:0<W.length)(E5:W[0]?=some x)(C6:¬(x.size:Int)<2)(C8:¬6<(x.size:Int))(L9:loopG Tryz.prog (tab (n+43)) 0 118 (livesOf 14) 15 fps4_C15 (fps4_h15 a0 W 1 0)=some (.exit 2,fps4_o15a a0 W i2_15))(G10:1<W.length)(E11:W[1]?=some x5)(C12:x5=(⟨#[111,110]⟩:ByteArray))(C13:¬2<(W.length:Int))(K14:run (n+42) 12 [.agg [.lit (.int .i64 1),.lit (.int .i64 i2_15),.lit (.bool false),.sl 1 [],.sl 1 []]]=some (.lit (.bool r6)))(C15:r6=false):
  run (n+43) 14 [.lit (.string a0)]=some (.tup [.agg [.lit (.int .i64 0),.lit (.int .i64 0),.lit (.bool false),.sl 1 [],.sl 1 []],.lit (.int .i64 4)]):=by
 have hWl:out_4.length+1=W.length:=by rw [←hW,List.length_append];rfl
 have hWi:(out_4.length:Int)+1=(W.length:Int):=by omega
 have hWm:out_4.map strC++[[.lit (.string str_4)]]=W.map strC:=by rw [←hW,List.map_append];rfl
 have M2_:∀b,b≤10000→roomy (W.length) b=true:=fun b hb=>roomy_s M2 hb
 have C3_:¬W.length<2:=by omega
 obtain ⟨EL5,EG5⟩:=List.getElem?_eq_some_iff.1 E5
 have C6_:¬x.size<2:=by omega
 have C8_:¬6<x.size:=by omega
 obtain ⟨EL11,EG11⟩:=List.getElem?_eq_some_iff.1 E11
 have C12_:(x5.toList==(⟨#[111,110]⟩:ByteArray).toList)=true:=by rw [C12];simp
 have C12_n:(x5.toList !=(⟨#[111,110]⟩:ByteArray).toList)=false:=by rw [bne,C12_];rfl
 have C12_k:(x5.toList==([111,110]:List UInt8))=true:=by rw [show ([111,110]:List UInt8)=(⟨#[111,110]⟩:ByteArray).toList by rw [ba_toList]];exact C12_
 have C13_:¬2<W.length:=by omega
 rw [C15] at K14
 unfold run fnP
 simp+decide [hWl,hWi,hWm, Tryz.f14,M2_,C3,C3_,G4,EL5,EG5,E5,C6,C6_,C8,C8_,G10,EL11,EG11,E11,C12_,C12_n,C12_k,C13,C13_,K14,C15]
 rw [loopX_G (C':=fps4_C4) (e:=(fps4_h4 a0 [] (⟨#[]⟩:ByteArray) 0)) ?_ ?_,L1]
 rotate_left
 ·kernel_rfl
 ·simp+decide [hWl,hWi,hWm,fps4_h4,M2_,C3,C3_,G4,EL5,EG5,E5,C6,C6_,C8,C8_,G10,EL11,EG11,E11,C12_,C12_n,C12_k,C13,C13_,K14,C15]
 simp+decide [hWl,hWi,hWm,fps4_o4a,M2_,C3,C3_,G4,EL5,EG5,E5,C6,C6_,C8,C8_,G10,EL11,EG11,E11,C12_,C12_n,C12_k,C13,C13_,K14,C15]
 rw [loopX_G (C':=fps4_C15) (e:=(fps4_h15 a0 W 1 0)) ?_ ?_,L9]
 rotate_left
 ·kernel_rfl
 ·simp+decide [hWl,hWi,hWm,fps4_h15,M2_,C3,C3_,G4,EL5,EG5,E5,C6,C6_,C8,C8_,G10,EL11,EG11,E11,C12_,C12_n,C12_k,C13,C13_,K14,C15]
 simp+decide [hWl,hWi,hWm,fps4_o15a,M2_,C3,C3_,G4,EL5,EG5,E5,C6,C6_,C8,C8_,G10,EL11,EG11,E11,C12_,C12_n,C12_k,C13,C13_,K14,C15]
theorem fps4_f9{x:ByteArray}{i2_15:Int}{x5:ByteArray}{r6:Bool}{r7:ByteArray}(L1:loopG Tryz.prog (tab (n+43)) 0 118 (livesOf 14) 4 fps4_C4 (fps4_h4 a0 [] (⟨#[]⟩:ByteArray) 0)=some (.exit 0,fps4_o4a a0 out_4 str_4))(M2:W.length≤100000000)(C3:¬(W.length:Int)<2)(G4:0<W.length)(E5:W[0]?=some x)(C6:¬(x.size:Int)<2)(C8:¬6<(x.size:Int))(L9:loopG Tryz.prog (tab (n+43)) 0 118 (livesOf 14) 15 fps4_C15 (fps4_h15 a0 W 1 0)=some (.exit 2,fps4_o15a a0 W i2_15))(G10:1<W.length)(E11:W[1]?=some x5)(C12:x5=(⟨#[111,110]⟩:ByteArray))(C13:¬2<(W.length:Int))(K14:run (n+42) 12 [.agg [.lit (.int .i64 1),.lit (.int .i64 i2_15),.lit (.bool false),.sl 1 [],.sl 1 []]]=some (.lit (.bool r6)))(C15:r6=true)(K16:run (n+42) 10 [.agg [.lit (.int .i64 1),.lit (.int .i64 i2_15),.lit (.bool false),.sl 1 [],.sl 1 []]]=some (.lit (.string r7)))(C17:¬r7=a0):
  run (n+43) 14 [.lit (.string a0)]=some (.tup [.agg [.lit (.int .i64 0),.lit (.int .i64 0),.lit (.bool false),.sl 1 [],.sl 1 []],.lit (.int .i64 4)]):=by
 have hWl:out_4.length+1=W.length:=by rw [←hW,List.length_append];rfl
 have hWi:(out_4.length:Int)+1=(W.length:Int):=by omega
 have hWm:out_4.map strC++[[.lit (.string str_4)]]=W.map strC:=by rw [←hW,List.map_append];rfl
 have M2_:∀b,b≤10000→roomy (W.length) b=true:=fun b hb=>roomy_s M2 hb
 have C3_:¬W.length<2:=by omega
 obtain ⟨EL5,EG5⟩:=List.getElem?_eq_some_iff.1 E5
 have C6_:¬x.size<2:=by omega
 have C8_:¬6<x.size:=by omega
 obtain ⟨EL11,EG11⟩:=List.getElem?_eq_some_iff.1 E11
 have C12_:(x5.toList==(⟨#[111,110]⟩:ByteArray).toList)=true:=by rw [C12];simp
 have C12_n:(x5.toList !=(⟨#[111,110]⟩:ByteArray).toList)=false:=by rw [bne,C12_];rfl
 have C12_k:(x5.toList==([111,110]:List UInt8))=true:=by rw [show ([111,110]:List UInt8)=(⟨#[111,110]⟩:ByteArray).toList by rw [ba_toList]];exact C12_
 have C13_:¬2<W.length:=by omega
 have C17_:(r7.toList==a0.toList)=false:=by rw [beq_eq_false_iff_ne];exact fun h=>C17 (ba_inj h)
 have C17_n:(r7.toList !=a0.toList)=true:=by rw [bne,C17_];rfl
 rw [C15] at K14
 unfold run fnP
 simp+decide [hWl,hWi,hWm, Tryz.f14,M2_,C3,C3_,G4,EL5,EG5,E5,C6,C6_,C8,C8_,G10,EL11,EG11,E11,C12_,C12_n,C12_k,C13,C13_,K14,C15,K16,C17_,C17_n]
 rw [loopX_G (C':=fps4_C4) (e:=(fps4_h4 a0 [] (⟨#[]⟩:ByteArray) 0)) ?_ ?_,L1]
 rotate_left
 ·kernel_rfl
 ·simp+decide [hWl,hWi,hWm,fps4_h4,M2_,C3,C3_,G4,EL5,EG5,E5,C6,C6_,C8,C8_,G10,EL11,EG11,E11,C12_,C12_n,C12_k,C13,C13_,K14,C15,K16,C17_,C17_n]
 simp+decide [hWl,hWi,hWm,fps4_o4a,M2_,C3,C3_,G4,EL5,EG5,E5,C6,C6_,C8,C8_,G10,EL11,EG11,E11,C12_,C12_n,C12_k,C13,C13_,K14,C15,K16,C17_,C17_n]
 rw [loopX_G (C':=fps4_C15) (e:=(fps4_h15 a0 W 1 0)) ?_ ?_,L9]
 rotate_left
 ·kernel_rfl
 ·simp+decide [hWl,hWi,hWm,fps4_h15,M2_,C3,C3_,G4,EL5,EG5,E5,C6,C6_,C8,C8_,G10,EL11,EG11,E11,C12_,C12_n,C12_k,C13,C13_,K14,C15,K16,C17_,C17_n]
 simp+decide [hWl,hWi,hWm,fps4_o15a,M2_,C3,C3_,G4,EL5,EG5,E5,C6,C6_,C8,C8_,G10,EL11,EG11,E11,C12_,C12_n,C12_k,C13,C13_,K14,C15,K16,C17_,C17_n]
theorem fps4_f10{x:ByteArray}{i2_15:Int}{x5:ByteArray}{r6:Bool}{r7:ByteArray}(L1:loopG Tryz.prog (tab (n+43)) 0 118 (livesOf 14) 4 fps4_C4 (fps4_h4 a0 [] (⟨#[]⟩:ByteArray) 0)=some (.exit 0,fps4_o4a a0 out_4 str_4))(M2:W.length≤100000000)(C3:¬(W.length:Int)<2)(G4:0<W.length)(E5:W[0]?=some x)(C6:¬(x.size:Int)<2)(C8:¬6<(x.size:Int))(L9:loopG Tryz.prog (tab (n+43)) 0 118 (livesOf 14) 15 fps4_C15 (fps4_h15 a0 W 1 0)=some (.exit 2,fps4_o15a a0 W i2_15))(G10:1<W.length)(E11:W[1]?=some x5)(C12:x5=(⟨#[111,110]⟩:ByteArray))(C13:¬2<(W.length:Int))(K14:run (n+42) 12 [.agg [.lit (.int .i64 1),.lit (.int .i64 i2_15),.lit (.bool false),.sl 1 [],.sl 1 []]]=some (.lit (.bool r6)))(C15:r6=true)(K16:run (n+42) 10 [.agg [.lit (.int .i64 1),.lit (.int .i64 i2_15),.lit (.bool false),.sl 1 [],.sl 1 []]]=some (.lit (.string r7)))(C17:r7=a0):
  run (n+43) 14 [.lit (.string a0)]=some (.tup [.agg [.lit (.int .i64 1),.lit (.int .i64 i2_15),.lit (.bool false),.sl 1 [],.sl 1 []],.lit (.int .i64 0)]):=by
 have hWl:out_4.length+1=W.length:=by rw [←hW,List.length_append];rfl
 have hWi:(out_4.length:Int)+1=(W.length:Int):=by omega
 have hWm:out_4.map strC++[[.lit (.string str_4)]]=W.map strC:=by rw [←hW,List.map_append];rfl
 have M2_:∀b,b≤10000→roomy (W.length) b=true:=fun b hb=>roomy_s M2 hb
 have C3_:¬W.length<2:=by omega
 obtain ⟨EL5,EG5⟩:=List.getElem?_eq_some_iff.1 E5
 have C6_:¬x.size<2:=by omega
 have C8_:¬6<x.size:=by omega
 obtain ⟨EL11,EG11⟩:=List.getElem?_eq_some_iff.1 E11
 have C12_:(x5.toList==(⟨#[111,110]⟩:ByteArray).toList)=true:=by rw [C12];simp
 have C12_n:(x5.toList !=(⟨#[111,110]⟩:ByteArray).toList)=false:=by rw [bne,C12_];rfl
 have C12_k:(x5.toList==([111,110]:List UInt8))=true:=by rw [show ([111,110]:List UInt8)=(⟨#[111,110]⟩:ByteArray).toList by rw [ba_toList]];exact C12_
 have C13_:¬2<W.length:=by omega
 have C17_:(r7.toList==a0.toList)=true:=by rw [C17];simp
 have C17_n:(r7.toList !=a0.toList)=false:=by rw [bne,C17_];rfl
 rw [C15] at K14
 unfold run fnP
 simp+decide [hWl,hWi,hWm, Tryz.f14,M2_,C3,C3_,G4,EL5,EG5,E5,C6,C6_,C8,C8_,G10,EL11,EG11,E11,C12_,C12_n,C12_k,C13,C13_,K14,C15,K16,C17_,C17_n]
 rw [loopX_G (C':=fps4_C4) (e:=(fps4_h4 a0 [] (⟨#[]⟩:ByteArray) 0)) ?_ ?_,L1]
 rotate_left
 ·kernel_rfl
 ·simp+decide [hWl,hWi,hWm,fps4_h4,M2_,C3,C3_,G4,EL5,EG5,E5,C6,C6_,C8,C8_,G10,EL11,EG11,E11,C12_,C12_n,C12_k,C13,C13_,K14,C15,K16,C17_,C17_n]
 simp+decide [hWl,hWi,hWm,fps4_o4a,M2_,C3,C3_,G4,EL5,EG5,E5,C6,C6_,C8,C8_,G10,EL11,EG11,E11,C12_,C12_n,C12_k,C13,C13_,K14,C15,K16,C17_,C17_n]
 rw [loopX_G (C':=fps4_C15) (e:=(fps4_h15 a0 W 1 0)) ?_ ?_,L9]
 rotate_left
 ·kernel_rfl
 ·simp+decide [hWl,hWi,hWm,fps4_h15,M2_,C3,C3_,G4,EL5,EG5,E5,C6,C6_,C8,C8_,G10,EL11,EG11,E11,C12_,C12_n,C12_k,C13,C13_,K14,C15,K16,C17_,C17_n]
 simp+decide [hWl,hWi,hWm,fps4_o15a,M2_,C3,C3_,G4,EL5,EG5,E5,C6,C6_,C8,C8_,G10,EL11,EG11,E11,C12_,C12_n,C12_k,C13,C13_,K14,C15,K16,C17_,C17_n]
end
end
end
end Go.Proofs.YtnegdhjdienjlaaGreatDoor
