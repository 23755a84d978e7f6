import Derived.Test.YtnegdhjdienjlaaGreatDoorGA16
import Derived.Test.YtnegdhjdienjlaaGreatDoorGA17
import Derived.Test.YtnegdhjdienjlaaGreatDoorGA20
set_option linter.all false
set_option maxHeartbeats 6400000
set_option maxRecDepth 100000
namespace Go.Proofs.YtnegdhjdienjlaaGreatDoor
section
open Go.RowKit
section
variable {r : Int} {r3 : Bool} {r5 : Bool} {r2 : ByteArray} {sub2 : ByteArray} {r4 : Int} {n : Nat} {sub : ByteArray} {a0 : ByteArray} {r9 : Form} {r10 : Bool} {r11 : Bool} {r12 : Bool} {r8 : Bool} {r6 : List Form} {r7 : Int} {r13 : Form} {r14 : Bool} {r15 : Bool} {r16 : Bool} {r19 : Int} {r17 : ByteArray} {r20 : Bool} {r18 : Bool} {r25 : Bool} {r24 : Form} {r26 : Bool} {r27 : Bool} {r23 : Bool} {r22 : Int} {r21 : List Form} {r29 : Bool} {r28 : Form} {r30 : Bool} {r31 : Bool}
section
variable(K1:(oLastIndex) [.lit (.string a0),.lit (.string (⟨#[109,97,114,103,105,110]⟩:ByteArray))]=some (.lit (.int .i64 r)))
include K1
section
variable(C2:0≤r)(U3:0≤0∧0≤r∧r≤(a0.size:Int))(D3:sub=a0.extract 0 r.toNat)(W4:InI (r+6))(U5:0≤r+6∧r+6≤(a0.size:Int)∧(a0.size:Int)≤(a0.size:Int))(D5:sub2=a0.extract ((r+6).toNat) a0.size)(K6:(oTrimLeft) [.lit (.string sub),.lit (.string (⟨#[32]⟩:ByteArray))]=some (.lit (.string r2)))(K7:(oHasPrefix) [.lit (.string r2),.lit (.string (⟨#[116,111,112]⟩:ByteArray))]=some (.lit (.bool r3)))
include C2 U3 D3 W4 U5 D5 K6 K7
section
variable(C8:r3=true)(K9:run (n+13) 59 [.lit (.string sub)]=some (.tup [.lit (.int .i64 r4),.lit (.bool r5)]))
include C8 K9
theorem cpa_f1(C10:r5=false):
  run (n+14) 21 [.lit (.string a0)]=some (.tup [.agg [.lit (.int .i64 0),.lit (.int .i64 0),.lit (.bool false),.sl 1 [],.sl 1 [],.sl 4 []],.lit (.int .i64 0),.lit (.int .i64 4)]):=by
 have D3_:=D3.symm
 have W4_:IntKind.i64.wrap (r+6)=r+6:=wr64 W4.1 W4.2
 have D5_:=D5.symm
 rw [C8] at K7
 rw [C10] at K9
 unfold run fnP
 simp+decide [Tryz.f21,K1,C2,U3,D3_,W4_,U5,D5_,K6,K7,C8,K9,C10]
section
variable(C10:r5=true)(K11:run (n+13) 61 [.lit (.string sub2)]=some (.tup [formV r9,.lit (.bool r10)]))
include C10 K11
theorem cpa_f2(C12:r10=false):
  run (n+14) 21 [.lit (.string a0)]=some (.tup [.agg [.lit (.int .i64 0),.lit (.int .i64 0),.lit (.bool false),.sl 1 [],.sl 1 [],.sl 4 []],.lit (.int .i64 (r+6)),.lit (.int .i64 4)]):=by
 have D3_:=D3.symm
 have W4_:IntKind.i64.wrap (r+6)=r+6:=wr64 W4.1 W4.2
 have D5_:=D5.symm
 simp only [formV] at K11
 rw [C8] at K7
 rw [C10] at K9
 rw [C12] at K11
 unfold run fnP
 simp+decide [Tryz.f21,K1,C2,U3,D3_,W4_,U5,D5_,K6,K7,C8,K9,C10,K11,C12]
section
variable(C12:r10=true)(K13:(oContains) [.lit (.string sub2),.lit (.string (⟨#[121]⟩:ByteArray))]=some (.lit (.bool r11)))
include C12 K13
theorem cpa_f3(C14:r11=true):
  run (n+14) 21 [.lit (.string a0)]=some (.tup [.agg [.lit (.int .i64 0),.lit (.int .i64 0),.lit (.bool false),.sl 1 [],.sl 1 [],.sl 4 []],.lit (.int .i64 (r+6)),.lit (.int .i64 4)]):=by
 have D3_:=D3.symm
 have W4_:IntKind.i64.wrap (r+6)=r+6:=wr64 W4.1 W4.2
 have D5_:=D5.symm
 simp only [formV] at K11
 rw [C8] at K7
 rw [C10] at K9
 rw [C12] at K11
 rw [C14] at K13
 unfold run fnP
 simp+decide [Tryz.f21,K1,C2,U3,D3_,W4_,U5,D5_,K6,K7,C8,K9,C10,K11,C12,K13,C14]
section
variable(C14:r11=false)(K15:run (n+13) 44 [.agg [.lit (.int .i64 1),.lit (.int .i64 r4),.lit (.bool (rawQ r9.2).s),natA (rawQ r9.2).l1,natA (rawQ r9.2).l2,.sl 4 []],.lit (.int .i64 256)]=some (.lit (.bool r12)))
include C14 K15
theorem cpa_f4(C16:r12=false):
  run (n+14) 21 [.lit (.string a0)]=some (.tup [.agg [.lit (.int .i64 0),.lit (.int .i64 0),.lit (.bool false),.sl 1 [],.sl 1 [],.sl 4 []],.lit (.int .i64 0),.lit (.int .i64 1)]):=by
 have D3_:=D3.symm
 have W4_:IntKind.i64.wrap (r+6)=r+6:=wr64 W4.1 W4.2
 have D5_:=D5.symm
 simp only [formV] at K11
 rw [C8] at K7
 rw [C10] at K9
 rw [C12] at K11
 rw [C14] at K13
 rw [C16] at K15
 unfold run fnP
 simp+decide [Tryz.f21,K1,C2,U3,D3_,W4_,U5,D5_,K6,K7,C8,K9,C10,K11,C12,K13,C14,K15,C16]
theorem cpa_f5(C16:r12=true):
  run (n+14) 21 [.lit (.string a0)]=some (.tup [.agg [.lit (.int .i64 1),.lit (.int .i64 r4),.lit (.bool (rawQ r9.2).s),natA (rawQ r9.2).l1,natA (rawQ r9.2).l2,.sl 4 []],.lit (.int .i64 0),.lit (.int .i64 0)]):=by
 have D3_:=D3.symm
 have W4_:IntKind.i64.wrap (r+6)=r+6:=wr64 W4.1 W4.2
 have D5_:=D5.symm
 simp only [formV] at K11
 rw [C8] at K7
 rw [C10] at K9
 rw [C12] at K11
 rw [C14] at K13
 rw [C16] at K15
 unfold run fnP
 simp+decide [Tryz.f21,K1,C2,U3,D3_,W4_,U5,D5_,K6,K7,C8,K9,C10,K11,C12,K13,C14,K15,C16]
end
end
end
end
section
variable(C8:r3=false)(K9:run (n+13) 60 [.lit (.string sub)]=some (.tup [.sl 4 (r6.map formC),.lit (.int .i64 r7),.lit (.bool r8)]))
include C8 K9
theorem cpa_f6(C10:r8=false):
  run (n+14) 21 [.lit (.string a0)]=some (.tup [.agg [.lit (.int .i64 0),.lit (.int .i64 0),.lit (.bool false),.sl 1 [],.sl 1 [],.sl 4 []],.lit (.int .i64 r7),.lit (.int .i64 4)]):=by
 have D3_:=D3.symm
 have W4_:IntKind.i64.wrap (r+6)=r+6:=wr64 W4.1 W4.2
 have D5_:=D5.symm
 rw [C8] at K7
 rw [C10] at K9
 unfold run fnP
 simp+decide [Tryz.f21,K1,C2,U3,D3_,W4_,U5,D5_,K6,K7,C8,K9,C10]
section
variable(C10:r8=true)(K11:run (n+13) 61 [.lit (.string sub2)]=some (.tup [formV r13,.lit (.bool r14)]))
include C10 K11
theorem cpa_f7(C12:r14=false):
  run (n+14) 21 [.lit (.string a0)]=some (.tup [.agg [.lit (.int .i64 0),.lit (.int .i64 0),.lit (.bool false),.sl 1 [],.sl 1 [],.sl 4 []],.lit (.int .i64 (r+6)),.lit (.int .i64 4)]):=by
 have D3_:=D3.symm
 have W4_:IntKind.i64.wrap (r+6)=r+6:=wr64 W4.1 W4.2
 have D5_:=D5.symm
 simp only [formV] at K11
 rw [C8] at K7
 rw [C10] at K9
 rw [C12] at K11
 unfold run fnP
 simp+decide [Tryz.f21,K1,C2,U3,D3_,W4_,U5,D5_,K6,K7,C8,K9,C10,K11,C12]
section
variable(C12:r14=true)(K13:(oContains) [.lit (.string sub2),.lit (.string (⟨#[121]⟩:ByteArray))]=some (.lit (.bool r15)))
include C12 K13
theorem cpa_f8(C14:r15=true):
  run (n+14) 21 [.lit (.string a0)]=some (.tup [.agg [.lit (.int .i64 0),.lit (.int .i64 0),.lit (.bool false),.sl 1 [],.sl 1 [],.sl 4 []],.lit (.int .i64 (r+6)),.lit (.int .i64 4)]):=by
 have D3_:=D3.symm
 have W4_:IntKind.i64.wrap (r+6)=r+6:=wr64 W4.1 W4.2
 have D5_:=D5.symm
 simp only [formV] at K11
 rw [C8] at K7
 rw [C10] at K9
 rw [C12] at K11
 rw [C14] at K13
 unfold run fnP
 simp+decide [Tryz.f21,K1,C2,U3,D3_,W4_,U5,D5_,K6,K7,C8,K9,C10,K11,C12,K13,C14]
section
variable(C14:r15=false)(K15:run (n+13) 44 [.agg [.lit (.int .i64 2),.lit (.int .i64 0),.lit (.bool (rawQ r13.2).s),natA (rawQ r13.2).l1,natA (rawQ r13.2).l2,.sl 4 (r6.map formC)],.lit (.int .i64 256)]=some (.lit (.bool r16)))
include C14 K15
theorem cpa_f9(C16:r16=false):
  run (n+14) 21 [.lit (.string a0)]=some (.tup [.agg [.lit (.int .i64 0),.lit (.int .i64 0),.lit (.bool false),.sl 1 [],.sl 1 [],.sl 4 []],.lit (.int .i64 0),.lit (.int .i64 1)]):=by
 have D3_:=D3.symm
 have W4_:IntKind.i64.wrap (r+6)=r+6:=wr64 W4.1 W4.2
 have D5_:=D5.symm
 simp only [formV] at K11
 rw [C8] at K7
 rw [C10] at K9
 rw [C12] at K11
 rw [C14] at K13
 rw [C16] at K15
 unfold run fnP
 simp+decide [Tryz.f21,K1,C2,U3,D3_,W4_,U5,D5_,K6,K7,C8,K9,C10,K11,C12,K13,C14,K15,C16]
theorem cpa_f10(C16:r16=true):
  run (n+14) 21 [.lit (.string a0)]=some (.tup [.agg [.lit (.int .i64 2),.lit (.int .i64 0),.lit (.bool (rawQ r13.2).s),natA (rawQ r13.2).l1,natA (rawQ r13.2).l2,.sl 4 (r6.map formC)],.lit (.int .i64 0),.lit (.int .i64 0)]):=by
 have D3_:=D3.symm
 have W4_:IntKind.i64.wrap (r+6)=r+6:=wr64 W4.1 W4.2
 have D5_:=D5.symm
 simp only [formV] at K11
 rw [C8] at K7
 rw [C10] at K9
 rw [C12] at K11
 rw [C14] at K13
 rw [C16] at K15
 unfold run fnP
 simp+decide [Tryz.f21,K1,C2,U3,D3_,W4_,U5,D5_,K6,K7,C8,K9,C10,K11,C12,K13,C14,K15,C16]
end
end
end
end
end
section
variable(C2:¬0≤r)(K3:(oTrimLeft) [.lit (.string a0),.lit (.string (⟨#[32]⟩:ByteArray))]=some (.lit (.string r17)))(K4:(oHasPrefix) [.lit (.string r17),.lit (.string (⟨#[116,111,112]⟩:ByteArray))]=some (.lit (.bool r18)))
include C2 K3 K4
section
variable(C5:r18=true)(K6:run (n+13) 59 [.lit (.string a0)]=some (.tup [.lit (.int .i64 r19),.lit (.bool r20)]))
include C5 K6
theorem cpa_f11(C7:r20=false):
  run (n+14) 21 [.lit (.string a0)]=some (.tup [.agg [.lit (.int .i64 0),.lit (.int .i64 0),.lit (.bool false),.sl 1 [],.sl 1 [],.sl 4 []],.lit (.int .i64 0),.lit (.int .i64 4)]):=by
 rw [C5] at K4
 rw [C7] at K6
 unfold run fnP
 simp+decide [Tryz.f21,K1,C2,K3,K4,C5,K6,C7]
section
variable(C7:r20=true)(K8:run (n+13) 61 [.lit (.string (⟨#[48]⟩:ByteArray))]=some (.tup [formV r24,.lit (.bool r25)]))
include C7 K8
theorem cpa_f12(C9:r25=false)(W10:InI (r+6)):
  run (n+14) 21 [.lit (.string a0)]=some (.tup [.agg [.lit (.int .i64 0),.lit (.int .i64 0),.lit (.bool false),.sl 1 [],.sl 1 [],.sl 4 []],.lit (.int .i64 (r+6)),.lit (.int .i64 4)]):=by
 simp only [formV] at K8
 have W10_:IntKind.i64.wrap (r+6)=r+6:=wr64 W10.1 W10.2
 rw [C5] at K4
 rw [C7] at K6
 rw [C9] at K8
 unfold run fnP
 simp+decide [Tryz.f21,K1,C2,K3,K4,C5,K6,C7,K8,C9,W10_]
section
variable(C9:r25=true)(K10:(oContains) [.lit (.string (⟨#[48]⟩:ByteArray)),.lit (.string (⟨#[121]⟩:ByteArray))]=some (.lit (.bool r26)))(C11:r26=false)(K12:run (n+13) 44 [.agg [.lit (.int .i64 1),.lit (.int .i64 r19),.lit (.bool (rawQ r24.2).s),natA (rawQ r24.2).l1,natA (rawQ r24.2).l2,.sl 4 []],.lit (.int .i64 256)]=some (.lit (.bool r27)))
include C9 K10 C11 K12
theorem cpa_f14(C13:r27=false):
  run (n+14) 21 [.lit (.string a0)]=some (.tup [.agg [.lit (.int .i64 0),.lit (.int .i64 0),.lit (.bool false),.sl 1 [],.sl 1 [],.sl 4 []],.lit (.int .i64 0),.lit (.int .i64 1)]):=by
 simp only [formV] at K8
 rw [C5] at K4
 rw [C7] at K6
 rw [C9] at K8
 rw [C11] at K10
 rw [C13] at K12
 unfold run fnP
 simp+decide [Tryz.f21,K1,C2,K3,K4,C5,K6,C7,K8,C9,K10,C11,K12,C13]
theorem cpa_f15(C13:r27=true):
  run (n+14) 21 [.lit (.string a0)]=some (.tup [.agg [.lit (.int .i64 1),.lit (.int .i64 r19),.lit (.bool (rawQ r24.2).s),natA (rawQ r24.2).l1,natA (rawQ r24.2).l2,.sl 4 []],.lit (.int .i64 0),.lit (.int .i64 0)]):=by
 simp only [formV] at K8
 rw [C5] at K4
 rw [C7] at K6
 rw [C9] at K8
 rw [C11] at K10
 rw [C13] at K12
 unfold run fnP
 simp+decide [Tryz.f21,K1,C2,K3,K4,C5,K6,C7,K8,C9,K10,C11,K12,C13]
end
end
end
section
variable(C5:r18=false)(K6:run (n+13) 60 [.lit (.string a0)]=some (.tup [.sl 4 (r21.map formC),.lit (.int .i64 r22),.lit (.bool r23)]))
include C5 K6
theorem cpa_f16(C7:r23=false):
  run (n+14) 21 [.lit (.string a0)]=some (.tup [.agg [.lit (.int .i64 0),.lit (.int .i64 0),.lit (.bool false),.sl 1 [],.sl 1 [],.sl 4 []],.lit (.int .i64 r22),.lit (.int .i64 4)]):=by
 rw [C5] at K4
 rw [C7] at K6
 unfold run fnP
 simp+decide [Tryz.f21,K1,C2,K3,K4,C5,K6,C7]
section
variable(C7:r23=true)(K8:run (n+13) 61 [.lit (.string (⟨#[48]⟩:ByteArray))]=some (.tup [formV r28,.lit (.bool r29)]))
include C7 K8
theorem cpa_f17(C9:r29=false)(W10:InI (r+6)):
  run (n+14) 21 [.lit (.string a0)]=some (.tup [.agg [.lit (.int .i64 0),.lit (.int .i64 0),.lit (.bool false),.sl 1 [],.sl 1 [],.sl 4 []],.lit (.int .i64 (r+6)),.lit (.int .i64 4)]):=by
 simp only [formV] at K8
 have W10_:IntKind.i64.wrap (r+6)=r+6:=wr64 W10.1 W10.2
 rw [C5] at K4
 rw [C7] at K6
 rw [C9] at K8
 unfold run fnP
 simp+decide [Tryz.f21,K1,C2,K3,K4,C5,K6,C7,K8,C9,W10_]
section
variable(C9:r29=true)(K10:(oContains) [.lit (.string (⟨#[48]⟩:ByteArray)),.lit (.string (⟨#[121]⟩:ByteArray))]=some (.lit (.bool r30)))(C11:r30=false)(K12:run (n+13) 44 [.agg [.lit (.int .i64 2),.lit (.int .i64 0),.lit (.bool (rawQ r28.2).s),natA (rawQ r28.2).l1,natA (rawQ r28.2).l2,.sl 4 (r21.map formC)],.lit (.int .i64 256)]=some (.lit (.bool r31)))
include C9 K10 C11 K12
theorem cpa_f19(C13:r31=false):
  run (n+14) 21 [.lit (.string a0)]=some (.tup [.agg [.lit (.int .i64 0),.lit (.int .i64 0),.lit (.bool false),.sl 1 [],.sl 1 [],.sl 4 []],.lit (.int .i64 0),.lit (.int .i64 1)]):=by
 simp only [formV] at K8
 rw [C5] at K4
 rw [C7] at K6
 rw [C9] at K8
 rw [C11] at K10
 rw [C13] at K12
 unfold run fnP
 simp+decide [Tryz.f21,K1,C2,K3,K4,C5,K6,C7,K8,C9,K10,C11,K12,C13]
theorem cpa_f20(C13:r31=true):
  run (n+14) 21 [.lit (.string a0)]=some (.tup [.agg [.lit (.int .i64 2),.lit (.int .i64 0),.lit (.bool (rawQ r28.2).s),natA (rawQ r28.2).l1,natA (rawQ r28.2).l2,.sl 4 (r21.map formC)],.lit (.int .i64 0),.lit (.int .i64 0)]):=by
 simp only [formV] at K8
 rw [C5] at K4
 rw [C7] at K6
 rw [C9] at K8
 rw [C11] at K10
 rw [C13] at K12
 unfold run fnP
 simp+decide [Tryz.f21,K1,C2,K3,K4,C5,K6,C7,K8,C9,K10,C11,K12,C13]
end
end
end
end
end
end
end
section
open Go.RowKit
noncomputable def crw_C4:Code:=(loopsOf (bodyOf Tryz.f60)).getD 0 .skip
def crw_h4(out_4:List Form)(i_4:Int)(r:List ByteArray)(i2_4:Nat):St:=
 ⟨[(5,.own 0 out_4.length),(6,.lit (.int .i64 i_4)),(14,.sl 1 (r.map strC)),(15,.lit (.int .i64 (r.length:Int))),(16,.lit (.int .i64 (i2_4:Int)))],
  [(0,some (.row 79 4 (out_4.map formC) 0))],1⟩
def crw_o4a(i_4:Int)(out_4:List Form):St:=
 ⟨[(2,.own 0 0),(3,.lit (.int .i64 i_4)),(4,.lit (.bool false)),(5,.own 1 out_4.length)],
  [(0,some (.row 79 4 [] 0)),
   (1,some (.row 79 4 (out_4.map formC) 0))],2⟩
def crw_o4b(i_4:Int)(r16:Int)(out_4:List Form):St:=
 ⟨[(2,.own 0 0),(3,.lit (.int .i64 ((i_4+r16)+2))),(4,.lit (.bool false)),(5,.own 1 out_4.length)],
  [(0,some (.row 79 4 [] 0)),
   (1,some (.row 79 4 (out_4.map formC) 0))],2⟩
def crw_o4c(out_4:List Form):St:=
 ⟨[(2,.any),(3,.any),(4,.any),(5,.own 0 out_4.length)],
  [(0,some (.row 79 4 (out_4.map formC) 0))],1⟩
section
variable {i2_4 : Nat} {r : List ByteArray} {r20 : Bool} {b3 : UInt8} {r16 : Int} {r19 : Form} {sub5 : ByteArray} {n : Nat} {r21 : Form} {r17 : Form} {out_4 : List Form} {sub6 : ByteArray} {r18 : Bool} {x3 : ByteArray} {i_4 : Int} {r22 : Form} {a0 : ByteArray}
section
variable(C1:(i2_4:Int)<(r.length:Int))(E2:r[i2_4]?=some x3)(K3:run (n+12) 123 [.lit (.string x3)]=some (.lit (.int .i64 r16)))
include C1 E2 K3
section
variable(C4:¬r16<0)(U5:0≤0∧0≤r16∧r16≤(x3.size:Int))(D5:sub5=x3.extract 0 r16.toNat)(K6:run (n+12) 61 [.lit (.string sub5)]=some (.tup [formV r17,.lit (.bool r18)]))(C7:r18=true)(W8:InI (r16+2))(U9:0≤r16+2∧r16+2≤(x3.size:Int)∧(x3.size:Int)≤(x3.size:Int))(D9:sub6=x3.extract ((r16+2).toNat) x3.size)(K10:run (n+12) 61 [.lit (.string sub6)]=some (.tup [formV r19,.lit (.bool r20)]))(C11:r20=true)(E12:x3[r16.toNat]?=some b3)(Z12:0≤r16)
include C4 U5 D5 K6 C7 W8 U9 D9 K10 C11 E12 Z12
theorem crw_r4_1(C13:(b3.toNat:Int)=60)(K14:run (n+12) 92 [formV r19,formV r17]=some (formV r21))(M15:out_4.length+1≤100000000)(W16:InI ((x3.size:Int)+1))(W17:InI (i_4+((x3.size:Int)+1)))(W18:InI ((i2_4:Int)+1)):
  Cont 0 (exec Tryz.prog (tab (n+13)) 0 68 (livesOf 60) big crw_C4) (livesOf 60 4) (crw_h4 out_4 i_4 r i2_4) (crw_h4 (out_4++[r21]) (i_4+((x3.size:Int)+1)) r (i2_4+1)):=by
 have C1_:i2_4<r.length:=by omega
 obtain ⟨EL2,EG2⟩:=List.getElem?_eq_some_iff.1 E2
 have D5_:=D5.symm
 simp only [formV] at K6
 have W8_:IntKind.i64.wrap (r16+2)=r16+2:=wr64 W8.1 W8.2
 have D9_:=D9.symm
 simp only [formV] at K10
 have C13_:((b3.toNat:Int)==60)=true:=by rw [C13];simp
 have C13_n:((b3.toNat:Int) !=60)=false:=by rw [C13];simp
 simp only [formV] at K14
 have M15_:∀b,b≤10000→roomy (out_4.length+1) b=true:=fun b hb=>roomy_s M15 hb
 have W16_:IntKind.i64.wrap ((x3.size:Int)+1)=(x3.size:Int)+1:=wr64 W16.1 W16.2
 have W17_:IntKind.i64.wrap (i_4+((x3.size:Int)+1))=i_4+((x3.size:Int)+1):=wr64 W17.1 W17.2
 have W18_:IntKind.i64.wrap ((i2_4:Int)+1)=(i2_4:Int)+1:=wr64 W18.1 W18.2
 rw [C7] at K6
 rw [C11] at K10
 have EG12:∀h,(x3)[r16.toNat]'h=b3:=fun h=>Option.some.inj ((getElem?_pos (x3) (r16.toNat) h).symm.trans E12)
 unfold Cont
 simp+decide [EG12,crw_h4,loopsOf, Tryz.f60,crw_C4,C1,C1_,EL2,EG2,E2,K3,C4,U5,D5_,K6,C7,W8_,U9,D9_,K10,C11,E12,Z12,C13_,C13_n,K14,M15_,W16_,W17_,W18_]
theorem crw_r4_2(C13:¬(b3.toNat:Int)=60)(K14:run (n+12) 92 [formV r17,formV r19]=some (formV r22))(M15:out_4.length+1≤100000000)(W16:InI ((x3.size:Int)+1))(W17:InI (i_4+((x3.size:Int)+1)))(W18:InI ((i2_4:Int)+1)):
  Cont 0 (exec Tryz.prog (tab (n+13)) 0 68 (livesOf 60) big crw_C4) (livesOf 60 4) (crw_h4 out_4 i_4 r i2_4) (crw_h4 (out_4++[r22]) (i_4+((x3.size:Int)+1)) r (i2_4+1)):=by
 have C1_:i2_4<r.length:=by omega
 obtain ⟨EL2,EG2⟩:=List.getElem?_eq_some_iff.1 E2
 have D5_:=D5.symm
 simp only [formV] at K6
 have W8_:IntKind.i64.wrap (r16+2)=r16+2:=wr64 W8.1 W8.2
 have D9_:=D9.symm
 simp only [formV] at K10
 have C13_:((b3.toNat:Int)==60)=false:=by simpa using C13
 have C13_n:((b3.toNat:Int) !=60)=true:=by simpa using C13
 simp only [formV] at K14
 have M15_:∀b,b≤10000→roomy (out_4.length+1) b=true:=fun b hb=>roomy_s M15 hb
 have W16_:IntKind.i64.wrap ((x3.size:Int)+1)=(x3.size:Int)+1:=wr64 W16.1 W16.2
 have W17_:IntKind.i64.wrap (i_4+((x3.size:Int)+1))=i_4+((x3.size:Int)+1):=wr64 W17.1 W17.2
 have W18_:IntKind.i64.wrap ((i2_4:Int)+1)=(i2_4:Int)+1:=wr64 W18.1 W18.2
 rw [C7] at K6
 rw [C11] at K10
 have EG12:∀h,(x3)[r16.toNat]'h=b3:=fun h=>Option.some.inj ((getElem?_pos (x3) (r16.toNat) h).symm.trans E12)
 unfold Cont
 simp+decide [EG12,crw_h4,loopsOf, Tryz.f60,crw_C4,C1,C1_,EL2,EG2,E2,K3,C4,U5,D5_,K6,C7,W8_,U9,D9_,K10,C11,E12,Z12,C13_,C13_n,K14,M15_,W16_,W17_,W18_]
end
theorem crw_x4_1(C4:r16<0):
  Leave 0 (exec Tryz.prog (tab (n+13)) 0 68 (livesOf 60) big crw_C4) (livesOf 60 (outOf 4)) (crw_h4 out_4 i_4 r i2_4) (.ret) (crw_o4a i_4 out_4):=by
 have C1_:i2_4<r.length:=by omega
 obtain ⟨EL2,EG2⟩:=List.getElem?_eq_some_iff.1 E2
 unfold Leave
 simp+decide [crw_h4,loopsOf, Tryz.f60,crw_o4a,crw_C4,C1,C1_,EL2,EG2,E2,K3,C4]
section
variable(C4:¬r16<0)(U5:0≤0∧0≤r16∧r16≤(x3.size:Int))(D5:sub5=x3.extract 0 r16.toNat)(K6:run (n+12) 61 [.lit (.string sub5)]=some (.tup [formV r17,.lit (.bool r18)]))
include C4 U5 D5 K6
theorem crw_x4_2(C7:r18=false):
  Leave 0 (exec Tryz.prog (tab (n+13)) 0 68 (livesOf 60) big crw_C4) (livesOf 60 (outOf 4)) (crw_h4 out_4 i_4 r i2_4) (.ret) (crw_o4a i_4 out_4):=by
 have C1_:i2_4<r.length:=by omega
 obtain ⟨EL2,EG2⟩:=List.getElem?_eq_some_iff.1 E2
 have D5_:=D5.symm
 simp only [formV] at K6
 rw [C7] at K6
 unfold Leave
 simp+decide [crw_h4,loopsOf, Tryz.f60,crw_o4a,crw_C4,C1,C1_,EL2,EG2,E2,K3,C4,U5,D5_,K6,C7]
theorem crw_x4_3(C7:r18=true)(W8:InI (r16+2))(U9:0≤r16+2∧r16+2≤(x3.size:Int)∧(x3.size:Int)≤(x3.size:Int))(D9:sub6=x3.extract ((r16+2).toNat) x3.size)(K10:run (n+12) 61 [.lit (.string sub6)]=some (.tup [formV r19,.lit (.bool r20)]))(C11:r20=false)(W12:InI (i_4+r16))(W13:InI ((i_4+r16)+2)):
  Leave 0 (exec Tryz.prog (tab (n+13)) 0 68 (livesOf 60) big crw_C4) (livesOf 60 (outOf 4)) (crw_h4 out_4 i_4 r i2_4) (.ret) (crw_o4b i_4 r16 out_4):=by
 have C1_:i2_4<r.length:=by omega
 obtain ⟨EL2,EG2⟩:=List.getElem?_eq_some_iff.1 E2
 have D5_:=D5.symm
 simp only [formV] at K6
 have W8_:IntKind.i64.wrap (r16+2)=r16+2:=wr64 W8.1 W8.2
 have D9_:=D9.symm
 simp only [formV] at K10
 have W12_:IntKind.i64.wrap (i_4+r16)=i_4+r16:=wr64 W12.1 W12.2
 have W13_:IntKind.i64.wrap ((i_4+r16)+2)=(i_4+r16)+2:=wr64 W13.1 W13.2
 rw [C7] at K6
 rw [C11] at K10
 unfold Leave
 simp+decide [crw_h4,loopsOf, Tryz.f60,crw_o4b,crw_C4,C1,C1_,EL2,EG2,E2,K3,C4,U5,D5_,K6,C7,W8_,U9,D9_,K10,C11,W12_,W13_]
end
end
theorem crw_x4_4(C1:¬(i2_4:Int)<(r.length:Int)):
  Leave 0 (exec Tryz.prog (tab (n+13)) 0 68 (livesOf 60) big crw_C4) (livesOf 60 (outOf 4)) (crw_h4 out_4 i_4 r i2_4) (.exit 0) (crw_o4c out_4):=by
 have C1_:¬i2_4<r.length:=by omega
 unfold Leave
 simp+decide [crw_h4,loopsOf, Tryz.f60,crw_o4c,crw_C4,C1,C1_]
section
variable(K1:(oSplit) [.lit (.string a0),.lit (.string (⟨#[59]⟩:ByteArray))]=some (.sl 1 (r.map strC)))
include K1
theorem crw_f1(L2:loopG Tryz.prog (tab (n+13)) 0 68 (livesOf 60) 4 crw_C4 (crw_h4 [] 0 r 0)=some (.ret,crw_o4a i_4 out_4)):
  run (n+13) 60 [.lit (.string a0)]=some (.tup [.sl 4 [],.lit (.int .i64 i_4),.lit (.bool false)]):=by
 unfold run fnP
 simp+decide [Tryz.f60,K1]
 rw [loopX_G (C':=crw_C4) (e:=(crw_h4 [] 0 r 0)) ?_ ?_,L2]
 rotate_left
 ·kernel_rfl
 ·simp+decide [crw_h4,K1]
 simp+decide [crw_o4a,K1]
theorem crw_f2(L2:loopG Tryz.prog (tab (n+13)) 0 68 (livesOf 60) 4 crw_C4 (crw_h4 [] 0 r 0)=some (.ret,crw_o4b i_4 r16 out_4)):
  run (n+13) 60 [.lit (.string a0)]=some (.tup [.sl 4 [],.lit (.int .i64 ((i_4+r16)+2)),.lit (.bool false)]):=by
 unfold run fnP
 simp+decide [Tryz.f60,K1]
 rw [loopX_G (C':=crw_C4) (e:=(crw_h4 [] 0 r 0)) ?_ ?_,L2]
 rotate_left
 ·kernel_rfl
 ·simp+decide [crw_h4,K1]
 simp+decide [crw_o4b,K1]
theorem crw_f3(L2:loopG Tryz.prog (tab (n+13)) 0 68 (livesOf 60) 4 crw_C4 (crw_h4 [] 0 r 0)=some (.exit 0,crw_o4c out_4)):
  run (n+13) 60 [.lit (.string a0)]=some (.tup [.sl 4 (out_4.map formC),.lit (.int .i64 0),.lit (.bool true)]):=by
 unfold run fnP
 simp+decide [Tryz.f60,K1]
 rw [loopX_G (C':=crw_C4) (e:=(crw_h4 [] 0 r 0)) ?_ ?_,L2]
 rotate_left
 ·kernel_rfl
 ·simp+decide [crw_h4,K1]
 simp+decide [crw_o4c,K1]
end
end
noncomputable def frw_C2:Code:=(loopsOf (bodyOf Tryz.f66)).getD 0 .skip
def frw_h2(a0:ByteArray)(a1:Int)(i_2:Nat):St:=
 ⟨[(0,.lit (.string a0)),(1,.lit (.int .i64 a1)),(4,.ptr 0 0),(7,.lit (.int .i64 (i_2:Int)))],
  [(0,some (.box 79 [.nl 4,.lit (.bool false),.nl 1,.nl 1] false))],1⟩
def frw_o2a(a1:Int):St:=
 ⟨[(1,.lit (.int .i64 a1)),(4,.ptr 0 0),(5,.lit (.int .i64 a1)),(6,.lit (.bool false))],
  [(0,some (.box 79 [.nl 4,.lit (.bool false),.nl 1,.nl 1] false))],1⟩
def frw_o2b(a1:Int)(i_2:Nat):St:=
 ⟨[(1,.lit (.int .i64 a1)),(4,.ptr 0 0),(5,.lit (.int .i64 ((a1+(i_2:Int))+2))),(6,.lit (.bool false))],
  [(0,some (.box 79 [.nl 4,.lit (.bool false),.nl 1,.nl 1] false))],1⟩
def frw_o2c(a1:Int)(r25:Form):St:=
 ⟨[(1,.lit (.int .i64 a1)),(4,.ptr 0 0),(5,.lit (.int .i64 0)),(6,.lit (.bool true))],
  [(0,some (.box 79 [.sl 4 (r25.1.map termC),.lit (.bool (rawQ r25.2).s),natA (rawQ r25.2).l1,natA (rawQ r25.2).l2] false))],1⟩
def frw_o2d(a1:Int)(r30:Form):St:=
 ⟨[(1,.lit (.int .i64 a1)),(4,.ptr 0 0),(5,.lit (.int .i64 0)),(6,.lit (.bool true))],
  [(0,some (.box 79 [.sl 4 (r30.1.map termC),.lit (.bool (rawQ r30.2).s),natA (rawQ r30.2).l1,natA (rawQ r30.2).l2] false))],1⟩
def frw_o2e(a1:Int):St:=
 ⟨[(1,.lit (.int .i64 a1)),(4,.ptr 0 0),(5,.any),(6,.any)],
  [(0,some (.box 79 [.nl 4,.lit (.bool false),.nl 1,.nl 1] false))],1⟩
section
variable {a1 : Int} {i_2 : Nat} {n : Nat} {b5 : UInt8} {a0 : ByteArray} {b6 : UInt8} {sub9 : ByteArray} {r22 : Bool} {r21 : Form} {r23 : Form} {r24 : Bool} {sub10 : ByteArray} {r25 : Form} {r26 : Form} {sub11 : ByteArray} {r27 : Bool} {r28 : Form} {sub12 : ByteArray} {r29 : Bool} {r30 : Form}
section
variable(W1:InI ((i_2:Int)+1))
include W1
section
variable(C2:(i_2:Int)+1<(a0.size:Int))(E4:a0[i_2+1]?=some b5)
include C2 E4
theorem frw_r2_1(C5:¬(b5.toNat:Int)=61):
  Cont 0 (exec Tryz.prog (tab (n+7)) 0 72 (livesOf 66) big frw_C2) (livesOf 66 2) (frw_h2 a0 a1 i_2) (frw_h2 a0 a1 (i_2+1)):=by
 have W1_:IntKind.i64.wrap ((i_2:Int)+1)=(i_2:Int)+1:=wr64 W1.1 W1.2
 have C2_:i_2+1<a0.size:=by omega
 have C5_:((b5.toNat:Int)==61)=false:=by simpa using C5
 have C5_n:((b5.toNat:Int) !=61)=true:=by simpa using C5
 have EG4:∀h,(a0)[i_2+1]'h=b5:=fun h=>Option.some.inj ((getElem?_pos (a0) (i_2+1) h).symm.trans E4)
 have Z9:(0:Int)≤(i_2:Int)+1:=by omega
 unfold Cont
 simp+decide [Z9,EG4,frw_h2,loopsOf, Tryz.f66,frw_C2,W1_,C2,C2_,E4,C5_,C5_n]
section
variable(C5:(b5.toNat:Int)=61)(E6:a0[i_2]?=some b6)
include C5 E6
theorem frw_r2_2(C7:¬(b6.toNat:Int)=60)(C8:¬(b6.toNat:Int)=62):
  Cont 0 (exec Tryz.prog (tab (n+7)) 0 72 (livesOf 66) big frw_C2) (livesOf 66 2) (frw_h2 a0 a1 i_2) (frw_h2 a0 a1 (i_2+1)):=by
 have W1_:IntKind.i64.wrap ((i_2:Int)+1)=(i_2:Int)+1:=wr64 W1.1 W1.2
 have C2_:i_2+1<a0.size:=by omega
 have C5_:((b5.toNat:Int)==61)=true:=by rw [C5];simp
 have C5_n:((b5.toNat:Int) !=61)=false:=by rw [C5];simp
 have C7_:((b6.toNat:Int)==60)=false:=by simpa using C7
 have C7_n:((b6.toNat:Int) !=60)=true:=by simpa using C7
 have C8_:((b6.toNat:Int)==62)=false:=by simpa using C8
 have C8_n:((b6.toNat:Int) !=62)=true:=by simpa using C8
 have EG4:∀h,(a0)[i_2+1]'h=b5:=fun h=>Option.some.inj ((getElem?_pos (a0) (i_2+1) h).symm.trans E4)
 have EG6:∀h,(a0)[i_2]'h=b6:=fun h=>Option.some.inj ((getElem?_pos (a0) (i_2) h).symm.trans E6)
 have Z9:(0:Int)≤(i_2:Int)+1:=by omega
 unfold Cont
 simp+decide [Z9,EG4,EG6,frw_h2,loopsOf, Tryz.f66,frw_C2,W1_,C2,C2_,E4,C5_,C5_n,E6,C7_,C7_n,C8_,C8_n]
section
variable(C7:¬(b6.toNat:Int)=60)(C8:(b6.toNat:Int)=62)(U9:0≤0∧0≤(i_2:Int)∧(i_2:Int)≤(a0.size:Int))(D9:sub9=a0.extract 0 i_2)(K10:run (n+6) 67 [.lit (.string sub9)]=some (.tup [formV r21,.lit (.bool r22)]))
include C7 C8 U9 D9 K10
theorem frw_x2_1(C11:r22=false):
  Leave 0 (exec Tryz.prog (tab (n+7)) 0 72 (livesOf 66) big frw_C2) (livesOf 66 (outOf 2)) (frw_h2 a0 a1 i_2) (.ret) (frw_o2a a1):=by
 have W1_:IntKind.i64.wrap ((i_2:Int)+1)=(i_2:Int)+1:=wr64 W1.1 W1.2
 have C2_:i_2+1<a0.size:=by omega
 have C5_:((b5.toNat:Int)==61)=true:=by rw [C5];simp
 have C5_n:((b5.toNat:Int) !=61)=false:=by rw [C5];simp
 have C7_:((b6.toNat:Int)==60)=false:=by simpa using C7
 have C7_n:((b6.toNat:Int) !=60)=true:=by simpa using C7
 have C8_:((b6.toNat:Int)==62)=true:=by rw [C8];simp
 have C8_n:((b6.toNat:Int) !=62)=false:=by rw [C8];simp
 have D9_:=D9.symm
 simp only [formV] at K10
 have EG4:∀h,(a0)[i_2+1]'h=b5:=fun h=>Option.some.inj ((getElem?_pos (a0) (i_2+1) h).symm.trans E4)
 have EG6:∀h,(a0)[i_2]'h=b6:=fun h=>Option.some.inj ((getElem?_pos (a0) (i_2) h).symm.trans E6)
 rw [C11] at K10
 have Z9:(0:Int)≤(i_2:Int)+1:=by omega
 unfold Leave
 simp+decide [Z9,EG4,EG6,frw_h2,loopsOf, Tryz.f66,frw_o2a,frw_C2,W1_,C2,C2_,E4,C5_,C5_n,E6,C7_,C7_n,C8_,C8_n,U9,D9_,K10,C11]
section
variable(C11:r22=true)(W12:InI ((i_2:Int)+2))(U13:0≤(i_2:Int)+2∧(i_2:Int)+2≤(a0.size:Int)∧(a0.size:Int)≤(a0.size:Int))(D13:sub10=a0.extract (i_2+2) a0.size)(K14:run (n+6) 67 [.lit (.string sub10)]=some (.tup [formV r23,.lit (.bool r24)]))
include C11 W12 U13 D13 K14
theorem frw_x2_2(C15:r24=false)(W16:InI (a1+(i_2:Int)))(W17:InI ((a1+(i_2:Int))+2)):
  Leave 0 (exec Tryz.prog (tab (n+7)) 0 72 (livesOf 66) big frw_C2) (livesOf 66 (outOf 2)) (frw_h2 a0 a1 i_2) (.ret) (frw_o2b a1 i_2):=by
 have W1_:IntKind.i64.wrap ((i_2:Int)+1)=(i_2:Int)+1:=wr64 W1.1 W1.2
 have C2_:i_2+1<a0.size:=by omega
 have C5_:((b5.toNat:Int)==61)=true:=by rw [C5];simp
 have C5_n:((b5.toNat:Int) !=61)=false:=by rw [C5];simp
 have C7_:((b6.toNat:Int)==60)=false:=by simpa using C7
 have C7_n:((b6.toNat:Int) !=60)=true:=by simpa using C7
 have C8_:((b6.toNat:Int)==62)=true:=by rw [C8];simp
 have C8_n:((b6.toNat:Int) !=62)=false:=by rw [C8];simp
 have D9_:=D9.symm
 simp only [formV] at K10
 have W12_:IntKind.i64.wrap ((i_2:Int)+2)=(i_2:Int)+2:=wr64 W12.1 W12.2
 have D13_:=D13.symm
 simp only [formV] at K14
 have W16_:IntKind.i64.wrap (a1+(i_2:Int))=a1+(i_2:Int):=wr64 W16.1 W16.2
 have W17_:IntKind.i64.wrap ((a1+(i_2:Int))+2)=(a1+(i_2:Int))+2:=wr64 W17.1 W17.2
 have EG4:∀h,(a0)[i_2+1]'h=b5:=fun h=>Option.some.inj ((getElem?_pos (a0) (i_2+1) h).symm.trans E4)
 have EG6:∀h,(a0)[i_2]'h=b6:=fun h=>Option.some.inj ((getElem?_pos (a0) (i_2) h).symm.trans E6)
 rw [C11] at K10
 rw [C15] at K14
 have Z9:(0:Int)≤(i_2:Int)+1:=by omega
 have Z8:((i_2:Int)+2).toNat=i_2+2:=by omega
 unfold Leave
 simp+decide [Z8,Z9,EG4,EG6,frw_h2,loopsOf, Tryz.f66,frw_o2b,frw_C2,W1_,C2,C2_,E4,C5_,C5_n,E6,C7_,C7_n,C8_,C8_n,U9,D9_,K10,C11,W12_,U13,D13_,K14,C15,W16_,W17_]
theorem frw_x2_3(C15:r24=true)(K16:run (n+6) 127 [formV r21,formV r23]=some (formV r25)):
  Leave 0 (exec Tryz.prog (tab (n+7)) 0 72 (livesOf 66) big frw_C2) (livesOf 66 (outOf 2)) (frw_h2 a0 a1 i_2) (.ret) (frw_o2c a1 r25):=by
 have W1_:IntKind.i64.wrap ((i_2:Int)+1)=(i_2:Int)+1:=wr64 W1.1 W1.2
 have C2_:i_2+1<a0.size:=by omega
 have C5_:((b5.toNat:Int)==61)=true:=by rw [C5];simp
 have C5_n:((b5.toNat:Int) !=61)=false:=by rw [C5];simp
 have C7_:((b6.toNat:Int)==60)=false:=by simpa using C7
 have C7_n:((b6.toNat:Int) !=60)=true:=by simpa using C7
 have C8_:((b6.toNat:Int)==62)=true:=by rw [C8];simp
 have C8_n:((b6.toNat:Int) !=62)=false:=by rw [C8];simp
 have D9_:=D9.symm
 simp only [formV] at K10
 have W12_:IntKind.i64.wrap ((i_2:Int)+2)=(i_2:Int)+2:=wr64 W12.1 W12.2
 have D13_:=D13.symm
 simp only [formV] at K14
 simp only [formV] at K16
 have EG4:∀h,(a0)[i_2+1]'h=b5:=fun h=>Option.some.inj ((getElem?_pos (a0) (i_2+1) h).symm.trans E4)
 have EG6:∀h,(a0)[i_2]'h=b6:=fun h=>Option.some.inj ((getElem?_pos (a0) (i_2) h).symm.trans E6)
 rw [C11] at K10
 rw [C15] at K14
 have Z9:(0:Int)≤(i_2:Int)+1:=by omega
 have Z8:((i_2:Int)+2).toNat=i_2+2:=by omega
 unfold Leave
 simp+decide [Z8,Z9,EG4,EG6,frw_h2,loopsOf, Tryz.f66,frw_o2c,frw_C2,W1_,C2,C2_,E4,C5_,C5_n,E6,C7_,C7_n,C8_,C8_n,U9,D9_,K10,C11,W12_,U13,D13_,K14,C15,K16]
end
end
section
variable(C7:(b6.toNat:Int)=60)(U8:0≤0∧0≤(i_2:Int)∧(i_2:Int)≤(a0.size:Int))(D8:sub11=a0.extract 0 i_2)(K9:run (n+6) 67 [.lit (.string sub11)]=some (.tup [formV r26,.lit (.bool r27)]))
include C7 U8 D8 K9
theorem frw_x2_4(C10:r27=false):
  Leave 0 (exec Tryz.prog (tab (n+7)) 0 72 (livesOf 66) big frw_C2) (livesOf 66 (outOf 2)) (frw_h2 a0 a1 i_2) (.ret) (frw_o2a a1):=by
 have W1_:IntKind.i64.wrap ((i_2:Int)+1)=(i_2:Int)+1:=wr64 W1.1 W1.2
 have C2_:i_2+1<a0.size:=by omega
 have C5_:((b5.toNat:Int)==61)=true:=by rw [C5];simp
 have C5_n:((b5.toNat:Int) !=61)=false:=by rw [C5];simp
 have C7_:((b6.toNat:Int)==60)=true:=by rw [C7];simp
 have C7_n:((b6.toNat:Int) !=60)=false:=by rw [C7];simp
 have D8_:=D8.symm
 simp only [formV] at K9
 have EG4:∀h,(a0)[i_2+1]'h=b5:=fun h=>Option.some.inj ((getElem?_pos (a0) (i_2+1) h).symm.trans E4)
 have EG6:∀h,(a0)[i_2]'h=b6:=fun h=>Option.some.inj ((getElem?_pos (a0) (i_2) h).symm.trans E6)
 rw [C10] at K9
 have Z9:(0:Int)≤(i_2:Int)+1:=by omega
 unfold Leave
 simp+decide [Z9,EG4,EG6,frw_h2,loopsOf, Tryz.f66,frw_o2a,frw_C2,W1_,C2,C2_,E4,C5_,C5_n,E6,C7_,C7_n,U8,D8_,K9,C10]
section
variable(C10:r27=true)(W11:InI ((i_2:Int)+2))(U12:0≤(i_2:Int)+2∧(i_2:Int)+2≤(a0.size:Int)∧(a0.size:Int)≤(a0.size:Int))(D12:sub12=a0.extract (i_2+2) a0.size)(K13:run (n+6) 67 [.lit (.string sub12)]=some (.tup [formV r28,.lit (.bool r29)]))
include C10 W11 U12 D12 K13
theorem frw_x2_5(C14:r29=false)(W15:InI (a1+(i_2:Int)))(W16:InI ((a1+(i_2:Int))+2)):
  Leave 0 (exec Tryz.prog (tab (n+7)) 0 72 (livesOf 66) big frw_C2) (livesOf 66 (outOf 2)) (frw_h2 a0 a1 i_2) (.ret) (frw_o2b a1 i_2):=by
 have W1_:IntKind.i64.wrap ((i_2:Int)+1)=(i_2:Int)+1:=wr64 W1.1 W1.2
 have C2_:i_2+1<a0.size:=by omega
 have C5_:((b5.toNat:Int)==61)=true:=by rw [C5];simp
 have C5_n:((b5.toNat:Int) !=61)=false:=by rw [C5];simp
 have C7_:((b6.toNat:Int)==60)=true:=by rw [C7];simp
 have C7_n:((b6.toNat:Int) !=60)=false:=by rw [C7];simp
 have D8_:=D8.symm
 simp only [formV] at K9
 have W11_:IntKind.i64.wrap ((i_2:Int)+2)=(i_2:Int)+2:=wr64 W11.1 W11.2
 have D12_:=D12.symm
 simp only [formV] at K13
 have W15_:IntKind.i64.wrap (a1+(i_2:Int))=a1+(i_2:Int):=wr64 W15.1 W15.2
 have W16_:IntKind.i64.wrap ((a1+(i_2:Int))+2)=(a1+(i_2:Int))+2:=wr64 W16.1 W16.2
 have EG4:∀h,(a0)[i_2+1]'h=b5:=fun h=>Option.some.inj ((getElem?_pos (a0) (i_2+1) h).symm.trans E4)
 have EG6:∀h,(a0)[i_2]'h=b6:=fun h=>Option.some.inj ((getElem?_pos (a0) (i_2) h).symm.trans E6)
 rw [C10] at K9
 rw [C14] at K13
 have Z9:(0:Int)≤(i_2:Int)+1:=by omega
 have Z8:((i_2:Int)+2).toNat=i_2+2:=by omega
 unfold Leave
 simp+decide [Z8,Z9,EG4,EG6,frw_h2,loopsOf, Tryz.f66,frw_o2b,frw_C2,W1_,C2,C2_,E4,C5_,C5_n,E6,C7_,C7_n,U8,D8_,K9,C10,W11_,U12,D12_,K13,C14,W15_,W16_]
theorem frw_x2_6(C14:r29=true)(K15:run (n+6) 127 [formV r28,formV r26]=some (formV r30)):
  Leave 0 (exec Tryz.prog (tab (n+7)) 0 72 (livesOf 66) big frw_C2) (livesOf 66 (outOf 2)) (frw_h2 a0 a1 i_2) (.ret) (frw_o2d a1 r30):=by
 have W1_:IntKind.i64.wrap ((i_2:Int)+1)=(i_2:Int)+1:=wr64 W1.1 W1.2
 have C2_:i_2+1<a0.size:=by omega
 have C5_:((b5.toNat:Int)==61)=true:=by rw [C5];simp
 have C5_n:((b5.toNat:Int) !=61)=false:=by rw [C5];simp
 have C7_:((b6.toNat:Int)==60)=true:=by rw [C7];simp
 have C7_n:((b6.toNat:Int) !=60)=false:=by rw [C7];simp
 have D8_:=D8.symm
 simp only [formV] at K9
 have W11_:IntKind.i64.wrap ((i_2:Int)+2)=(i_2:Int)+2:=wr64 W11.1 W11.2
 have D12_:=D12.symm
 simp only [formV] at K13
 simp only [formV] at K15
 have EG4:∀h,(a0)[i_2+1]'h=b5:=fun h=>Option.some.inj ((getElem?_pos (a0) (i_2+1) h).symm.trans E4)
 have EG6:∀h,(a0)[i_2]'h=b6:=fun h=>Option.some.inj ((getElem?_pos (a0) (i_2) h).symm.trans E6)
 rw [C10] at K9
 rw [C14] at K13
 have Z9:(0:Int)≤(i_2:Int)+1:=by omega
 have Z8:((i_2:Int)+2).toNat=i_2+2:=by omega
 unfold Leave
 simp+decide [Z8,Z9,EG4,EG6,frw_h2,loopsOf, Tryz.f66,frw_o2d,frw_C2,W1_,C2,C2_,E4,C5_,C5_n,E6,C7_,C7_n,U8,D8_,K9,C10,W11_,U12,D12_,K13,C14,K15]
end
end
end
end
theorem frw_x2_7(C2:¬(i_2:Int)+1<(a0.size:Int)):
  Leave 0 (exec Tryz.prog (tab (n+7)) 0 72 (livesOf 66) big frw_C2) (livesOf 66 (outOf 2)) (frw_h2 a0 a1 i_2) (.exit 0) (frw_o2e a1):=by
 have W1_:IntKind.i64.wrap ((i_2:Int)+1)=(i_2:Int)+1:=wr64 W1.1 W1.2
 have C2_:¬i_2+1<a0.size:=by omega
 unfold Leave
 simp+decide [frw_h2,loopsOf, Tryz.f66,frw_o2e,frw_C2,W1_,C2,C2_]
end
theorem frw_f1(L1:loopG Tryz.prog (tab (n+7)) 0 72 (livesOf 66) 2 frw_C2 (frw_h2 a0 a1 0)=some (.ret,frw_o2a a1)):
  run (n+7) 66 [.lit (.string a0),.lit (.int .i64 a1)]=some (.tup [.agg [.sl 4 [],.lit (.bool false),.sl 1 [],.sl 1 []],.lit (.int .i64 a1),.lit (.bool false)]):=by
 unfold run fnP
 simp+decide [Tryz.f66]
 rw [loopX_G (C':=frw_C2) (e:=(frw_h2 a0 a1 0)) ?_ ?_,L1]
 rotate_left
 ·kernel_rfl
 ·simp+decide [frw_h2]
 simp+decide [frw_o2a]
theorem frw_f2(L1:loopG Tryz.prog (tab (n+7)) 0 72 (livesOf 66) 2 frw_C2 (frw_h2 a0 a1 0)=some (.ret,frw_o2b a1 i_2)):
  run (n+7) 66 [.lit (.string a0),.lit (.int .i64 a1)]=some (.tup [.agg [.sl 4 [],.lit (.bool false),.sl 1 [],.sl 1 []],.lit (.int .i64 ((a1+(i_2:Int))+2)),.lit (.bool false)]):=by
 unfold run fnP
 simp+decide [Tryz.f66]
 rw [loopX_G (C':=frw_C2) (e:=(frw_h2 a0 a1 0)) ?_ ?_,L1]
 rotate_left
 ·kernel_rfl
 ·simp+decide [frw_h2]
 simp+decide [frw_o2b]
theorem frw_f3(L1:loopG Tryz.prog (tab (n+7)) 0 72 (livesOf 66) 2 frw_C2 (frw_h2 a0 a1 0)=some (.ret,frw_o2c a1 r25)):
  run (n+7) 66 [.lit (.string a0),.lit (.int .i64 a1)]=some (.tup [formV r25,.lit (.int .i64 0),.lit (.bool true)]):=by
 unfold run fnP
 simp+decide [Tryz.f66]
 rw [loopX_G (C':=frw_C2) (e:=(frw_h2 a0 a1 0)) ?_ ?_,L1]
 rotate_left
 ·kernel_rfl
 ·simp+decide [frw_h2]
 simp+decide [frw_o2c]
theorem frw_f4(L1:loopG Tryz.prog (tab (n+7)) 0 72 (livesOf 66) 2 frw_C2 (frw_h2 a0 a1 0)=some (.ret,frw_o2d a1 r30)):
  run (n+7) 66 [.lit (.string a0),.lit (.int .i64 a1)]=some (.tup [formV r30,.lit (.int .i64 0),.lit (.bool true)]):=by
 unfold run fnP
 simp+decide [Tryz.f66]
 rw [loopX_G (C':=frw_C2) (e:=(frw_h2 a0 a1 0)) ?_ ?_,L1]
 rotate_left
 ·kernel_rfl
 ·simp+decide [frw_h2]
 simp+decide [frw_o2d]
theorem frw_f5(L1:loopG Tryz.prog (tab (n+7)) 0 72 (livesOf 66) 2 frw_C2 (frw_h2 a0 a1 0)=some (.exit 0,frw_o2e a1)):
  run (n+7) 66 [.lit (.string a0),.lit (.int .i64 a1)]=some (.tup [.agg [.sl 4 [],.lit (.bool false),.sl 1 [],.sl 1 []],.lit (.int .i64 a1),.lit (.bool false)]):=by
 unfold run fnP
 simp+decide [Tryz.f66]
 rw [loopX_G (C':=frw_C2) (e:=(frw_h2 a0 a1 0)) ?_ ?_,L1]
 rotate_left
 ·kernel_rfl
 ·simp+decide [frw_h2]
 simp+decide [frw_o2e]
end
end
section
open Go.RowKit
section
variable {a0 : Tparser} {n : Nat} {z : Int} {r : Bool} {r3 : Bool} {r5 : AV} {r2 : ByteArray} {z2 : Int} {r4 : Int}
section
variable(K1:runL (n+8) 176 [.ptr 0 0,.lit (.string (⟨#[120]⟩:ByteArray))] [.box 201 [.lit (.string a0.s),.lit (.int .i64 (a0.at_))] false]=some (.lit (.bool r),[(0,.box 201 [.lit (.string a0.s),.lit (.int .i64 z)] false)]))
include K1
theorem lvr_f1(C2:r=false):
  runL (n+9) 224 [.ptr 0 0] [.box 201 [.lit (.string a0.s),.lit (.int .i64 (a0.at_))] false]=some (.tup [.lit (.int .i64 0),.lit (.bool false)],[(0,.box 201 [.lit (.string a0.s),.lit (.int .i64 z)] false)]):=by
 rw [C2] at K1
 unfold runL fnL
 simp+decide [Tryz.f224,K1,C2]
theorem lvr_f2(C2:r=true)(W3:InI (z+1))(K4:runL (n+8) 221 [.ptr 0 0,.lit (.int .i64 9),.lit (.bool true)] [.box 201 [.lit (.string a0.s),.lit (.int .i64 (z+1))] false]=some (.tup [.lit (.string r2),.lit (.bool r3)],[(0,.box 201 [.lit (.string a0.s),.lit (.int .i64 z2)] false)]))(K5:(oAtoi) [.lit (.string r2)]=some (.tup [.lit (.int .i64 r4),r5])):
  runL (n+9) 224 [.ptr 0 0] [.box 201 [.lit (.string a0.s),.lit (.int .i64 (a0.at_))] false]=some (.tup [.lit (.int .i64 r4),.lit (.bool r3)],[(0,.box 201 [.lit (.string a0.s),.lit (.int .i64 z2)] false)]):=by
 have W3_:IntKind.i64.wrap (z+1)=z+1:=wr64 W3.1 W3.2
 rw [C2] at K1
 unfold runL fnL
 simp+decide [Tryz.f224,K1,C2,W3_,K4,K5]
end
end
end
section
open Go.RowKit
section
variable{r:List Nat}{r3:ByteArray}{r2:Bool}{a1:Form}{a2:Bool}{z2:Int}{z:Int}{n:Nat}{r4:Bool}{a0:Tparser}{r5:List Nat}{z3:Int}{z6:Int}{z4:Int}{r8:Bool}{z5:Int}{r6:Bool}{r7:ByteArray}{r9:List Nat}{z7:Int}{r10:Bool}{r11:Form}{z8:Int}{r15:Bool}{r14:Int}{z9:Int}{z12:Int}{r16:Form}{R:List (Int × Rat)}{z10:Int}{r12:Bool}{r13:Form}{r18:Bool}{z13:Int}{r17:Int}{z11:Int}{r19:Form}{R2:List (Int × Rat)}{r21:Bool}{z14:Int}{r20:Int}{r22:Form}{R3:List (Int × Rat)}
section
variable(K1:(oU fun k=>natA (lmb k)) [.lit (.int .u64 1)]=some (natA r))(K2:runL (n+9) 176 [.ptr 0 0,.lit (.string (⟨#[120]⟩:ByteArray))] [.box 201 [.lit (.string a0.s),.lit (.int .i64 (a0.at_))] false]=some (.lit (.bool r2),[(0,.box 201 [.lit (.string a0.s),.lit (.int .i64 z)] false)]))
include K1 K2
section
variable(C3:r2=false)(K4:runL (n+9) 221 [.ptr 0 0,.lit (.int .i64 200),.lit (.bool true)] [.box 201 [.lit (.string a0.s),.lit (.int .i64 z)] false]=some (.tup [.lit (.string r3),.lit (.bool r4)],[(0,.box 201 [.lit (.string a0.s),.lit (.int .i64 z2)] false)]))
include C3 K4
theorem lpa_f1(C5:r4=false):
  runL (n+10) 177 [.ptr 0 0,formV a1,.lit (.bool a2)] [.box 201 [.lit (.string a0.s),.lit (.int .i64 (a0.at_))] false]=some (.tup [formV a1,.lit (.bool false)],[(0,.box 201 [.lit (.string a0.s),.lit (.int .i64 z2)] false)]):=by
 rw [C3] at K2
 rw [C5] at K4
 unfold runL fnL
 simp+decide [Tryz.f177,K1,K2,C3,K4,C5]
section
variable(C5:r4=true)(K6:run (n+9) 222 [.lit (.string r3)]=some (natA r5))(K7:runL (n+9) 175 [.ptr 0 0] [.box 201 [.lit (.string a0.s),.lit (.int .i64 z2)] false]=some (.tup [],[(0,.box 201 [.lit (.string a0.s),.lit (.int .i64 z3)] false)]))(K8:runL (n+9) 176 [.ptr 0 0,.lit (.string (⟨#[47]⟩:ByteArray))] [.box 201 [.lit (.string a0.s),.lit (.int .i64 z3)] false]=some (.lit (.bool r6),[(0,.box 201 [.lit (.string a0.s),.lit (.int .i64 z4)] false)]))
include C5 K6 K7 K8
section
variable(C9:r6=true)(W10:InI (z4+1))(K11:runL (n+9) 175 [.ptr 0 0] [.box 201 [.lit (.string a0.s),.lit (.int .i64 (z4+1))] false]=some (.tup [],[(0,.box 201 [.lit (.string a0.s),.lit (.int .i64 z5)] false)]))(K12:runL (n+9) 221 [.ptr 0 0,.lit (.int .i64 200),.lit (.bool false)] [.box 201 [.lit (.string a0.s),.lit (.int .i64 z5)] false]=some (.tup [.lit (.string r7),.lit (.bool r8)],[(0,.box 201 [.lit (.string a0.s),.lit (.int .i64 z6)] false)]))
include C9 W10 K11 K12
theorem lpa_f2(C13:r8=false):
  runL (n+10) 177 [.ptr 0 0,formV a1,.lit (.bool a2)] [.box 201 [.lit (.string a0.s),.lit (.int .i64 (a0.at_))] false]=some (.tup [formV a1,.lit (.bool false)],[(0,.box 201 [.lit (.string a0.s),.lit (.int .i64 z6)] false)]):=by
 have W10_:IntKind.i64.wrap (z4+1)=z4+1:=wr64 W10.1 W10.2
 rw [C3] at K2
 rw [C5] at K4
 rw [C9] at K8
 rw [C13] at K12
 unfold runL fnL
 simp+decide [Tryz.f177,K1,K2,C3,K4,C5,K6,K7,K8,C9,W10_,K11,K12,C13]
section
variable(C13:r8=true)(K14:run (n+9) 222 [.lit (.string r7)]=some (natA r9))(K15:runL (n+9) 175 [.ptr 0 0] [.box 201 [.lit (.string a0.s),.lit (.int .i64 z6)] false]=some (.tup [],[(0,.box 201 [.lit (.string a0.s),.lit (.int .i64 z7)] false)]))(K16:runL (n+9) 176 [.ptr 0 0,.lit (.string (⟨#[42]⟩:ByteArray))] [.box 201 [.lit (.string a0.s),.lit (.int .i64 z7)] false]=some (.lit (.bool r10),[(0,.box 201 [.lit (.string a0.s),.lit (.int .i64 z8)] false)]))
include C13 K14 K15 K16
theorem lpa_f3(C17:r10=false)(B18a:RawB (⟨a2,r5,r9⟩:Raw))(K19:run (n+9) 223 [formV a1,.agg [.sl 4 [],.lit (.bool (rawQ ((⟨a2,r5,r9⟩:Raw).q)).s),natA (rawQ ((⟨a2,r5,r9⟩:Raw).q)).l1,natA (rawQ ((⟨a2,r5,r9⟩:Raw).q)).l2]]=some (formV r11)):
  runL (n+10) 177 [.ptr 0 0,formV a1,.lit (.bool a2)] [.box 201 [.lit (.string a0.s),.lit (.int .i64 (a0.at_))] false]=some (.tup [formV r11,.lit (.bool true)],[(0,.box 201 [.lit (.string a0.s),.lit (.int .i64 z8)] false)]):=by
 have W10_:IntKind.i64.wrap (z4+1)=z4+1:=wr64 W10.1 W10.2
 have K18:=rr_canon B18a
 try dsimp only at K18
 try rw [show natA []=AV.sl 1 [] from rfl] at K18
 simp only [formV] at K19
 rw [C3] at K2
 rw [C5] at K4
 rw [C9] at K8
 rw [C13] at K12
 rw [C17] at K16
 unfold runL fnL
 simp+decide [Tryz.f177,K1,K2,C3,K4,C5,K6,K7,K8,C9,W10_,K11,K12,C13,K14,K15,K16,C17,K18,K19]
section
variable(C17:r10=true)(W18:InI (z8+1))(K19:runL (n+9) 175 [.ptr 0 0] [.box 201 [.lit (.string a0.s),.lit (.int .i64 (z8+1))] false]=some (.tup [],[(0,.box 201 [.lit (.string a0.s),.lit (.int .i64 z9)] false)]))(K20:runL (n+9) 224 [.ptr 0 0] [.box 201 [.lit (.string a0.s),.lit (.int .i64 z9)] false]=some (.tup [.lit (.int .i64 r14),.lit (.bool r15)],[(0,.box 201 [.lit (.string a0.s),.lit (.int .i64 z12)] false)]))
include C17 W18 K19 K20
theorem lpa_f4(C21:r15=false):
  runL (n+10) 177 [.ptr 0 0,formV a1,.lit (.bool a2)] [.box 201 [.lit (.string a0.s),.lit (.int .i64 (a0.at_))] false]=some (.tup [formV a1,.lit (.bool false)],[(0,.box 201 [.lit (.string a0.s),.lit (.int .i64 z12)] false)]):=by
 have W10_:IntKind.i64.wrap (z4+1)=z4+1:=wr64 W10.1 W10.2
 have W18_:IntKind.i64.wrap (z8+1)=z8+1:=wr64 W18.1 W18.2
 rw [C3] at K2
 rw [C5] at K4
 rw [C9] at K8
 rw [C13] at K12
 rw [C17] at K16
 rw [C21] at K20
 unfold runL fnL
 simp+decide [Tryz.f177,K1,K2,C3,K4,C5,K6,K7,K8,C9,W10_,K11,K12,C13,K14,K15,K16,C17,W18_,K19,K20,C21]
theorem lpa_f5(C21:r15=true)(K22:runL (n+9) 208 [.agg [.nl 4,.lit (.bool false),.nl 1,.nl 1],.lit (.int .i64 r14),.agg [.lit (.bool a2),natA r5,natA r9]] []=some (.agg [.nl 4,.lit (.bool false),.nl 1,.nl 1],[]))(K23:run (n+9) 223 [formV a1,.agg [.sl 4 [],.lit (.bool false),.sl 1 [],.sl 1 []]]=some (formV r16)):
  runL (n+10) 177 [.ptr 0 0,formV a1,.lit (.bool a2)] [.box 201 [.lit (.string a0.s),.lit (.int .i64 (a0.at_))] false]=some (.tup [formV r16,.lit (.bool true)],[(0,.box 201 [.lit (.string a0.s),.lit (.int .i64 z12)] false)]):=by
 have W10_:IntKind.i64.wrap (z4+1)=z4+1:=wr64 W10.1 W10.2
 have W18_:IntKind.i64.wrap (z8+1)=z8+1:=wr64 W18.1 W18.2
 simp only [formV] at K23
 rw [C3] at K2
 rw [C5] at K4
 rw [C9] at K8
 rw [C13] at K12
 rw [C17] at K16
 rw [C21] at K20
 unfold runL fnL
 simp+decide [Tryz.f177,K1,K2,C3,K4,C5,K6,K7,K8,C9,W10_,K11,K12,C13,K14,K15,K16,C17,W18_,K19,K20,C21,K22,K23]
theorem lpa_f6(C21:r15=true)(K22:runL (n+9) 208 [.agg [.nl 4,.lit (.bool false),.nl 1,.nl 1],.lit (.int .i64 r14),.agg [.lit (.bool a2),natA r5,natA r9]] []=some (.agg [.own 3 R.length,.lit (.bool false),.nl 1,.nl 1],[(3,.row 81 4 (R.map termC) 0)]))(K23:run (n+9) 223 [formV a1,.agg [.sl 4 (R.map termC),.lit (.bool false),.sl 1 [],.sl 1 []]]=some (formV r16)):
  runL (n+10) 177 [.ptr 0 0,formV a1,.lit (.bool a2)] [.box 201 [.lit (.string a0.s),.lit (.int .i64 (a0.at_))] false]=some (.tup [formV r16,.lit (.bool true)],[(0,.box 201 [.lit (.string a0.s),.lit (.int .i64 z12)] false)]):=by
 have W10_:IntKind.i64.wrap (z4+1)=z4+1:=wr64 W10.1 W10.2
 have W18_:IntKind.i64.wrap (z8+1)=z8+1:=wr64 W18.1 W18.2
 simp only [formV] at K23
 rw [C3] at K2
 rw [C5] at K4
 rw [C9] at K8
 rw [C13] at K12
 rw [C17] at K16
 rw [C21] at K20
 unfold runL fnL
 simp+decide [Tryz.f177,K1,K2,C3,K4,C5,K6,K7,K8,C9,W10_,K11,K12,C13,K14,K15,K16,C17,W18_,K19,K20,C21,K22,K23]
end
end
end
section
variable(C9:r6=false)(K10:runL (n+9) 176 [.ptr 0 0,.lit (.string (⟨#[42]⟩:ByteArray))] [.box 201 [.lit (.string a0.s),.lit (.int .i64 z4)] false]=some (.lit (.bool r12),[(0,.box 201 [.lit (.string a0.s),.lit (.int .i64 z10)] false)]))
include C9 K10
theorem lpa_f7(C11:r12=false)(B12a:RawB (⟨a2,r5,[]⟩:Raw))(K13:run (n+9) 223 [formV a1,.agg [.sl 4 [],.lit (.bool (rawQ ((⟨a2,r5,[]⟩:Raw).q)).s),natA (rawQ ((⟨a2,r5,[]⟩:Raw).q)).l1,natA (rawQ ((⟨a2,r5,[]⟩:Raw).q)).l2]]=some (formV r13)):
  runL (n+10) 177 [.ptr 0 0,formV a1,.lit (.bool a2)] [.box 201 [.lit (.string a0.s),.lit (.int .i64 (a0.at_))] false]=some (.tup [formV r13,.lit (.bool true)],[(0,.box 201 [.lit (.string a0.s),.lit (.int .i64 z10)] false)]):=by
 have K12:=rr_canon B12a
 try dsimp only at K12
 try rw [show natA []=AV.sl 1 [] from rfl] at K12
 simp only [formV] at K13
 rw [C3] at K2
 rw [C5] at K4
 rw [C9] at K8
 rw [C11] at K10
 unfold runL fnL
 simp+decide [Tryz.f177,K1,K2,C3,K4,C5,K6,K7,K8,C9,K10,C11,K12,K13]
section
variable(C11:r12=true)(W12:InI (z10+1))(K13:runL (n+9) 175 [.ptr 0 0] [.box 201 [.lit (.string a0.s),.lit (.int .i64 (z10+1))] false]=some (.tup [],[(0,.box 201 [.lit (.string a0.s),.lit (.int .i64 z11)] false)]))(K14:runL (n+9) 224 [.ptr 0 0] [.box 201 [.lit (.string a0.s),.lit (.int .i64 z11)] false]=some (.tup [.lit (.int .i64 r17),.lit (.bool r18)],[(0,.box 201 [.lit (.string a0.s),.lit (.int .i64 z13)] false)]))
include C11 W12 K13 K14
theorem lpa_f8(C15:r18=false):
  runL (n+10) 177 [.ptr 0 0,formV a1,.lit (.bool a2)] [.box 201 [.lit (.string a0.s),.lit (.int .i64 (a0.at_))] false]=some (.tup [formV a1,.lit (.bool false)],[(0,.box 201 [.lit (.string a0.s),.lit (.int .i64 z13)] false)]):=by
 have W12_:IntKind.i64.wrap (z10+1)=z10+1:=wr64 W12.1 W12.2
 rw [C3] at K2
 rw [C5] at K4
 rw [C9] at K8
 rw [C11] at K10
 rw [C15] at K14
 unfold runL fnL
 simp+decide [Tryz.f177,K1,K2,C3,K4,C5,K6,K7,K8,C9,K10,C11,W12_,K13,K14,C15]
theorem lpa_f9(C15:r18=true)(K16:runL (n+9) 208 [.agg [.nl 4,.lit (.bool false),.nl 1,.nl 1],.lit (.int .i64 r17),.agg [.lit (.bool a2),natA r5,.sl 1 []]] []=some (.agg [.nl 4,.lit (.bool false),.nl 1,.nl 1],[]))(K17:run (n+9) 223 [formV a1,.agg [.sl 4 [],.lit (.bool false),.sl 1 [],.sl 1 []]]=some (formV r19)):
  runL (n+10) 177 [.ptr 0 0,formV a1,.lit (.bool a2)] [.box 201 [.lit (.string a0.s),.lit (.int .i64 (a0.at_))] false]=some (.tup [formV r19,.lit (.bool true)],[(0,.box 201 [.lit (.string a0.s),.lit (.int .i64 z13)] false)]):=by
 have W12_:IntKind.i64.wrap (z10+1)=z10+1:=wr64 W12.1 W12.2
 simp only [formV] at K17
 rw [C3] at K2
 rw [C5] at K4
 rw [C9] at K8
 rw [C11] at K10
 rw [C15] at K14
 unfold runL fnL
 simp+decide [Tryz.f177,K1,K2,C3,K4,C5,K6,K7,K8,C9,K10,C11,W12_,K13,K14,C15,K16,K17]
theorem lpa_f10(C15:r18=true)(K16:runL (n+9) 208 [.agg [.nl 4,.lit (.bool false),.nl 1,.nl 1],.lit (.int .i64 r17),.agg [.lit (.bool a2),natA r5,.sl 1 []]] []=some (.agg [.own 3 R2.length,.lit (.bool false),.nl 1,.nl 1],[(3,.row 81 4 (R2.map termC) 0)]))(K17:run (n+9) 223 [formV a1,.agg [.sl 4 (R2.map termC),.lit (.bool false),.sl 1 [],.sl 1 []]]=some (formV r19)):
  runL (n+10) 177 [.ptr 0 0,formV a1,.lit (.bool a2)] [.box 201 [.lit (.string a0.s),.lit (.int .i64 (a0.at_))] false]=some (.tup [formV r19,.lit (.bool true)],[(0,.box 201 [.lit (.string a0.s),.lit (.int .i64 z13)] false)]):=by
 have W12_:IntKind.i64.wrap (z10+1)=z10+1:=wr64 W12.1 W12.2
 simp only [formV] at K17
 rw [C3] at K2
 rw [C5] at K4
 rw [C9] at K8
 rw [C11] at K10
 rw [C15] at K14
 unfold runL fnL
 simp+decide [Tryz.f177,K1,K2,C3,K4,C5,K6,K7,K8,C9,K10,C11,W12_,K13,K14,C15,K16,K17]
end
end
end
end
section
variable(C3:r2=true)(K4:runL (n+9) 224 [.ptr 0 0] [.box 201 [.lit (.string a0.s),.lit (.int .i64 z)] false]=some (.tup [.lit (.int .i64 r20),.lit (.bool r21)],[(0,.box 201 [.lit (.string a0.s),.lit (.int .i64 z14)] false)]))
include C3 K4
theorem lpa_f11(C5:r21=false):
  runL (n+10) 177 [.ptr 0 0,formV a1,.lit (.bool a2)] [.box 201 [.lit (.string a0.s),.lit (.int .i64 (a0.at_))] false]=some (.tup [formV a1,.lit (.bool false)],[(0,.box 201 [.lit (.string a0.s),.lit (.int .i64 z14)] false)]):=by
 rw [C3] at K2
 rw [C5] at K4
 unfold runL fnL
 simp+decide [Tryz.f177,K1,K2,C3,K4,C5]
theorem lpa_f12(C5:r21=true)(K6:runL (n+9) 208 [.agg [.nl 4,.lit (.bool false),.nl 1,.nl 1],.lit (.int .i64 r20),.agg [.lit (.bool a2),natA r,.sl 1 []]] []=some (.agg [.nl 4,.lit (.bool false),.nl 1,.nl 1],[]))(K7:run (n+9) 223 [formV a1,.agg [.sl 4 [],.lit (.bool false),.sl 1 [],.sl 1 []]]=some (formV r22)):
  runL (n+10) 177 [.ptr 0 0,formV a1,.lit (.bool a2)] [.box 201 [.lit (.string a0.s),.lit (.int .i64 (a0.at_))] false]=some (.tup [formV r22,.lit (.bool true)],[(0,.box 201 [.lit (.string a0.s),.lit (.int .i64 z14)] false)]):=by
 simp only [formV] at K7
 rw [C3] at K2
 rw [C5] at K4
 unfold runL fnL
 simp+decide [Tryz.f177,K1,K2,C3,K4,C5,K6,K7]
theorem lpa_f13(C5:r21=true)(K6:runL (n+9) 208 [.agg [.nl 4,.lit (.bool false),.nl 1,.nl 1],.lit (.int .i64 r20),.agg [.lit (.bool a2),natA r,.sl 1 []]] []=some (.agg [.own 3 R3.length,.lit (.bool false),.nl 1,.nl 1],[(3,.row 81 4 (R3.map termC) 0)]))(K7:run (n+9) 223 [formV a1,.agg [.sl 4 (R3.map termC),.lit (.bool false),.sl 1 [],.sl 1 []]]=some (formV r22)):
  runL (n+10) 177 [.ptr 0 0,formV a1,.lit (.bool a2)] [.box 201 [.lit (.string a0.s),.lit (.int .i64 (a0.at_))] false]=some (.tup [formV r22,.lit (.bool true)],[(0,.box 201 [.lit (.string a0.s),.lit (.int .i64 z14)] false)]):=by
 simp only [formV] at K7
 rw [C3] at K2
 rw [C5] at K4
 unfold runL fnL
 simp+decide [Tryz.f177,K1,K2,C3,K4,C5,K6,K7]
end
end
end
end
section
open Go.RowKit
theorem pt_new{n:Nat}{F:List (Int × Rat)}{v:Int}{q k:Rat}(hq:H q≤17179869184)(h0:q≠0)(hF:F.length≤10000000):
  runL n 208 [.agg [.own 0 F.length,.lit (.bool (rawQ k).s),natA (rawQ k).l1,natA (rawQ k).l2],.lit (.int .i64 v),.agg [.lit (.bool (rawQ q).s),natA (rawQ q).l1,natA (rawQ q).l2]] [.row 81 4 (F.map termC) 0]=some (.agg [.own 4 (F++[(v,q)]).length,.lit (.bool (rawQ k).s),natA (rawQ k).l1,natA (rawQ k).l2],[(4,.row 81 4 ((F++[(v,q)]).map termC) 0)]):=by
 unfold runL fnL
 have hs:=r_sign (p:=q) hq
 have hc:=r_canon (p:=q) hq
 have e2:(sgR q==0)=false:=by simpa using fun h=>h0 (sgR_eq_zero.1 h)
 have e3:(sgR q !=0)=true:=by simpa using fun h=>h0 (sgR_eq_zero.1 h)
 have hr:∀b,b≤10000→roomy (F.length+1) b=true:=fun b hb=>roomy_s (by omega) hb
 simp+decide [Tryz.f208,hs,hc,e2,e3,hr]
theorem pt_same{n:Nat}{F:List (Int × Rat)}{v:Int}{q k:Rat}(hq:H q≤17179869184)(h0:q=0):
  runL n 208 [.agg [.own 0 F.length,.lit (.bool (rawQ k).s),natA (rawQ k).l1,natA (rawQ k).l2],.lit (.int .i64 v),.agg [.lit (.bool (rawQ q).s),natA (rawQ q).l1,natA (rawQ q).l2]] [.row 81 4 (F.map termC) 0]=some (.agg [.own 0 F.length,.lit (.bool (rawQ k).s),natA (rawQ k).l1,natA (rawQ k).l2],[(0,.row 81 4 (F.map termC) 0)]):=by
 unfold runL fnL
 have hs:=r_sign (p:=q) hq
 have e2:(sgR q==0)=true:=by rw [sgR_eq_zero.2 h0];rfl
 have e3:(sgR q !=0)=false:=by rw [sgR_eq_zero.2 h0];rfl
 simp+decide [Tryz.f208,hs,e2,e3]
end
end Go.Proofs.YtnegdhjdienjlaaGreatDoor
