import Derived.Test.YtnegdhjdienjlaaGreatDoorGQ20
import Derived.Test.YtnegdhjdienjlaaGreatDoorGQ21
import Derived.Test.YtnegdhjdienjlaaGreatDoorGQ30
import Derived.Lib.AtoiAllCases
set_option linter.all false
set_option maxHeartbeats 6400000
set_option maxRecDepth 100000
namespace Go.Proofs.YtnegdhjdienjlaaGreatDoor
section
open Go.RowKit
section
variable {x : ByteArray} {n : Nat} {r : List ByteArray} {a0 : ByteArray} {r12 : ByteArray} {x2 : ByteArray} {sub : ByteArray} {r2 : Int} {r3 : AV} {r21 : ByteArray} {r22 : Rat} {r24 : Int} {r23 : Int} {x8 : ByteArray} {x7 : ByteArray} {r28 : ByteArray} {r25 : Rat} {r26 : Int} {r27 : Int} {x9 : ByteArray} {r29 : ByteArray} {r30 : ByteArray}
section
variable(K1:(oSplit) [.lit (.string a0),.lit (.string (⟨#[32]⟩:ByteArray))]=some (.sl 1 (r.map strC)))(E2:r[0]?=some x)
include K1 E2
theorem pps_f1(C3:(x.size:Int)<2):
  run (n+9) 11 [.lit (.string a0)]=some (.tup [.agg [.lit (.int .i64 0),.lit (.int .i64 0),.lit (.bool false),.sl 1 [],.sl 1 []],.lit (.int .i64 4)]):=by
 obtain ⟨EL2,EG2⟩:=List.getElem?_eq_some_iff.1 E2
 have C3_:x.size<2:=by omega
 unfold run fnP
 simp+decide [Tryz.f11,K1,EL2,EG2,E2,C3,C3_]
section
variable(C3:¬(x.size:Int)<2)(U4:0≤1∧1≤(x.size:Int)∧(x.size:Int)≤(x.size:Int))(D4:sub=x.extract 1 x.size)(K5:(oAtoiL) [.lit (.string sub)]=some (.tup [.lit (.int .i64 r2),r3]))(A6:r3=AV.lit Value.nilIface)
include C3 U4 D4 K5 A6
section
variable(C7:(r.length:Int)=2)(E8:r[1]?=some x2)
include C7 E8
section
variable(C9:x2=(⟨#[111,110]⟩:ByteArray))(C10:¬(r.length:Int)=3)(C11:¬a0=(⟨#[]⟩:ByteArray))(K12:run (n+8) 9 [.agg [.lit (.int .i64 1),.lit (.int .i64 r2),.lit (.bool false),.sl 1 [],.sl 1 []]]=some (.lit (.string r12)))
include C9 C10 C11 K12
theorem pps_f11(C13:¬r12=a0):
  run (n+9) 11 [.lit (.string a0)]=some (.tup [.agg [.lit (.int .i64 0),.lit (.int .i64 0),.lit (.bool false),.sl 1 [],.sl 1 []],.lit (.int .i64 4)]):=by
 obtain ⟨EL2,EG2⟩:=List.getElem?_eq_some_iff.1 E2
 have C3_:¬x.size<2:=by omega
 have D4_:=D4.symm
 have C7_:((r.length:Int)==2)=true:=by rw [C7];simp
 have C7_n:((r.length:Int) !=2)=false:=by rw [C7];simp
 obtain ⟨EL8,EG8⟩:=List.getElem?_eq_some_iff.1 E8
 have C9_:(x2.toList==(⟨#[111,110]⟩:ByteArray).toList)=true:=by rw [C9];simp
 have C9_n:(x2.toList !=(⟨#[111,110]⟩:ByteArray).toList)=false:=by rw [bne,C9_];rfl
 have C9_k:(x2.toList==([111,110]:List UInt8))=true:=by rw [show ([111,110]:List UInt8)=(⟨#[111,110]⟩:ByteArray).toList by rw [ba_toList]];exact C9_
 have C10_:((r.length:Int)==3)=false:=by simpa using C10
 have C10_n:((r.length:Int) !=3)=true:=by simpa using C10
 have C11_:(a0.toList==(⟨#[]⟩:ByteArray).toList)=false:=by rw [beq_eq_false_iff_ne];exact fun h=>C11 (ba_inj h)
 have C11_n:(a0.toList !=(⟨#[]⟩:ByteArray).toList)=true:=by rw [bne,C11_];rfl
 have C11_i:a0.toList.isEmpty=false:=by rcases he:a0.toList.isEmpty with _|_;rfl;exact absurd (ba_inj (by rw [List.isEmpty_iff.1 he,ba_toList] <;>rfl)) C11
 have C13_:(r12.toList==a0.toList)=false:=by rw [beq_eq_false_iff_ne];exact fun h=>C13 (ba_inj h)
 have C13_n:(r12.toList !=a0.toList)=true:=by rw [bne,C13_];rfl
 unfold run fnP
 simp+decide [Tryz.f11,K1,EL2,EG2,E2,C3,C3_,U4,D4_,K5,A6,C7_,C7_n,EL8,EG8,E8,C9_,C9_n,C9_k,C10_,C10_n,C11_,C11_n,C11_i,K12,C13_,C13_n]
theorem pps_f12(C13:r12=a0):
  run (n+9) 11 [.lit (.string a0)]=some (.tup [.agg [.lit (.int .i64 1),.lit (.int .i64 r2),.lit (.bool false),.sl 1 [],.sl 1 []],.lit (.int .i64 0)]):=by
 obtain ⟨EL2,EG2⟩:=List.getElem?_eq_some_iff.1 E2
 have C3_:¬x.size<2:=by omega
 have D4_:=D4.symm
 have C7_:((r.length:Int)==2)=true:=by rw [C7];simp
 have C7_n:((r.length:Int) !=2)=false:=by rw [C7];simp
 obtain ⟨EL8,EG8⟩:=List.getElem?_eq_some_iff.1 E8
 have C9_:(x2.toList==(⟨#[111,110]⟩:ByteArray).toList)=true:=by rw [C9];simp
 have C9_n:(x2.toList !=(⟨#[111,110]⟩:ByteArray).toList)=false:=by rw [bne,C9_];rfl
 have C9_k:(x2.toList==([111,110]:List UInt8))=true:=by rw [show ([111,110]:List UInt8)=(⟨#[111,110]⟩:ByteArray).toList by rw [ba_toList]];exact C9_
 have C10_:((r.length:Int)==3)=false:=by simpa using C10
 have C10_n:((r.length:Int) !=3)=true:=by simpa using C10
 have C11_:(a0.toList==(⟨#[]⟩:ByteArray).toList)=false:=by rw [beq_eq_false_iff_ne];exact fun h=>C11 (ba_inj h)
 have C11_n:(a0.toList !=(⟨#[]⟩:ByteArray).toList)=true:=by rw [bne,C11_];rfl
 have C11_i:a0.toList.isEmpty=false:=by rcases he:a0.toList.isEmpty with _|_;rfl;exact absurd (ba_inj (by rw [List.isEmpty_iff.1 he,ba_toList] <;>rfl)) C11
 have C13_:(r12.toList==a0.toList)=true:=by rw [C13];simp
 have C13_n:(r12.toList !=a0.toList)=false:=by rw [bne,C13_];rfl
 unfold run fnP
 simp+decide [Tryz.f11,K1,EL2,EG2,E2,C3,C3_,U4,D4_,K5,A6,C7_,C7_n,EL8,EG8,E8,C9_,C9_n,C9_k,C10_,C10_n,C11_,C11_n,C11_i,K12,C13_,C13_n]
end
section
variable(C9:¬x2=(⟨#[111,110]⟩:ByteArray))(C10:¬(r.length:Int)=3)(C11:¬a0=(⟨#[]⟩:ByteArray))(K12:run (n+8) 9 [.agg [.lit (.int .i64 2),.lit (.int .i64 r2),.lit (.bool false),.sl 1 [],.sl 1 []]]=some (.lit (.string r21)))
include C9 C10 C11 K12
theorem pps_f22(C13:¬r21=a0):
  run (n+9) 11 [.lit (.string a0)]=some (.tup [.agg [.lit (.int .i64 0),.lit (.int .i64 0),.lit (.bool false),.sl 1 [],.sl 1 []],.lit (.int .i64 4)]):=by
 obtain ⟨EL2,EG2⟩:=List.getElem?_eq_some_iff.1 E2
 have C3_:¬x.size<2:=by omega
 have D4_:=D4.symm
 have C7_:((r.length:Int)==2)=true:=by rw [C7];simp
 have C7_n:((r.length:Int) !=2)=false:=by rw [C7];simp
 obtain ⟨EL8,EG8⟩:=List.getElem?_eq_some_iff.1 E8
 have C9_:(x2.toList==(⟨#[111,110]⟩:ByteArray).toList)=false:=by rw [beq_eq_false_iff_ne];exact fun h=>C9 (ba_inj h)
 have C9_n:(x2.toList !=(⟨#[111,110]⟩:ByteArray).toList)=true:=by rw [bne,C9_];rfl
 have C9_k:(x2.toList==([111,110]:List UInt8))=false:=by rw [show ([111,110]:List UInt8)=(⟨#[111,110]⟩:ByteArray).toList by rw [ba_toList]];exact C9_
 have C10_:((r.length:Int)==3)=false:=by simpa using C10
 have C10_n:((r.length:Int) !=3)=true:=by simpa using C10
 have C11_:(a0.toList==(⟨#[]⟩:ByteArray).toList)=false:=by rw [beq_eq_false_iff_ne];exact fun h=>C11 (ba_inj h)
 have C11_n:(a0.toList !=(⟨#[]⟩:ByteArray).toList)=true:=by rw [bne,C11_];rfl
 have C11_i:a0.toList.isEmpty=false:=by rcases he:a0.toList.isEmpty with _|_;rfl;exact absurd (ba_inj (by rw [List.isEmpty_iff.1 he,ba_toList] <;>rfl)) C11
 have C13_:(r21.toList==a0.toList)=false:=by rw [beq_eq_false_iff_ne];exact fun h=>C13 (ba_inj h)
 have C13_n:(r21.toList !=a0.toList)=true:=by rw [bne,C13_];rfl
 unfold run fnP
 simp+decide [Tryz.f11,K1,EL2,EG2,E2,C3,C3_,U4,D4_,K5,A6,C7_,C7_n,EL8,EG8,E8,C9_,C9_n,C9_k,C10_,C10_n,C11_,C11_n,C11_i,K12,C13_,C13_n]
theorem pps_f23(C13:r21=a0):
  run (n+9) 11 [.lit (.string a0)]=some (.tup [.agg [.lit (.int .i64 2),.lit (.int .i64 r2),.lit (.bool false),.sl 1 [],.sl 1 []],.lit (.int .i64 0)]):=by
 obtain ⟨EL2,EG2⟩:=List.getElem?_eq_some_iff.1 E2
 have C3_:¬x.size<2:=by omega
 have D4_:=D4.symm
 have C7_:((r.length:Int)==2)=true:=by rw [C7];simp
 have C7_n:((r.length:Int) !=2)=false:=by rw [C7];simp
 obtain ⟨EL8,EG8⟩:=List.getElem?_eq_some_iff.1 E8
 have C9_:(x2.toList==(⟨#[111,110]⟩:ByteArray).toList)=false:=by rw [beq_eq_false_iff_ne];exact fun h=>C9 (ba_inj h)
 have C9_n:(x2.toList !=(⟨#[111,110]⟩:ByteArray).toList)=true:=by rw [bne,C9_];rfl
 have C9_k:(x2.toList==([111,110]:List UInt8))=false:=by rw [show ([111,110]:List UInt8)=(⟨#[111,110]⟩:ByteArray).toList by rw [ba_toList]];exact C9_
 have C10_:((r.length:Int)==3)=false:=by simpa using C10
 have C10_n:((r.length:Int) !=3)=true:=by simpa using C10
 have C11_:(a0.toList==(⟨#[]⟩:ByteArray).toList)=false:=by rw [beq_eq_false_iff_ne];exact fun h=>C11 (ba_inj h)
 have C11_n:(a0.toList !=(⟨#[]⟩:ByteArray).toList)=true:=by rw [bne,C11_];rfl
 have C11_i:a0.toList.isEmpty=false:=by rcases he:a0.toList.isEmpty with _|_;rfl;exact absurd (ba_inj (by rw [List.isEmpty_iff.1 he,ba_toList] <;>rfl)) C11
 have C13_:(r21.toList==a0.toList)=true:=by rw [C13];simp
 have C13_n:(r21.toList !=a0.toList)=false:=by rw [bne,C13_];rfl
 unfold run fnP
 simp+decide [Tryz.f11,K1,EL2,EG2,E2,C3,C3_,U4,D4_,K5,A6,C7_,C7_n,EL8,EG8,E8,C9_,C9_n,C9_k,C10_,C10_n,C11_,C11_n,C11_i,K12,C13_,C13_n]
end
end
section
variable(C7:¬(r.length:Int)=2)
include C7
section
variable(C8:(r.length:Int)=3)(E9:r[1]?=some x7)
include C8 E9
section
variable(C10:x7=(⟨#[62,61]⟩:ByteArray))(E11:r[2]?=some x8)(K12:run (n+8) 36 [.lit (.string x8)]=some (.tup [ratV r22,.lit (.int .i64 r23),.lit (.int .i64 r24)]))
include C10 E11 K12
theorem pps_f24(C13:¬r24=0):
  run (n+9) 11 [.lit (.string a0)]=some (.tup [.agg [.lit (.int .i64 0),.lit (.int .i64 0),.lit (.bool false),.sl 1 [],.sl 1 []],.lit (.int .i64 4)]):=by
 obtain ⟨EL2,EG2⟩:=List.getElem?_eq_some_iff.1 E2
 have C3_:¬x.size<2:=by omega
 have D4_:=D4.symm
 have C7_:((r.length:Int)==2)=false:=by simpa using C7
 have C7_n:((r.length:Int) !=2)=true:=by simpa using C7
 have C8_:((r.length:Int)==3)=true:=by rw [C8];simp
 have C8_n:((r.length:Int) !=3)=false:=by rw [C8];simp
 obtain ⟨EL9,EG9⟩:=List.getElem?_eq_some_iff.1 E9
 have C10_:(x7.toList==(⟨#[62,61]⟩:ByteArray).toList)=true:=by rw [C10];simp
 have C10_n:(x7.toList !=(⟨#[62,61]⟩:ByteArray).toList)=false:=by rw [bne,C10_];rfl
 have C10_k:(x7.toList==([62,61]:List UInt8))=true:=by rw [show ([62,61]:List UInt8)=(⟨#[62,61]⟩:ByteArray).toList by rw [ba_toList]];exact C10_
 obtain ⟨EL11,EG11⟩:=List.getElem?_eq_some_iff.1 E11
 simp only [ratV] at K12
 have C13_:(r24==0)=false:=by simpa using C13
 have C13_n:(r24 !=0)=true:=by simpa using C13
 unfold run fnP
 simp+decide [Tryz.f11,K1,EL2,EG2,E2,C3,C3_,U4,D4_,K5,A6,C7_,C7_n,C8_,C8_n,EL9,EG9,E9,C10_,C10_n,C10_k,EL11,EG11,E11,K12,C13_,C13_n]
section
variable(C13:r24=0)(C14:¬a0=(⟨#[]⟩:ByteArray))(K15:run (n+8) 9 [.agg [.lit (.int .i64 3),.lit (.int .i64 r2),.lit (.bool (rawQ r22).s),natA (rawQ r22).l1,natA (rawQ r22).l2]]=some (.lit (.string r28)))
include C13 C14 K15
theorem pps_f26(C16:¬r28=a0):
  run (n+9) 11 [.lit (.string a0)]=some (.tup [.agg [.lit (.int .i64 0),.lit (.int .i64 0),.lit (.bool false),.sl 1 [],.sl 1 []],.lit (.int .i64 4)]):=by
 obtain ⟨EL2,EG2⟩:=List.getElem?_eq_some_iff.1 E2
 have C3_:¬x.size<2:=by omega
 have D4_:=D4.symm
 have C7_:((r.length:Int)==2)=false:=by simpa using C7
 have C7_n:((r.length:Int) !=2)=true:=by simpa using C7
 have C8_:((r.length:Int)==3)=true:=by rw [C8];simp
 have C8_n:((r.length:Int) !=3)=false:=by rw [C8];simp
 obtain ⟨EL9,EG9⟩:=List.getElem?_eq_some_iff.1 E9
 have C10_:(x7.toList==(⟨#[62,61]⟩:ByteArray).toList)=true:=by rw [C10];simp
 have C10_n:(x7.toList !=(⟨#[62,61]⟩:ByteArray).toList)=false:=by rw [bne,C10_];rfl
 have C10_k:(x7.toList==([62,61]:List UInt8))=true:=by rw [show ([62,61]:List UInt8)=(⟨#[62,61]⟩:ByteArray).toList by rw [ba_toList]];exact C10_
 obtain ⟨EL11,EG11⟩:=List.getElem?_eq_some_iff.1 E11
 simp only [ratV] at K12
 have C13_:(r24==0)=true:=by rw [C13];simp
 have C13_n:(r24 !=0)=false:=by rw [C13];simp
 have C14_:(a0.toList==(⟨#[]⟩:ByteArray).toList)=false:=by rw [beq_eq_false_iff_ne];exact fun h=>C14 (ba_inj h)
 have C14_n:(a0.toList !=(⟨#[]⟩:ByteArray).toList)=true:=by rw [bne,C14_];rfl
 have C14_i:a0.toList.isEmpty=false:=by rcases he:a0.toList.isEmpty with _|_;rfl;exact absurd (ba_inj (by rw [List.isEmpty_iff.1 he,ba_toList] <;>rfl)) C14
 have C16_:(r28.toList==a0.toList)=false:=by rw [beq_eq_false_iff_ne];exact fun h=>C16 (ba_inj h)
 have C16_n:(r28.toList !=a0.toList)=true:=by rw [bne,C16_];rfl
 unfold run fnP
 simp+decide [Tryz.f11,K1,EL2,EG2,E2,C3,C3_,U4,D4_,K5,A6,C7_,C7_n,C8_,C8_n,EL9,EG9,E9,C10_,C10_n,C10_k,EL11,EG11,E11,K12,C13_,C13_n,C14_,C14_n,C14_i,K15,C16_,C16_n]
theorem pps_f27(C16:r28=a0):
  run (n+9) 11 [.lit (.string a0)]=some (.tup [.agg [.lit (.int .i64 3),.lit (.int .i64 r2),.lit (.bool (rawQ r22).s),natA (rawQ r22).l1,natA (rawQ r22).l2],.lit (.int .i64 0)]):=by
 obtain ⟨EL2,EG2⟩:=List.getElem?_eq_some_iff.1 E2
 have C3_:¬x.size<2:=by omega
 have D4_:=D4.symm
 have C7_:((r.length:Int)==2)=false:=by simpa using C7
 have C7_n:((r.length:Int) !=2)=true:=by simpa using C7
 have C8_:((r.length:Int)==3)=true:=by rw [C8];simp
 have C8_n:((r.length:Int) !=3)=false:=by rw [C8];simp
 obtain ⟨EL9,EG9⟩:=List.getElem?_eq_some_iff.1 E9
 have C10_:(x7.toList==(⟨#[62,61]⟩:ByteArray).toList)=true:=by rw [C10];simp
 have C10_n:(x7.toList !=(⟨#[62,61]⟩:ByteArray).toList)=false:=by rw [bne,C10_];rfl
 have C10_k:(x7.toList==([62,61]:List UInt8))=true:=by rw [show ([62,61]:List UInt8)=(⟨#[62,61]⟩:ByteArray).toList by rw [ba_toList]];exact C10_
 obtain ⟨EL11,EG11⟩:=List.getElem?_eq_some_iff.1 E11
 simp only [ratV] at K12
 have C13_:(r24==0)=true:=by rw [C13];simp
 have C13_n:(r24 !=0)=false:=by rw [C13];simp
 have C14_:(a0.toList==(⟨#[]⟩:ByteArray).toList)=false:=by rw [beq_eq_false_iff_ne];exact fun h=>C14 (ba_inj h)
 have C14_n:(a0.toList !=(⟨#[]⟩:ByteArray).toList)=true:=by rw [bne,C14_];rfl
 have C14_i:a0.toList.isEmpty=false:=by rcases he:a0.toList.isEmpty with _|_;rfl;exact absurd (ba_inj (by rw [List.isEmpty_iff.1 he,ba_toList] <;>rfl)) C14
 have C16_:(r28.toList==a0.toList)=true:=by rw [C16];simp
 have C16_n:(r28.toList !=a0.toList)=false:=by rw [bne,C16_];rfl
 unfold run fnP
 simp+decide [Tryz.f11,K1,EL2,EG2,E2,C3,C3_,U4,D4_,K5,A6,C7_,C7_n,C8_,C8_n,EL9,EG9,E9,C10_,C10_n,C10_k,EL11,EG11,E11,K12,C13_,C13_n,C14_,C14_n,C14_i,K15,C16_,C16_n]
end
end
section
variable(C10:¬x7=(⟨#[62,61]⟩:ByteArray))(E11:r[2]?=some x9)(K12:run (n+8) 36 [.lit (.string x9)]=some (.tup [ratV r25,.lit (.int .i64 r26),.lit (.int .i64 r27)]))
include C10 E11 K12
theorem pps_f28(C13:¬r27=0):
  run (n+9) 11 [.lit (.string a0)]=some (.tup [.agg [.lit (.int .i64 0),.lit (.int .i64 0),.lit (.bool false),.sl 1 [],.sl 1 []],.lit (.int .i64 4)]):=by
 obtain ⟨EL2,EG2⟩:=List.getElem?_eq_some_iff.1 E2
 have C3_:¬x.size<2:=by omega
 have D4_:=D4.symm
 have C7_:((r.length:Int)==2)=false:=by simpa using C7
 have C7_n:((r.length:Int) !=2)=true:=by simpa using C7
 have C8_:((r.length:Int)==3)=true:=by rw [C8];simp
 have C8_n:((r.length:Int) !=3)=false:=by rw [C8];simp
 obtain ⟨EL9,EG9⟩:=List.getElem?_eq_some_iff.1 E9
 have C10_:(x7.toList==(⟨#[62,61]⟩:ByteArray).toList)=false:=by rw [beq_eq_false_iff_ne];exact fun h=>C10 (ba_inj h)
 have C10_n:(x7.toList !=(⟨#[62,61]⟩:ByteArray).toList)=true:=by rw [bne,C10_];rfl
 have C10_k:(x7.toList==([62,61]:List UInt8))=false:=by rw [show ([62,61]:List UInt8)=(⟨#[62,61]⟩:ByteArray).toList by rw [ba_toList]];exact C10_
 obtain ⟨EL11,EG11⟩:=List.getElem?_eq_some_iff.1 E11
 simp only [ratV] at K12
 have C13_:(r27==0)=false:=by simpa using C13
 have C13_n:(r27 !=0)=true:=by simpa using C13
 unfold run fnP
 simp+decide [Tryz.f11,K1,EL2,EG2,E2,C3,C3_,U4,D4_,K5,A6,C7_,C7_n,C8_,C8_n,EL9,EG9,E9,C10_,C10_n,C10_k,EL11,EG11,E11,K12,C13_,C13_n]
section
variable(C13:r27=0)(C14:¬a0=(⟨#[]⟩:ByteArray))(K15:run (n+8) 9 [.agg [.lit (.int .i64 4),.lit (.int .i64 r2),.lit (.bool (rawQ r25).s),natA (rawQ r25).l1,natA (rawQ r25).l2]]=some (.lit (.string r29)))
include C13 C14 K15
theorem pps_f30(C16:¬r29=a0):
  run (n+9) 11 [.lit (.string a0)]=some (.tup [.agg [.lit (.int .i64 0),.lit (.int .i64 0),.lit (.bool false),.sl 1 [],.sl 1 []],.lit (.int .i64 4)]):=by
 obtain ⟨EL2,EG2⟩:=List.getElem?_eq_some_iff.1 E2
 have C3_:¬x.size<2:=by omega
 have D4_:=D4.symm
 have C7_:((r.length:Int)==2)=false:=by simpa using C7
 have C7_n:((r.length:Int) !=2)=true:=by simpa using C7
 have C8_:((r.length:Int)==3)=true:=by rw [C8];simp
 have C8_n:((r.length:Int) !=3)=false:=by rw [C8];simp
 obtain ⟨EL9,EG9⟩:=List.getElem?_eq_some_iff.1 E9
 have C10_:(x7.toList==(⟨#[62,61]⟩:ByteArray).toList)=false:=by rw [beq_eq_false_iff_ne];exact fun h=>C10 (ba_inj h)
 have C10_n:(x7.toList !=(⟨#[62,61]⟩:ByteArray).toList)=true:=by rw [bne,C10_];rfl
 have C10_k:(x7.toList==([62,61]:List UInt8))=false:=by rw [show ([62,61]:List UInt8)=(⟨#[62,61]⟩:ByteArray).toList by rw [ba_toList]];exact C10_
 obtain ⟨EL11,EG11⟩:=List.getElem?_eq_some_iff.1 E11
 simp only [ratV] at K12
 have C13_:(r27==0)=true:=by rw [C13];simp
 have C13_n:(r27 !=0)=false:=by rw [C13];simp
 have C14_:(a0.toList==(⟨#[]⟩:ByteArray).toList)=false:=by rw [beq_eq_false_iff_ne];exact fun h=>C14 (ba_inj h)
 have C14_n:(a0.toList !=(⟨#[]⟩:ByteArray).toList)=true:=by rw [bne,C14_];rfl
 have C14_i:a0.toList.isEmpty=false:=by rcases he:a0.toList.isEmpty with _|_;rfl;exact absurd (ba_inj (by rw [List.isEmpty_iff.1 he,ba_toList] <;>rfl)) C14
 have C16_:(r29.toList==a0.toList)=false:=by rw [beq_eq_false_iff_ne];exact fun h=>C16 (ba_inj h)
 have C16_n:(r29.toList !=a0.toList)=true:=by rw [bne,C16_];rfl
 unfold run fnP
 simp+decide [Tryz.f11,K1,EL2,EG2,E2,C3,C3_,U4,D4_,K5,A6,C7_,C7_n,C8_,C8_n,EL9,EG9,E9,C10_,C10_n,C10_k,EL11,EG11,E11,K12,C13_,C13_n,C14_,C14_n,C14_i,K15,C16_,C16_n]
theorem pps_f31(C16:r29=a0):
  run (n+9) 11 [.lit (.string a0)]=some (.tup [.agg [.lit (.int .i64 4),.lit (.int .i64 r2),.lit (.bool (rawQ r25).s),natA (rawQ r25).l1,natA (rawQ r25).l2],.lit (.int .i64 0)]):=by
 obtain ⟨EL2,EG2⟩:=List.getElem?_eq_some_iff.1 E2
 have C3_:¬x.size<2:=by omega
 have D4_:=D4.symm
 have C7_:((r.length:Int)==2)=false:=by simpa using C7
 have C7_n:((r.length:Int) !=2)=true:=by simpa using C7
 have C8_:((r.length:Int)==3)=true:=by rw [C8];simp
 have C8_n:((r.length:Int) !=3)=false:=by rw [C8];simp
 obtain ⟨EL9,EG9⟩:=List.getElem?_eq_some_iff.1 E9
 have C10_:(x7.toList==(⟨#[62,61]⟩:ByteArray).toList)=false:=by rw [beq_eq_false_iff_ne];exact fun h=>C10 (ba_inj h)
 have C10_n:(x7.toList !=(⟨#[62,61]⟩:ByteArray).toList)=true:=by rw [bne,C10_];rfl
 have C10_k:(x7.toList==([62,61]:List UInt8))=false:=by rw [show ([62,61]:List UInt8)=(⟨#[62,61]⟩:ByteArray).toList by rw [ba_toList]];exact C10_
 obtain ⟨EL11,EG11⟩:=List.getElem?_eq_some_iff.1 E11
 simp only [ratV] at K12
 have C13_:(r27==0)=true:=by rw [C13];simp
 have C13_n:(r27 !=0)=false:=by rw [C13];simp
 have C14_:(a0.toList==(⟨#[]⟩:ByteArray).toList)=false:=by rw [beq_eq_false_iff_ne];exact fun h=>C14 (ba_inj h)
 have C14_n:(a0.toList !=(⟨#[]⟩:ByteArray).toList)=true:=by rw [bne,C14_];rfl
 have C14_i:a0.toList.isEmpty=false:=by rcases he:a0.toList.isEmpty with _|_;rfl;exact absurd (ba_inj (by rw [List.isEmpty_iff.1 he,ba_toList] <;>rfl)) C14
 have C16_:(r29.toList==a0.toList)=true:=by rw [C16];simp
 have C16_n:(r29.toList !=a0.toList)=false:=by rw [bne,C16_];rfl
 unfold run fnP
 simp+decide [Tryz.f11,K1,EL2,EG2,E2,C3,C3_,U4,D4_,K5,A6,C7_,C7_n,C8_,C8_n,EL9,EG9,E9,C10_,C10_n,C10_k,EL11,EG11,E11,K12,C13_,C13_n,C14_,C14_n,C14_i,K15,C16_,C16_n]
end
end
end
section
variable(C8:¬(r.length:Int)=3)(C9:¬a0=(⟨#[]⟩:ByteArray))(K10:run (n+8) 9 [.agg [.lit (.int .i64 0),.lit (.int .i64 r2),.lit (.bool false),.sl 1 [],.sl 1 []]]=some (.lit (.string r30)))
include C8 C9 K10
theorem pps_f33(C11:¬r30=a0):
  run (n+9) 11 [.lit (.string a0)]=some (.tup [.agg [.lit (.int .i64 0),.lit (.int .i64 0),.lit (.bool false),.sl 1 [],.sl 1 []],.lit (.int .i64 4)]):=by
 obtain ⟨EL2,EG2⟩:=List.getElem?_eq_some_iff.1 E2
 have C3_:¬x.size<2:=by omega
 have D4_:=D4.symm
 have C7_:((r.length:Int)==2)=false:=by simpa using C7
 have C7_n:((r.length:Int) !=2)=true:=by simpa using C7
 have C8_:((r.length:Int)==3)=false:=by simpa using C8
 have C8_n:((r.length:Int) !=3)=true:=by simpa using C8
 have C9_:(a0.toList==(⟨#[]⟩:ByteArray).toList)=false:=by rw [beq_eq_false_iff_ne];exact fun h=>C9 (ba_inj h)
 have C9_n:(a0.toList !=(⟨#[]⟩:ByteArray).toList)=true:=by rw [bne,C9_];rfl
 have C9_i:a0.toList.isEmpty=false:=by rcases he:a0.toList.isEmpty with _|_;rfl;exact absurd (ba_inj (by rw [List.isEmpty_iff.1 he,ba_toList] <;>rfl)) C9
 have C11_:(r30.toList==a0.toList)=false:=by rw [beq_eq_false_iff_ne];exact fun h=>C11 (ba_inj h)
 have C11_n:(r30.toList !=a0.toList)=true:=by rw [bne,C11_];rfl
 unfold run fnP
 simp+decide [Tryz.f11,K1,EL2,EG2,E2,C3,C3_,U4,D4_,K5,A6,C7_,C7_n,C8_,C8_n,C9_,C9_n,C9_i,K10,C11_,C11_n]
theorem pps_f34(C11:r30=a0):
  run (n+9) 11 [.lit (.string a0)]=some (.tup [.agg [.lit (.int .i64 0),.lit (.int .i64 r2),.lit (.bool false),.sl 1 [],.sl 1 []],.lit (.int .i64 0)]):=by
 obtain ⟨EL2,EG2⟩:=List.getElem?_eq_some_iff.1 E2
 have C3_:¬x.size<2:=by omega
 have D4_:=D4.symm
 have C7_:((r.length:Int)==2)=false:=by simpa using C7
 have C7_n:((r.length:Int) !=2)=true:=by simpa using C7
 have C8_:((r.length:Int)==3)=false:=by simpa using C8
 have C8_n:((r.length:Int) !=3)=true:=by simpa using C8
 have C9_:(a0.toList==(⟨#[]⟩:ByteArray).toList)=false:=by rw [beq_eq_false_iff_ne];exact fun h=>C9 (ba_inj h)
 have C9_n:(a0.toList !=(⟨#[]⟩:ByteArray).toList)=true:=by rw [bne,C9_];rfl
 have C9_i:a0.toList.isEmpty=false:=by rcases he:a0.toList.isEmpty with _|_;rfl;exact absurd (ba_inj (by rw [List.isEmpty_iff.1 he,ba_toList] <;>rfl)) C9
 have C11_:(r30.toList==a0.toList)=true:=by rw [C11];simp
 have C11_n:(r30.toList !=a0.toList)=false:=by rw [bne,C11_];rfl
 unfold run fnP
 simp+decide [Tryz.f11,K1,EL2,EG2,E2,C3,C3_,U4,D4_,K5,A6,C7_,C7_n,C8_,C8_n,C9_,C9_n,C9_i,K10,C11_,C11_n]
end
end
end
end
end
end
section
open Go.RowKit
theorem ppe_f2{n:Nat}{a0:ByteArray}{r:List ByteArray}{x:ByteArray}{sub:ByteArray}{r2:Int}{r3:AV}(K1:(oSplit) [.lit (.string a0),.lit (.string (⟨#[32]⟩:ByteArray))]=some (.sl 1 (r.map strC)))(E2:r[0]?=some x)(C3:¬(x.size:Int)<2)(U4:0≤1∧1≤(x.size:Int)∧(x.size:Int)≤(x.size:Int))(D4:sub=x.extract 1 x.size)(K5:(oAtoiL) [.lit (.string sub)]=some (.tup [.lit (.int .i64 r2),r3]))(A6:r3=AV.err):
  run (n+9) 11 [.lit (.string a0)]=some (.tup [.agg [.lit (.int .i64 0),.lit (.int .i64 0),.lit (.bool false),.sl 1 [],.sl 1 []],.lit (.int .i64 4)]):=by
 obtain ⟨EL2,EG2⟩:=List.getElem?_eq_some_iff.1 E2
 have C3_:¬x.size<2:=by omega
 have D4_:=D4.symm
 unfold run fnP
 simp+decide [Tryz.f11,K1,EL2,EG2,E2,C3,C3_,U4,D4_,K5,A6]
end
section
open Go.RowKit
open Lib (decDigits)
attribute [local irreducible] run runL loopG exec
def plP(L:List UInt8):Option TDecision:=
 match pcw L with
 | []=>none
 | w0::ws=>if w0.length<2 then none else match Lib.atoiAll (w0.drop 1) with
   | .ok i=>(match ws with
     | [w1]=>some ⟨if w1=[111,110] then 1 else 2,i,0⟩
     | [w1,w2]=>(match dpF w2 with
       | none=>none
       | some q=>some ⟨if w1=[62,61] then 3 else 4,i,q⟩)
     | _=>some ⟨0,i,0⟩)
   | _=>none
def ppV:Option TDecision→AV
 | some d=>.tup [decisionV d,.lit (.int .i64 0)]
 | none=>.tup [.agg [.lit (.int .i64 0),.lit (.int .i64 0),.lit (.bool false),.sl 1 [],.sl 1 []],.lit (.int .i64 4)]
theorem pcw_len:∀(L:List UInt8),∀p∈pcw L,p.length≤L.length
 | [],p,h=>by simp [pcw] at h;rw [h];simp
 | c::l,p,h=>by
   have ih:=pcw_len l
   unfold pcw at h
   by_cases hc:c=32
   ·rw [if_pos hc] at h
    rcases List.mem_cons.1 h with rfl|h
    ·simp
    ·have:=ih p h;rw [List.length_cons];omega
   ·rw [if_neg hc] at h
    cases hk:pcw l with
    | nil=>rw [hk] at h;rw [List.mem_singleton.1 h];simp
    | cons q ps=>
      rw [hk] at h ih
      dsimp only at h
      rcases List.mem_cons.1 h with rfl|h
      ·have:=ih q List.mem_cons_self;simp only [List.length_cons];omega
      ·have:=ih p (List.mem_cons_of_mem _ h);simp only [List.length_cons];omega
theorem H0':H 0≤1:=by decide
section
variable {n : Nat} {L : List UInt8}
theorem fin_c{d:TDecision}(hH:H d.At≤1000)(hL:L≠[]):∃T,run (n+6) 9 [decisionV d]=some (.lit (.string (bs T)))∧(T=L↔DVal d∧dtxt d=L):=by
 by_cases hd:DVal d
 ·exact ⟨dtxt d,ptx_c hd hH,fun h=>⟨hd,h⟩,fun h=>h.2⟩
 ·have hr:¬DVR (rwD d):=fun h=>hd ((dvr_dval d).1 h)
  exact ⟨[],ptx_0 (d:=rwD d) (rawB_q (by show H d.At≤_;omega)) hr,fun h=>absurd h.symm hL,fun h=>absurd h.1 hd⟩
theorem ppR_no{d:TDecision}(h:¬(DVal d∧dtxt d=L)):ppR (some d) L=none:=by unfold ppR;exact if_neg h
theorem ppR_yes{d:TDecision}(h:DVal d∧dtxt d=L):ppR (some d) L=some d:=by unfold ppR;exact if_pos h
theorem dec0(k i:Int):decisionV ⟨k,i,0⟩=.agg [.lit (.int .i64 k),.lit (.int .i64 i),.lit (.bool false),.sl 1 [],.sl 1 []]:=by simp
theorem pps_c(hL:L.length≤200):run (n+9) 11 [.lit (.string (bs L))]=some (ppV (ppR (plP L) L)):=by
 have K1:=split32_c (L:=L) (by omega)
 have hlen:=pcw_len L
 obtain ⟨w0,ws,hp⟩:=pcw_ne L
 unfold plP
 rw [hp]
 rw [hp] at K1 hlen
 dsimp only
 have E2:((w0::ws).map bs)[0]?=some (bs w0):=rfl
 have hs:(bs w0).size=w0.length:=bs_size _
 by_cases h2:w0.length<2
 ·rw [if_pos h2]
  exact pps_f1 K1 E2 (by omega)
 rw [if_neg h2]
 have hLne:L≠[]:=fun e=>by
  have:=hlen w0 List.mem_cons_self
  rw [e,List.length_nil] at this
  omega
 have hLb:¬bs L=(⟨#[]⟩:ByteArray):=bs_ne hLne
 have hw0:=hlen w0 List.mem_cons_self
 have U4:0≤1∧1≤((bs w0).size:Int)∧((bs w0).size:Int)≤((bs w0).size:Int):=⟨by omega,by omega,by omega⟩
 have D4:bs (w0.drop 1)=(bs w0).extract 1 (bs w0).size:=(bs_from w0 1).symm
 have at_:oAtoiL [.lit (.string (bs (w0.drop 1)))]=(match Lib.atoiAll (w0.drop 1) with
   | .ok i=>some (.tup [.lit (.int .i64 i),.lit .nilIface])
   | .range=>some (.tup [.lit (.int .i64 (Lib.atoiSat (w0.drop 1))),.err])
   | _=>some (.tup [.lit (.int .i64 0),.err])):=by
  unfold oAtoiL
  dsimp only
  rw [if_pos (by rw [bs_size,List.length_drop];omega),bs_data]
  cases Lib.atoiAll (w0.drop 1) <;>rfl
 have bad:∀z,oAtoiL [.lit (.string (bs (w0.drop 1)))]=some (.tup [.lit (.int .i64 z),.err])→run (n+9) 11 [.lit (.string (bs L))]=some (ppV (ppR none L)):=fun z K5=>
  ppe_f2 K1 E2 (by omega) U4 D4 K5 rfl
 cases ha:Lib.atoiAll (w0.drop 1) with
 | range=>rw [ha] at at_;exact bad _ at_
 | ok i=>
   rw [ha] at at_
   have K5:=at_
   dsimp only at K5 ⊢
   have eqb:∀(a b:List UInt8),bs a=bs b↔a=b:=fun a b=>bs_eq
   match ws,hp,K1,hlen,E2 with
   | [],hp,K1,hlen,E2=>
     obtain ⟨T,KT,hT⟩:=fin_c (n:=n+2) (L:=L) (d:=⟨0,i,0⟩) (by show H 0≤_;have:=H0';omega) hLne
     rw [dec0] at KT
     dsimp only
     by_cases hd:DVal ⟨0,i,0⟩∧dtxt ⟨0,i,0⟩=L
     ·have R:=pps_f34 (n:=n) K1 E2 (by omega) U4 D4 K5 rfl (by simp) (by simp) hLb KT (by rw [hT.2 hd])
      rw [R,ppR_yes hd]
      simp [ppV]
     ·have R:=pps_f33 (n:=n) K1 E2 (by omega) U4 D4 K5 rfl (by simp) (by simp) hLb KT (fun h=>hd (hT.1 (bs_inj h)))
      rw [R,ppR_no hd]
      rfl
   | [w1],hp,K1,hlen,E2=>
     have E8:([w0,w1].map bs)[1]?=some (bs w1):=rfl
     dsimp only
     by_cases h1:w1=[111,110]
     ·rw [if_pos h1]
      have C9:bs w1=(⟨#[111,110]⟩:ByteArray):=by rw [h1];rfl
      obtain ⟨T,KT,hT⟩:=fin_c (n:=n+2) (L:=L) (d:=⟨1,i,0⟩) (by show H 0≤_;have:=H0';omega) hLne
      rw [dec0] at KT
      by_cases hd:DVal ⟨1,i,0⟩∧dtxt ⟨1,i,0⟩=L
      ·have R:=pps_f12 (n:=n) K1 E2 (by omega) U4 D4 K5 rfl rfl E8 C9 (by simp) hLb KT (by rw [hT.2 hd])
       rw [R,ppR_yes hd]
       simp [ppV]
      ·have R:=pps_f11 (n:=n) K1 E2 (by omega) U4 D4 K5 rfl rfl E8 C9 (by simp) hLb KT (fun h=>hd (hT.1 (bs_inj h)))
       rw [R,ppR_no hd]
       rfl
     ·rw [if_neg h1]
      have C9:¬bs w1=(⟨#[111,110]⟩:ByteArray):=fun h=>h1 (bs_inj (m:=[111,110]) h)
      obtain ⟨T,KT,hT⟩:=fin_c (n:=n+2) (L:=L) (d:=⟨2,i,0⟩) (by show H 0≤_;have:=H0';omega) hLne
      rw [dec0] at KT
      by_cases hd:DVal ⟨2,i,0⟩∧dtxt ⟨2,i,0⟩=L
      ·have R:=pps_f23 (n:=n) K1 E2 (by omega) U4 D4 K5 rfl rfl E8 C9 (by simp) hLb KT (by rw [hT.2 hd])
       rw [R,ppR_yes hd]
       simp [ppV]
      ·have R:=pps_f22 (n:=n) K1 E2 (by omega) U4 D4 K5 rfl rfl E8 C9 (by simp) hLb KT (fun h=>hd (hT.1 (bs_inj h)))
       rw [R,ppR_no hd]
       rfl
   | [w1,w2],hp,K1,hlen,E2=>
     have E9:([w0,w1,w2].map bs)[1]?=some (bs w1):=rfl
     have E11:([w0,w1,w2].map bs)[2]?=some (bs w2):=rfl
     have hw2:=hlen w2 (by simp)
     obtain ⟨a,e,KP,he⟩:=dpr_c (n:=n) (L:=w2) (by omega)
     have hH:H ((dpF w2).getD 0)≤1000:=by
      cases hq:dpF w2 with
      | none=>show H 0≤_;have:=H0';omega
      | some q=>have:=dp_H hq;show H q≤_;omega
     dsimp only
     by_cases h1:w1=[62,61]
     ·have C10:bs w1=(⟨#[62,61]⟩:ByteArray):=by rw [h1];rfl
      cases hq:dpF w2 with
      | none=>
        rw [hq] at he
        exact pps_f24 (n:=n) K1 E2 (by omega) U4 D4 K5 rfl (by simp) rfl E9 C10 E11 KP (fun h=>by have:=he.1 h;cases this)
      | some q=>
        rw [hq] at he hH KP
        have e0:e=0:=he.2 rfl
        dsimp only
        rw [if_pos h1]
        obtain ⟨T,KT,hT⟩:=fin_c (n:=n+2) (L:=L) (d:=⟨3,i,q⟩) hH hLne
        by_cases hd:DVal ⟨3,i,q⟩∧dtxt ⟨3,i,q⟩=L
        ·rw [ppR_yes hd]
         exact pps_f27 (n:=n) K1 E2 (by omega) U4 D4 K5 rfl (by simp) rfl E9 C10 E11 KP e0 hLb KT (by rw [hT.2 hd])
        ·rw [ppR_no hd]
         exact pps_f26 (n:=n) K1 E2 (by omega) U4 D4 K5 rfl (by simp) rfl E9 C10 E11 KP e0 hLb KT (fun h=>hd (hT.1 (bs_inj h)))
     ·have C10:¬bs w1=(⟨#[62,61]⟩:ByteArray):=fun h=>h1 (bs_inj (m:=[62,61]) h)
      cases hq:dpF w2 with
      | none=>
        rw [hq] at he
        exact pps_f28 (n:=n) K1 E2 (by omega) U4 D4 K5 rfl (by simp) rfl E9 C10 E11 KP (fun h=>by have:=he.1 h;cases this)
      | some q=>
        rw [hq] at he hH KP
        have e0:e=0:=he.2 rfl
        dsimp only
        rw [if_neg h1]
        obtain ⟨T,KT,hT⟩:=fin_c (n:=n+2) (L:=L) (d:=⟨4,i,q⟩) hH hLne
        by_cases hd:DVal ⟨4,i,q⟩∧dtxt ⟨4,i,q⟩=L
        ·rw [ppR_yes hd]
         exact pps_f31 (n:=n) K1 E2 (by omega) U4 D4 K5 rfl (by simp) rfl E9 C10 E11 KP e0 hLb KT (by rw [hT.2 hd])
        ·rw [ppR_no hd]
         exact pps_f30 (n:=n) K1 E2 (by omega) U4 D4 K5 rfl (by simp) rfl E9 C10 E11 KP e0 hLb KT (fun h=>hd (hT.1 (bs_inj h)))
   | w1::w2::w3::ws,hp,K1,hlen,E2=>
     obtain ⟨T,KT,hT⟩:=fin_c (n:=n+2) (L:=L) (d:=⟨0,i,0⟩) (by show H 0≤_;have:=H0';omega) hLne
     rw [dec0] at KT
     dsimp only
     have l1:((((w0::w1::w2::w3::ws).map bs).length:Nat):Int)=(ws.length:Int)+4:=by simp;omega
     by_cases hd:DVal ⟨0,i,0⟩∧dtxt ⟨0,i,0⟩=L
     ·have R:=pps_f34 (n:=n) K1 E2 (by omega) U4 D4 K5 rfl (by rw [l1];omega) (by rw [l1];omega) hLb KT (by rw [hT.2 hd])
      rw [R,ppR_yes hd]
      simp [ppV]
     ·have R:=pps_f33 (n:=n) K1 E2 (by omega) U4 D4 K5 rfl (by rw [l1];omega) (by rw [l1];omega) hLb KT (fun h=>hd (hT.1 (bs_inj h)))
      rw [R,ppR_no hd]
      rfl
 | _=>rw [ha] at at_;exact bad _ at_
end
theorem pu_d:∀(D:List UInt8) (acc j:Nat),(∀c∈D,isD c=true)→acc<10 ^ j→j+D.length≤18→Lib.parseUint10 acc D=.ok (dgV D acc)
 | [],acc,j,_,_,_=>rfl
 | c::D,acc,j,hD,ha,hj=>by
   have hd:=(isD_num c).1 (hD c List.mem_cons_self)
   rw [List.length_cons] at hj
   have e:10 ^ (j+1)=10 ^ j*10:=Nat.pow_succ ..
   have h18:10 ^ (j+1)≤10 ^ 18:=Nat.pow_le_pow_right (by decide) (by omega)
   have h18b:(10:Nat) ^ 18=1000000000000000000:=by decide
   have ih:=pu_d D (acc*10+(c.toNat-48)) (j+1) (fun x hx=>hD x (List.mem_cons_of_mem _ hx)) (by omega) (by omega)
   rw [Lib.parseUint10]
   rw [if_pos hd,if_neg (by omega),if_neg (by omega),ih]
   rfl
theorem atoi_dd{i:Int}(h0:0≤i)(h1:i<1024):Lib.atoiAll (decDigits i.toNat)=.ok i:=by
 obtain ⟨d1,d2,_⟩:=dd_d i.toNat i.toNat (Nat.le_refl _)
 have d4:=ix_len h0 h1
 cases hD:decDigits i.toNat with
 | nil=>exact absurd hD (dd_ne _)
 | cons c D=>
   rw [hD] at d1 d2 d4
   have hc:=(isD_num c).1 (d1 c List.mem_cons_self)
   have hp:Lib.parseMag (c::D)=.ok i.toNat:=by
    unfold Lib.parseMag
    rw [if_neg (by simp),pu_d (c::D) 0 0 d1 (by decide) (by omega),d2]
   rw [Lib.atoiAll_plain c D (by omega) (by omega),hp]
   unfold Lib.signless
   dsimp only
   rw [if_neg (by omega)]
   have:((i.toNat:Nat):Int)=i:=by omega
   rw [this]
theorem plP_d(d:TDecision)(hd:DVal d):plP (dtxt d)=some d:=by
 have hi:d.Index<1024:=by rcases hd.k with ⟨_,b,_⟩|⟨_,b⟩ <;>omega
 have ha:=atoi_dd hd.i hi
 have hp:1≤(decDigits d.Index.toNat).length:=dd_pos _
 unfold plP
 rw [pcw_dtxt]
 unfold dwords
 obtain ⟨K,I,q⟩:=d
 dsimp only at ha hp hi ⊢
 have kk:K=1∧q=0∨K=2∧q=0∨K=3∨K=4:=by
  rcases hd.k with ⟨a,_,c⟩|⟨a,_⟩
  ·dsimp only at a c
   rcases a with rfl|rfl
   ·exact .inl ⟨rfl,c⟩
   ·exact .inr (.inl ⟨rfl,c⟩)
  ·dsimp only at a
   rcases a with rfl|rfl
   ·exact .inr (.inr (.inl rfl))
   ·exact .inr (.inr (.inr rfl))
 rcases kk with ⟨rfl,rfl⟩|⟨rfl,rfl⟩|rfl|rfl
 ·rw [if_pos rfl];dsimp only
  rw [if_neg (by rw [List.length_cons];omega),List.drop_succ_cons,List.drop_zero,ha]
  rfl
 ·rw [if_neg (by decide),if_pos rfl];dsimp only
  rw [if_neg (by rw [List.length_cons];omega),List.drop_succ_cons,List.drop_zero,ha]
  rfl
 ·rw [if_neg (by decide),if_neg (by decide),if_pos rfl];dsimp only
  rw [if_neg (by rw [List.length_cons];omega),List.drop_succ_cons,List.drop_zero,ha,dp_rtx]
  rfl
 ·rw [if_neg (by decide),if_neg (by decide),if_neg (by decide)];dsimp only
  rw [if_neg (by rw [List.length_cons];omega),List.drop_succ_cons,List.drop_zero,ha,dp_rtx]
  rfl
end
end Go.Proofs.YtnegdhjdienjlaaGreatDoor
