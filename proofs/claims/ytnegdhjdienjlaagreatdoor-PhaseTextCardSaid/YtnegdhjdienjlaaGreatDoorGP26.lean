import Derived.Test.YtnegdhjdienjlaaGreatDoorGP20
import Derived.Test.YtnegdhjdienjlaaGreatDoorGP21
import Derived.Test.YtnegdhjdienjlaaGreatDoorGP25
import Derived.Lib.AtoiAllCases
import Derived.Test.YtnegdhjdienjlaaGreatDoorGP12
import Derived.Test.YtnegdhjdienjlaaGreatDoorRows
import Derived.Deep.Slices
import Derived.ChangeArms
import Derived.ChangeSlices
import Derived.DataReads
import Derived.OpenShut
import Derived.Lib.LaidTab
import Derived.Stop.LaidErr
import Derived.Shelf.Vars
import Derived.Handed
import Derived.ChangeOld
import Derived.Stop.Joined
import Derived.Deep.DeepWitnessRowRef
set_option linter.all false
set_option maxHeartbeats 6400000
set_option maxRecDepth 100000
namespace Go.Proofs.YtnegdhjdienjlaaGreatDoor
section
open Go.RowKit
section
variable {x : ByteArray} {n : Nat} {r : List ByteArray} {a0 : ByteArray} {r3 : AV} {r12 : ByteArray} {x2 : ByteArray} {r2 : Int} {sub : ByteArray} {r21 : ByteArray} {r23 : Int} {x8 : ByteArray} {x7 : ByteArray} {r22 : Rat} {r24 : Int} {r28 : ByteArray} {r25 : Rat} {r27 : Int} {r26 : Int} {x9 : ByteArray} {r29 : ByteArray} {r30 : ByteArray}
section
variable(K1:(oSplit) [.lit (.string a0),.lit (.string (⟨#[32]⟩:ByteArray))]=some (.sl 1 (r.map strC)))(E2:r[0]?=some x)
include K1 E2
theorem pps_f1(C3:(x.size:Int)<2):
  run (n+9) 11 [.lit (.string a0)]=some (.tup [.agg [.lit (.int .i64 0),.lit (.int .i64 0),.lit (.bool false),.sl 1 [],.sl 1 []],.lit (.int .i64 4)]):=by
 obtain ⟨EL2,EG2⟩:=List.getElem?_eq_some_iff.1 E2
 have C3_:x.size<2:=by omega
 unfold run fnP
 simp+decide [Tryz.f11,K1,EL2,EG2,E2,C3,C3_]
section
variable(C3:¬(x.size:Int)<2)(U4:0≤1∧1≤(x.size:Int)∧(x.size:Int)≤(x.size:Int))(D4:sub=x.extract 1 x.size)(K5:(oAtoiL) [.lit (.string sub)]=some (.tup [.lit (.int .i64 r2),r3]))(A6:r3=AV.lit Value.nilIface)
include C3 U4 D4 K5 A6
section
variable(C7:(r.length:Int)=2)(E8:r[1]?=some x2)
include C7 E8
section
variable(C9:x2=(⟨#[111,110]⟩:ByteArray))(C10:¬(r.length:Int)=3)(C11:¬a0=(⟨#[]⟩:ByteArray))(K12:run (n+8) 9 [.agg [.lit (.int .i64 1),.lit (.int .i64 r2),.lit (.bool false),.sl 1 [],.sl 1 []]]=some (.lit (.string r12)))
include C9 C10 C11 K12
theorem pps_f11(C13:¬r12=a0):
  run (n+9) 11 [.lit (.string a0)]=some (.tup [.agg [.lit (.int .i64 0),.lit (.int .i64 0),.lit (.bool false),.sl 1 [],.sl 1 []],.lit (.int .i64 4)]):=by
 obtain ⟨EL2,EG2⟩:=List.getElem?_eq_some_iff.1 E2
 have C3_:¬x.size<2:=by omega
 have D4_:=D4.symm
 have C7_:((r.length:Int)==2)=true:=by rw [C7];simp
 have C7_n:((r.length:Int) !=2)=false:=by rw [C7];simp
 obtain ⟨EL8,EG8⟩:=List.getElem?_eq_some_iff.1 E8
 have C9_:(x2.toList==(⟨#[111,110]⟩:ByteArray).toList)=true:=by rw [C9];simp
 have C9_n:(x2.toList !=(⟨#[111,110]⟩:ByteArray).toList)=false:=by rw [bne,C9_];rfl
 have C9_k:(x2.toList==([111,110]:List UInt8))=true:=by rw [show ([111,110]:List UInt8)=(⟨#[111,110]⟩:ByteArray).toList by rw [ba_toList]];exact C9_
 have C10_:((r.length:Int)==3)=false:=by simpa using C10
 have C10_n:((r.length:Int) !=3)=true:=by simpa using C10
 have C11_:(a0.toList==(⟨#[]⟩:ByteArray).toList)=false:=by rw [beq_eq_false_iff_ne];exact fun h=>C11 (ba_inj h)
 have C11_n:(a0.toList !=(⟨#[]⟩:ByteArray).toList)=true:=by rw [bne,C11_];rfl
 have C11_i:a0.toList.isEmpty=false:=by rcases he:a0.toList.isEmpty with _|_;rfl;exact absurd (ba_inj (by rw [List.isEmpty_iff.1 he,ba_toList] <;>rfl)) C11
 have C13_:(r12.toList==a0.toList)=false:=by rw [beq_eq_false_iff_ne];exact fun h=>C13 (ba_inj h)
 have C13_n:(r12.toList !=a0.toList)=true:=by rw [bne,C13_];rfl
 unfold run fnP
 simp+decide [Tryz.f11,K1,EL2,EG2,E2,C3,C3_,U4,D4_,K5,A6,C7_,C7_n,EL8,EG8,E8,C9_,C9_n,C9_k,C10_,C10_n,C11_,C11_n,C11_i,K12,C13_,C13_n]
theorem pps_f12(C13:r12=a0):
  run (n+9) 11 [.lit (.string a0)]=some (.tup [.agg [.lit (.int .i64 1),.lit (.int .i64 r2),.lit (.bool false),.sl 1 [],.sl 1 []],.lit (.int .i64 0)]):=by
 obtain ⟨EL2,EG2⟩:=List.getElem?_eq_some_iff.1 E2
 have C3_:¬x.size<2:=by omega
 have D4_:=D4.symm
 have C7_:((r.length:Int)==2)=true:=by rw [C7];simp
 have C7_n:((r.length:Int) !=2)=false:=by rw [C7];simp
 obtain ⟨EL8,EG8⟩:=List.getElem?_eq_some_iff.1 E8
 have C9_:(x2.toList==(⟨#[111,110]⟩:ByteArray).toList)=true:=by rw [C9];simp
 have C9_n:(x2.toList !=(⟨#[111,110]⟩:ByteArray).toList)=false:=by rw [bne,C9_];rfl
 have C9_k:(x2.toList==([111,110]:List UInt8))=true:=by rw [show ([111,110]:List UInt8)=(⟨#[111,110]⟩:ByteArray).toList by rw [ba_toList]];exact C9_
 have C10_:((r.length:Int)==3)=false:=by simpa using C10
 have C10_n:((r.length:Int) !=3)=true:=by simpa using C10
 have C11_:(a0.toList==(⟨#[]⟩:ByteArray).toList)=false:=by rw [beq_eq_false_iff_ne];exact fun h=>C11 (ba_inj h)
 have C11_n:(a0.toList !=(⟨#[]⟩:ByteArray).toList)=true:=by rw [bne,C11_];rfl
 have C11_i:a0.toList.isEmpty=false:=by rcases he:a0.toList.isEmpty with _|_;rfl;exact absurd (ba_inj (by rw [List.isEmpty_iff.1 he,ba_toList] <;>rfl)) C11
 have C13_:(r12.toList==a0.toList)=true:=by rw [C13];simp
 have C13_n:(r12.toList !=a0.toList)=false:=by rw [bne,C13_];rfl
 unfold run fnP
 simp+decide [Tryz.f11,K1,EL2,EG2,E2,C3,C3_,U4,D4_,K5,A6,C7_,C7_n,EL8,EG8,E8,C9_,C9_n,C9_k,C10_,C10_n,C11_,C11_n,C11_i,K12,C13_,C13_n]
end
section
variable(C9:¬x2=(⟨#[111,110]⟩:ByteArray))(C10:¬(r.length:Int)=3)(C11:¬a0=(⟨#[]⟩:ByteArray))(K12:run (n+8) 9 [.agg [.lit (.int .i64 2),.lit (.int .i64 r2),.lit (.bool false),.sl 1 [],.sl 1 []]]=some (.lit (.string r21)))
include C9 C10 C11 K12
theorem pps_f22(C13:¬r21=a0):
  run (n+9) 11 [.lit (.string a0)]=some (.tup [.agg [.lit (.int .i64 0),.lit (.int .i64 0),.lit (.bool false),.sl 1 [],.sl 1 []],.lit (.int .i64 4)]):=by
 obtain ⟨EL2,EG2⟩:=List.getElem?_eq_some_iff.1 E2
 have C3_:¬x.size<2:=by omega
 have D4_:=D4.symm
 have C7_:((r.length:Int)==2)=true:=by rw [C7];simp
 have C7_n:((r.length:Int) !=2)=false:=by rw [C7];simp
 obtain ⟨EL8,EG8⟩:=List.getElem?_eq_some_iff.1 E8
 have C9_:(x2.toList==(⟨#[111,110]⟩:ByteArray).toList)=false:=by rw [beq_eq_false_iff_ne];exact fun h=>C9 (ba_inj h)
 have C9_n:(x2.toList !=(⟨#[111,110]⟩:ByteArray).toList)=true:=by rw [bne,C9_];rfl
 have C9_k:(x2.toList==([111,110]:List UInt8))=false:=by rw [show ([111,110]:List UInt8)=(⟨#[111,110]⟩:ByteArray).toList by rw [ba_toList]];exact C9_
 have C10_:((r.length:Int)==3)=false:=by simpa using C10
 have C10_n:((r.length:Int) !=3)=true:=by simpa using C10
 have C11_:(a0.toList==(⟨#[]⟩:ByteArray).toList)=false:=by rw [beq_eq_false_iff_ne];exact fun h=>C11 (ba_inj h)
 have C11_n:(a0.toList !=(⟨#[]⟩:ByteArray).toList)=true:=by rw [bne,C11_];rfl
 have C11_i:a0.toList.isEmpty=false:=by rcases he:a0.toList.isEmpty with _|_;rfl;exact absurd (ba_inj (by rw [List.isEmpty_iff.1 he,ba_toList] <;>rfl)) C11
 have C13_:(r21.toList==a0.toList)=false:=by rw [beq_eq_false_iff_ne];exact fun h=>C13 (ba_inj h)
 have C13_n:(r21.toList !=a0.toList)=true:=by rw [bne,C13_];rfl
 unfold run fnP
 simp+decide [Tryz.f11,K1,EL2,EG2,E2,C3,C3_,U4,D4_,K5,A6,C7_,C7_n,EL8,EG8,E8,C9_,C9_n,C9_k,C10_,C10_n,C11_,C11_n,C11_i,K12,C13_,C13_n]
theorem pps_f23(C13:r21=a0):
  run (n+9) 11 [.lit (.string a0)]=some (.tup [.agg [.lit (.int .i64 2),.lit (.int .i64 r2),.lit (.bool false),.sl 1 [],.sl 1 []],.lit (.int .i64 0)]):=by
 obtain ⟨EL2,EG2⟩:=List.getElem?_eq_some_iff.1 E2
 have C3_:¬x.size<2:=by omega
 have D4_:=D4.symm
 have C7_:((r.length:Int)==2)=true:=by rw [C7];simp
 have C7_n:((r.length:Int) !=2)=false:=by rw [C7];simp
 obtain ⟨EL8,EG8⟩:=List.getElem?_eq_some_iff.1 E8
 have C9_:(x2.toList==(⟨#[111,110]⟩:ByteArray).toList)=false:=by rw [beq_eq_false_iff_ne];exact fun h=>C9 (ba_inj h)
 have C9_n:(x2.toList !=(⟨#[111,110]⟩:ByteArray).toList)=true:=by rw [bne,C9_];rfl
 have C9_k:(x2.toList==([111,110]:List UInt8))=false:=by rw [show ([111,110]:List UInt8)=(⟨#[111,110]⟩:ByteArray).toList by rw [ba_toList]];exact C9_
 have C10_:((r.length:Int)==3)=false:=by simpa using C10
 have C10_n:((r.length:Int) !=3)=true:=by simpa using C10
 have C11_:(a0.toList==(⟨#[]⟩:ByteArray).toList)=false:=by rw [beq_eq_false_iff_ne];exact fun h=>C11 (ba_inj h)
 have C11_n:(a0.toList !=(⟨#[]⟩:ByteArray).toList)=true:=by rw [bne,C11_];rfl
 have C11_i:a0.toList.isEmpty=false:=by rcases he:a0.toList.isEmpty with _|_;rfl;exact absurd (ba_inj (by rw [List.isEmpty_iff.1 he,ba_toList] <;>rfl)) C11
 have C13_:(r21.toList==a0.toList)=true:=by rw [C13];simp
 have C13_n:(r21.toList !=a0.toList)=false:=by rw [bne,C13_];rfl
 unfold run fnP
 simp+decide [Tryz.f11,K1,EL2,EG2,E2,C3,C3_,U4,D4_,K5,A6,C7_,C7_n,EL8,EG8,E8,C9_,C9_n,C9_k,C10_,C10_n,C11_,C11_n,C11_i,K12,C13_,C13_n]
end
end
section
variable(C7:¬(r.length:Int)=2)
include C7
section
variable(C8:(r.length:Int)=3)(E9:r[1]?=some x7)
include C8 E9
section
variable(C10:x7=(⟨#[62,61]⟩:ByteArray))(E11:r[2]?=some x8)(K12:run (n+8) 36 [.lit (.string x8)]=some (.tup [ratV r22,.lit (.int .i64 r23),.lit (.int .i64 r24)]))
include C10 E11 K12
theorem pps_f24(C13:¬r24=0):
  run (n+9) 11 [.lit (.string a0)]=some (.tup [.agg [.lit (.int .i64 0),.lit (.int .i64 0),.lit (.bool false),.sl 1 [],.sl 1 []],.lit (.int .i64 4)]):=by
 obtain ⟨EL2,EG2⟩:=List.getElem?_eq_some_iff.1 E2
 have C3_:¬x.size<2:=by omega
 have D4_:=D4.symm
 have C7_:((r.length:Int)==2)=false:=by simpa using C7
 have C7_n:((r.length:Int) !=2)=true:=by simpa using C7
 have C8_:((r.length:Int)==3)=true:=by rw [C8];simp
 have C8_n:((r.length:Int) !=3)=false:=by rw [C8];simp
 obtain ⟨EL9,EG9⟩:=List.getElem?_eq_some_iff.1 E9
 have C10_:(x7.toList==(⟨#[62,61]⟩:ByteArray).toList)=true:=by rw [C10];simp
 have C10_n:(x7.toList !=(⟨#[62,61]⟩:ByteArray).toList)=false:=by rw [bne,C10_];rfl
 have C10_k:(x7.toList==([62,61]:List UInt8))=true:=by rw [show ([62,61]:List UInt8)=(⟨#[62,61]⟩:ByteArray).toList by rw [ba_toList]];exact C10_
 obtain ⟨EL11,EG11⟩:=List.getElem?_eq_some_iff.1 E11
 simp only [ratV] at K12
 have C13_:(r24==0)=false:=by simpa using C13
 have C13_n:(r24 !=0)=true:=by simpa using C13
 unfold run fnP
 simp+decide [Tryz.f11,K1,EL2,EG2,E2,C3,C3_,U4,D4_,K5,A6,C7_,C7_n,C8_,C8_n,EL9,EG9,E9,C10_,C10_n,C10_k,EL11,EG11,E11,K12,C13_,C13_n]
section
variable(C13:r24=0)(C14:¬a0=(⟨#[]⟩:ByteArray))(K15:run (n+8) 9 [.agg [.lit (.int .i64 3),.lit (.int .i64 r2),.lit (.bool (rawQ r22).s),natA (rawQ r22).l1,natA (rawQ r22).l2]]=some (.lit (.string r28)))
include C13 C14 K15
theorem pps_f26(C16:¬r28=a0):
  run (n+9) 11 [.lit (.string a0)]=some (.tup [.agg [.lit (.int .i64 0),.lit (.int .i64 0),.lit (.bool false),.sl 1 [],.sl 1 []],.lit (.int .i64 4)]):=by
 obtain ⟨EL2,EG2⟩:=List.getElem?_eq_some_iff.1 E2
 have C3_:¬x.size<2:=by omega
 have D4_:=D4.symm
 have C7_:((r.length:Int)==2)=false:=by simpa using C7
 have C7_n:((r.length:Int) !=2)=true:=by simpa using C7
 have C8_:((r.length:Int)==3)=true:=by rw [C8];simp
 have C8_n:((r.length:Int) !=3)=false:=by rw [C8];simp
 obtain ⟨EL9,EG9⟩:=List.getElem?_eq_some_iff.1 E9
 have C10_:(x7.toList==(⟨#[62,61]⟩:ByteArray).toList)=true:=by rw [C10];simp
 have C10_n:(x7.toList !=(⟨#[62,61]⟩:ByteArray).toList)=false:=by rw [bne,C10_];rfl
 have C10_k:(x7.toList==([62,61]:List UInt8))=true:=by rw [show ([62,61]:List UInt8)=(⟨#[62,61]⟩:ByteArray).toList by rw [ba_toList]];exact C10_
 obtain ⟨EL11,EG11⟩:=List.getElem?_eq_some_iff.1 E11
 simp only [ratV] at K12
 have C13_:(r24==0)=true:=by rw [C13];simp
 have C13_n:(r24 !=0)=false:=by rw [C13];simp
 have C14_:(a0.toList==(⟨#[]⟩:ByteArray).toList)=false:=by rw [beq_eq_false_iff_ne];exact fun h=>C14 (ba_inj h)
 have C14_n:(a0.toList !=(⟨#[]⟩:ByteArray).toList)=true:=by rw [bne,C14_];rfl
 have C14_i:a0.toList.isEmpty=false:=by rcases he:a0.toList.isEmpty with _|_;rfl;exact absurd (ba_inj (by rw [List.isEmpty_iff.1 he,ba_toList] <;>rfl)) C14
 have C16_:(r28.toList==a0.toList)=false:=by rw [beq_eq_false_iff_ne];exact fun h=>C16 (ba_inj h)
 have C16_n:(r28.toList !=a0.toList)=true:=by rw [bne,C16_];rfl
 unfold run fnP
 simp+decide [Tryz.f11,K1,EL2,EG2,E2,C3,C3_,U4,D4_,K5,A6,C7_,C7_n,C8_,C8_n,EL9,EG9,E9,C10_,C10_n,C10_k,EL11,EG11,E11,K12,C13_,C13_n,C14_,C14_n,C14_i,K15,C16_,C16_n]
theorem pps_f27(C16:r28=a0):
  run (n+9) 11 [.lit (.string a0)]=some (.tup [.agg [.lit (.int .i64 3),.lit (.int .i64 r2),.lit (.bool (rawQ r22).s),natA (rawQ r22).l1,natA (rawQ r22).l2],.lit (.int .i64 0)]):=by
 obtain ⟨EL2,EG2⟩:=List.getElem?_eq_some_iff.1 E2
 have C3_:¬x.size<2:=by omega
 have D4_:=D4.symm
 have C7_:((r.length:Int)==2)=false:=by simpa using C7
 have C7_n:((r.length:Int) !=2)=true:=by simpa using C7
 have C8_:((r.length:Int)==3)=true:=by rw [C8];simp
 have C8_n:((r.length:Int) !=3)=false:=by rw [C8];simp
 obtain ⟨EL9,EG9⟩:=List.getElem?_eq_some_iff.1 E9
 have C10_:(x7.toList==(⟨#[62,61]⟩:ByteArray).toList)=true:=by rw [C10];simp
 have C10_n:(x7.toList !=(⟨#[62,61]⟩:ByteArray).toList)=false:=by rw [bne,C10_];rfl
 have C10_k:(x7.toList==([62,61]:List UInt8))=true:=by rw [show ([62,61]:List UInt8)=(⟨#[62,61]⟩:ByteArray).toList by rw [ba_toList]];exact C10_
 obtain ⟨EL11,EG11⟩:=List.getElem?_eq_some_iff.1 E11
 simp only [ratV] at K12
 have C13_:(r24==0)=true:=by rw [C13];simp
 have C13_n:(r24 !=0)=false:=by rw [C13];simp
 have C14_:(a0.toList==(⟨#[]⟩:ByteArray).toList)=false:=by rw [beq_eq_false_iff_ne];exact fun h=>C14 (ba_inj h)
 have C14_n:(a0.toList !=(⟨#[]⟩:ByteArray).toList)=true:=by rw [bne,C14_];rfl
 have C14_i:a0.toList.isEmpty=false:=by rcases he:a0.toList.isEmpty with _|_;rfl;exact absurd (ba_inj (by rw [List.isEmpty_iff.1 he,ba_toList] <;>rfl)) C14
 have C16_:(r28.toList==a0.toList)=true:=by rw [C16];simp
 have C16_n:(r28.toList !=a0.toList)=false:=by rw [bne,C16_];rfl
 unfold run fnP
 simp+decide [Tryz.f11,K1,EL2,EG2,E2,C3,C3_,U4,D4_,K5,A6,C7_,C7_n,C8_,C8_n,EL9,EG9,E9,C10_,C10_n,C10_k,EL11,EG11,E11,K12,C13_,C13_n,C14_,C14_n,C14_i,K15,C16_,C16_n]
end
end
section
variable(C10:¬x7=(⟨#[62,61]⟩:ByteArray))(E11:r[2]?=some x9)(K12:run (n+8) 36 [.lit (.string x9)]=some (.tup [ratV r25,.lit (.int .i64 r26),.lit (.int .i64 r27)]))
include C10 E11 K12
theorem pps_f28(C13:¬r27=0):
  run (n+9) 11 [.lit (.string a0)]=some (.tup [.agg [.lit (.int .i64 0),.lit (.int .i64 0),.lit (.bool false),.sl 1 [],.sl 1 []],.lit (.int .i64 4)]):=by
 obtain ⟨EL2,EG2⟩:=List.getElem?_eq_some_iff.1 E2
 have C3_:¬x.size<2:=by omega
 have D4_:=D4.symm
 have C7_:((r.length:Int)==2)=false:=by simpa using C7
 have C7_n:((r.length:Int) !=2)=true:=by simpa using C7
 have C8_:((r.length:Int)==3)=true:=by rw [C8];simp
 have C8_n:((r.length:Int) !=3)=false:=by rw [C8];simp
 obtain ⟨EL9,EG9⟩:=List.getElem?_eq_some_iff.1 E9
 have C10_:(x7.toList==(⟨#[62,61]⟩:ByteArray).toList)=false:=by rw [beq_eq_false_iff_ne];exact fun h=>C10 (ba_inj h)
 have C10_n:(x7.toList !=(⟨#[62,61]⟩:ByteArray).toList)=true:=by rw [bne,C10_];rfl
 have C10_k:(x7.toList==([62,61]:List UInt8))=false:=by rw [show ([62,61]:List UInt8)=(⟨#[62,61]⟩:ByteArray).toList by rw [ba_toList]];exact C10_
 obtain ⟨EL11,EG11⟩:=List.getElem?_eq_some_iff.1 E11
 simp only [ratV] at K12
 have C13_:(r27==0)=false:=by simpa using C13
 have C13_n:(r27 !=0)=true:=by simpa using C13
 unfold run fnP
 simp+decide [Tryz.f11,K1,EL2,EG2,E2,C3,C3_,U4,D4_,K5,A6,C7_,C7_n,C8_,C8_n,EL9,EG9,E9,C10_,C10_n,C10_k,EL11,EG11,E11,K12,C13_,C13_n]
section
variable(C13:r27=0)(C14:¬a0=(⟨#[]⟩:ByteArray))(K15:run (n+8) 9 [.agg [.lit (.int .i64 4),.lit (.int .i64 r2),.lit (.bool (rawQ r25).s),natA (rawQ r25).l1,natA (rawQ r25).l2]]=some (.lit (.string r29)))
include C13 C14 K15
theorem pps_f30(C16:¬r29=a0):
  run (n+9) 11 [.lit (.string a0)]=some (.tup [.agg [.lit (.int .i64 0),.lit (.int .i64 0),.lit (.bool false),.sl 1 [],.sl 1 []],.lit (.int .i64 4)]):=by
 obtain ⟨EL2,EG2⟩:=List.getElem?_eq_some_iff.1 E2
 have C3_:¬x.size<2:=by omega
 have D4_:=D4.symm
 have C7_:((r.length:Int)==2)=false:=by simpa using C7
 have C7_n:((r.length:Int) !=2)=true:=by simpa using C7
 have C8_:((r.length:Int)==3)=true:=by rw [C8];simp
 have C8_n:((r.length:Int) !=3)=false:=by rw [C8];simp
 obtain ⟨EL9,EG9⟩:=List.getElem?_eq_some_iff.1 E9
 have C10_:(x7.toList==(⟨#[62,61]⟩:ByteArray).toList)=false:=by rw [beq_eq_false_iff_ne];exact fun h=>C10 (ba_inj h)
 have C10_n:(x7.toList !=(⟨#[62,61]⟩:ByteArray).toList)=true:=by rw [bne,C10_];rfl
 have C10_k:(x7.toList==([62,61]:List UInt8))=false:=by rw [show ([62,61]:List UInt8)=(⟨#[62,61]⟩:ByteArray).toList by rw [ba_toList]];exact C10_
 obtain ⟨EL11,EG11⟩:=List.getElem?_eq_some_iff.1 E11
 simp only [ratV] at K12
 have C13_:(r27==0)=true:=by rw [C13];simp
 have C13_n:(r27 !=0)=false:=by rw [C13];simp
 have C14_:(a0.toList==(⟨#[]⟩:ByteArray).toList)=false:=by rw [beq_eq_false_iff_ne];exact fun h=>C14 (ba_inj h)
 have C14_n:(a0.toList !=(⟨#[]⟩:ByteArray).toList)=true:=by rw [bne,C14_];rfl
 have C14_i:a0.toList.isEmpty=false:=by rcases he:a0.toList.isEmpty with _|_;rfl;exact absurd (ba_inj (by rw [List.isEmpty_iff.1 he,ba_toList] <;>rfl)) C14
 have C16_:(r29.toList==a0.toList)=false:=by rw [beq_eq_false_iff_ne];exact fun h=>C16 (ba_inj h)
 have C16_n:(r29.toList !=a0.toList)=true:=by rw [bne,C16_];rfl
 unfold run fnP
 simp+decide [Tryz.f11,K1,EL2,EG2,E2,C3,C3_,U4,D4_,K5,A6,C7_,C7_n,C8_,C8_n,EL9,EG9,E9,C10_,C10_n,C10_k,EL11,EG11,E11,K12,C13_,C13_n,C14_,C14_n,C14_i,K15,C16_,C16_n]
theorem pps_f31(C16:r29=a0):
  run (n+9) 11 [.lit (.string a0)]=some (.tup [.agg [.lit (.int .i64 4),.lit (.int .i64 r2),.lit (.bool (rawQ r25).s),natA (rawQ r25).l1,natA (rawQ r25).l2],.lit (.int .i64 0)]):=by
 obtain ⟨EL2,EG2⟩:=List.getElem?_eq_some_iff.1 E2
 have C3_:¬x.size<2:=by omega
 have D4_:=D4.symm
 have C7_:((r.length:Int)==2)=false:=by simpa using C7
 have C7_n:((r.length:Int) !=2)=true:=by simpa using C7
 have C8_:((r.length:Int)==3)=true:=by rw [C8];simp
 have C8_n:((r.length:Int) !=3)=false:=by rw [C8];simp
 obtain ⟨EL9,EG9⟩:=List.getElem?_eq_some_iff.1 E9
 have C10_:(x7.toList==(⟨#[62,61]⟩:ByteArray).toList)=false:=by rw [beq_eq_false_iff_ne];exact fun h=>C10 (ba_inj h)
 have C10_n:(x7.toList !=(⟨#[62,61]⟩:ByteArray).toList)=true:=by rw [bne,C10_];rfl
 have C10_k:(x7.toList==([62,61]:List UInt8))=false:=by rw [show ([62,61]:List UInt8)=(⟨#[62,61]⟩:ByteArray).toList by rw [ba_toList]];exact C10_
 obtain ⟨EL11,EG11⟩:=List.getElem?_eq_some_iff.1 E11
 simp only [ratV] at K12
 have C13_:(r27==0)=true:=by rw [C13];simp
 have C13_n:(r27 !=0)=false:=by rw [C13];simp
 have C14_:(a0.toList==(⟨#[]⟩:ByteArray).toList)=false:=by rw [beq_eq_false_iff_ne];exact fun h=>C14 (ba_inj h)
 have C14_n:(a0.toList !=(⟨#[]⟩:ByteArray).toList)=true:=by rw [bne,C14_];rfl
 have C14_i:a0.toList.isEmpty=false:=by rcases he:a0.toList.isEmpty with _|_;rfl;exact absurd (ba_inj (by rw [List.isEmpty_iff.1 he,ba_toList] <;>rfl)) C14
 have C16_:(r29.toList==a0.toList)=true:=by rw [C16];simp
 have C16_n:(r29.toList !=a0.toList)=false:=by rw [bne,C16_];rfl
 unfold run fnP
 simp+decide [Tryz.f11,K1,EL2,EG2,E2,C3,C3_,U4,D4_,K5,A6,C7_,C7_n,C8_,C8_n,EL9,EG9,E9,C10_,C10_n,C10_k,EL11,EG11,E11,K12,C13_,C13_n,C14_,C14_n,C14_i,K15,C16_,C16_n]
end
end
end
section
variable(C8:¬(r.length:Int)=3)(C9:¬a0=(⟨#[]⟩:ByteArray))(K10:run (n+8) 9 [.agg [.lit (.int .i64 0),.lit (.int .i64 r2),.lit (.bool false),.sl 1 [],.sl 1 []]]=some (.lit (.string r30)))
include C8 C9 K10
theorem pps_f33(C11:¬r30=a0):
  run (n+9) 11 [.lit (.string a0)]=some (.tup [.agg [.lit (.int .i64 0),.lit (.int .i64 0),.lit (.bool false),.sl 1 [],.sl 1 []],.lit (.int .i64 4)]):=by
 obtain ⟨EL2,EG2⟩:=List.getElem?_eq_some_iff.1 E2
 have C3_:¬x.size<2:=by omega
 have D4_:=D4.symm
 have C7_:((r.length:Int)==2)=false:=by simpa using C7
 have C7_n:((r.length:Int) !=2)=true:=by simpa using C7
 have C8_:((r.length:Int)==3)=false:=by simpa using C8
 have C8_n:((r.length:Int) !=3)=true:=by simpa using C8
 have C9_:(a0.toList==(⟨#[]⟩:ByteArray).toList)=false:=by rw [beq_eq_false_iff_ne];exact fun h=>C9 (ba_inj h)
 have C9_n:(a0.toList !=(⟨#[]⟩:ByteArray).toList)=true:=by rw [bne,C9_];rfl
 have C9_i:a0.toList.isEmpty=false:=by rcases he:a0.toList.isEmpty with _|_;rfl;exact absurd (ba_inj (by rw [List.isEmpty_iff.1 he,ba_toList] <;>rfl)) C9
 have C11_:(r30.toList==a0.toList)=false:=by rw [beq_eq_false_iff_ne];exact fun h=>C11 (ba_inj h)
 have C11_n:(r30.toList !=a0.toList)=true:=by rw [bne,C11_];rfl
 unfold run fnP
 simp+decide [Tryz.f11,K1,EL2,EG2,E2,C3,C3_,U4,D4_,K5,A6,C7_,C7_n,C8_,C8_n,C9_,C9_n,C9_i,K10,C11_,C11_n]
theorem pps_f34(C11:r30=a0):
  run (n+9) 11 [.lit (.string a0)]=some (.tup [.agg [.lit (.int .i64 0),.lit (.int .i64 r2),.lit (.bool false),.sl 1 [],.sl 1 []],.lit (.int .i64 0)]):=by
 obtain ⟨EL2,EG2⟩:=List.getElem?_eq_some_iff.1 E2
 have C3_:¬x.size<2:=by omega
 have D4_:=D4.symm
 have C7_:((r.length:Int)==2)=false:=by simpa using C7
 have C7_n:((r.length:Int) !=2)=true:=by simpa using C7
 have C8_:((r.length:Int)==3)=false:=by simpa using C8
 have C8_n:((r.length:Int) !=3)=true:=by simpa using C8
 have C9_:(a0.toList==(⟨#[]⟩:ByteArray).toList)=false:=by rw [beq_eq_false_iff_ne];exact fun h=>C9 (ba_inj h)
 have C9_n:(a0.toList !=(⟨#[]⟩:ByteArray).toList)=true:=by rw [bne,C9_];rfl
 have C9_i:a0.toList.isEmpty=false:=by rcases he:a0.toList.isEmpty with _|_;rfl;exact absurd (ba_inj (by rw [List.isEmpty_iff.1 he,ba_toList] <;>rfl)) C9
 have C11_:(r30.toList==a0.toList)=true:=by rw [C11];simp
 have C11_n:(r30.toList !=a0.toList)=false:=by rw [bne,C11_];rfl
 unfold run fnP
 simp+decide [Tryz.f11,K1,EL2,EG2,E2,C3,C3_,U4,D4_,K5,A6,C7_,C7_n,C8_,C8_n,C9_,C9_n,C9_i,K10,C11_,C11_n]
end
end
end
end
end
end
section
open Go.RowKit
theorem ppe_f2{n:Nat}{a0:ByteArray}{r:List ByteArray}{x:ByteArray}{sub:ByteArray}{r2:Int}{r3:AV}(K1:(oSplit) [.lit (.string a0),.lit (.string (⟨#[32]⟩:ByteArray))]=some (.sl 1 (r.map strC)))(E2:r[0]?=some x)(C3:¬(x.size:Int)<2)(U4:0≤1∧1≤(x.size:Int)∧(x.size:Int)≤(x.size:Int))(D4:sub=x.extract 1 x.size)(K5:(oAtoiL) [.lit (.string sub)]=some (.tup [.lit (.int .i64 r2),r3]))(A6:r3=AV.err):
  run (n+9) 11 [.lit (.string a0)]=some (.tup [.agg [.lit (.int .i64 0),.lit (.int .i64 0),.lit (.bool false),.sl 1 [],.sl 1 []],.lit (.int .i64 4)]):=by
 obtain ⟨EL2,EG2⟩:=List.getElem?_eq_some_iff.1 E2
 have C3_:¬x.size<2:=by omega
 have D4_:=D4.symm
 unfold run fnP
 simp+decide [Tryz.f11,K1,EL2,EG2,E2,C3,C3_,U4,D4_,K5,A6]
end
section
open Go.RowKit
open Lib (decDigits)
attribute [local irreducible] run runL loopG exec
def plP(L:List UInt8):Option TDecision:=
 match pcw L with
 | []=>none
 | w0::ws=>if w0.length<2 then none else match Lib.atoiAll (w0.drop 1) with
   | .ok i=>(match ws with
     | [w1]=>some ⟨if w1=[111,110] then 1 else 2,i,0⟩
     | [w1,w2]=>(match dpF w2 with
       | none=>none
       | some q=>some ⟨if w1=[62,61] then 3 else 4,i,q⟩)
     | _=>some ⟨0,i,0⟩)
   | _=>none
def ppV:Option TDecision→AV
 | some d=>.tup [decisionV d,.lit (.int .i64 0)]
 | none=>.tup [.agg [.lit (.int .i64 0),.lit (.int .i64 0),.lit (.bool false),.sl 1 [],.sl 1 []],.lit (.int .i64 4)]
theorem pcw_len:∀(L:List UInt8),∀p∈pcw L,p.length≤L.length
 | [],p,h=>by simp [pcw] at h;rw [h];simp
 | c::l,p,h=>by
   have ih:=pcw_len l
   unfold pcw at h
   by_cases hc:c=32
   ·rw [if_pos hc] at h
    rcases List.mem_cons.1 h with rfl|h
    ·simp
    ·have:=ih p h;rw [List.length_cons];omega
   ·rw [if_neg hc] at h
    cases hk:pcw l with
    | nil=>rw [hk] at h;rw [List.mem_singleton.1 h];simp
    | cons q ps=>
      rw [hk] at h ih
      dsimp only at h
      rcases List.mem_cons.1 h with rfl|h
      ·have:=ih q List.mem_cons_self;simp only [List.length_cons];omega
      ·have:=ih p (List.mem_cons_of_mem _ h);simp only [List.length_cons];omega
theorem H0':H 0≤1:=by decide
section
variable {n : Nat} {L : List UInt8}
theorem fin_c{d:TDecision}(hH:H d.At≤1000)(hL:L≠[]):∃T,run (n+6) 9 [decisionV d]=some (.lit (.string (bs T)))∧(T=L↔DVal d∧dtxt d=L):=by
 by_cases hd:DVal d
 ·exact ⟨dtxt d,ptx_c hd hH,fun h=>⟨hd,h⟩,fun h=>h.2⟩
 ·have hr:¬DVR (rwD d):=fun h=>hd ((dvr_dval d).1 h)
  exact ⟨[],ptx_0 (d:=rwD d) (rawB_q (by show H d.At≤_;omega)) hr,fun h=>absurd h.symm hL,fun h=>absurd h.1 hd⟩
theorem ppR_no{d:TDecision}(h:¬(DVal d∧dtxt d=L)):ppR (some d) L=none:=by unfold ppR;exact if_neg h
theorem ppR_yes{d:TDecision}(h:DVal d∧dtxt d=L):ppR (some d) L=some d:=by unfold ppR;exact if_pos h
theorem dec0(k i:Int):decisionV ⟨k,i,0⟩=.agg [.lit (.int .i64 k),.lit (.int .i64 i),.lit (.bool false),.sl 1 [],.sl 1 []]:=by simp
theorem pps_c(hL:L.length≤200):run (n+9) 11 [.lit (.string (bs L))]=some (ppV (ppR (plP L) L)):=by
 have K1:=split32_c (L:=L) (by omega)
 have hlen:=pcw_len L
 obtain ⟨w0,ws,hp⟩:=pcw_ne L
 unfold plP
 rw [hp]
 rw [hp] at K1 hlen
 dsimp only
 have E2:((w0::ws).map bs)[0]?=some (bs w0):=rfl
 have hs:(bs w0).size=w0.length:=bs_size _
 by_cases h2:w0.length<2
 ·rw [if_pos h2]
  exact pps_f1 K1 E2 (by omega)
 rw [if_neg h2]
 have hLne:L≠[]:=fun e=>by
  have:=hlen w0 List.mem_cons_self
  rw [e,List.length_nil] at this
  omega
 have hLb:¬bs L=(⟨#[]⟩:ByteArray):=bs_ne hLne
 have hw0:=hlen w0 List.mem_cons_self
 have U4:0≤1∧1≤((bs w0).size:Int)∧((bs w0).size:Int)≤((bs w0).size:Int):=⟨by omega,by omega,by omega⟩
 have D4:bs (w0.drop 1)=(bs w0).extract 1 (bs w0).size:=(bs_from w0 1).symm
 have at_:oAtoiL [.lit (.string (bs (w0.drop 1)))]=(match Lib.atoiAll (w0.drop 1) with
   | .ok i=>some (.tup [.lit (.int .i64 i),.lit .nilIface])
   | .range=>some (.tup [.lit (.int .i64 (Lib.atoiSat (w0.drop 1))),.err])
   | _=>some (.tup [.lit (.int .i64 0),.err])):=by
  unfold oAtoiL
  dsimp only
  rw [if_pos (by rw [bs_size,List.length_drop];omega),bs_data]
  cases Lib.atoiAll (w0.drop 1) <;>rfl
 have bad:∀z,oAtoiL [.lit (.string (bs (w0.drop 1)))]=some (.tup [.lit (.int .i64 z),.err])→run (n+9) 11 [.lit (.string (bs L))]=some (ppV (ppR none L)):=fun z K5=>
  ppe_f2 K1 E2 (by omega) U4 D4 K5 rfl
 cases ha:Lib.atoiAll (w0.drop 1) with
 | range=>rw [ha] at at_;exact bad _ at_
 | ok i=>
   rw [ha] at at_
   have K5:=at_
   dsimp only at K5 ⊢
   have eqb:∀(a b:List UInt8),bs a=bs b↔a=b:=fun a b=>bs_eq
   match ws,hp,K1,hlen,E2 with
   | [],hp,K1,hlen,E2=>
     obtain ⟨T,KT,hT⟩:=fin_c (n:=n+2) (L:=L) (d:=⟨0,i,0⟩) (by show H 0≤_;have:=H0';omega) hLne
     rw [dec0] at KT
     dsimp only
     by_cases hd:DVal ⟨0,i,0⟩∧dtxt ⟨0,i,0⟩=L
     ·have R:=pps_f34 (n:=n) K1 E2 (by omega) U4 D4 K5 rfl (by simp) (by simp) hLb KT (by rw [hT.2 hd])
      rw [R,ppR_yes hd]
      simp [ppV]
     ·have R:=pps_f33 (n:=n) K1 E2 (by omega) U4 D4 K5 rfl (by simp) (by simp) hLb KT (fun h=>hd (hT.1 (bs_inj h)))
      rw [R,ppR_no hd]
      rfl
   | [w1],hp,K1,hlen,E2=>
     have E8:([w0,w1].map bs)[1]?=some (bs w1):=rfl
     dsimp only
     by_cases h1:w1=[111,110]
     ·rw [if_pos h1]
      have C9:bs w1=(⟨#[111,110]⟩:ByteArray):=by rw [h1];rfl
      obtain ⟨T,KT,hT⟩:=fin_c (n:=n+2) (L:=L) (d:=⟨1,i,0⟩) (by show H 0≤_;have:=H0';omega) hLne
      rw [dec0] at KT
      by_cases hd:DVal ⟨1,i,0⟩∧dtxt ⟨1,i,0⟩=L
      ·have R:=pps_f12 (n:=n) K1 E2 (by omega) U4 D4 K5 rfl rfl E8 C9 (by simp) hLb KT (by rw [hT.2 hd])
       rw [R,ppR_yes hd]
       simp [ppV]
      ·have R:=pps_f11 (n:=n) K1 E2 (by omega) U4 D4 K5 rfl rfl E8 C9 (by simp) hLb KT (fun h=>hd (hT.1 (bs_inj h)))
       rw [R,ppR_no hd]
       rfl
     ·rw [if_neg h1]
      have C9:¬bs w1=(⟨#[111,110]⟩:ByteArray):=fun h=>h1 (bs_inj (m:=[111,110]) h)
      obtain ⟨T,KT,hT⟩:=fin_c (n:=n+2) (L:=L) (d:=⟨2,i,0⟩) (by show H 0≤_;have:=H0';omega) hLne
      rw [dec0] at KT
      by_cases hd:DVal ⟨2,i,0⟩∧dtxt ⟨2,i,0⟩=L
      ·have R:=pps_f23 (n:=n) K1 E2 (by omega) U4 D4 K5 rfl rfl E8 C9 (by simp) hLb KT (by rw [hT.2 hd])
       rw [R,ppR_yes hd]
       simp [ppV]
      ·have R:=pps_f22 (n:=n) K1 E2 (by omega) U4 D4 K5 rfl rfl E8 C9 (by simp) hLb KT (fun h=>hd (hT.1 (bs_inj h)))
       rw [R,ppR_no hd]
       rfl
   | [w1,w2],hp,K1,hlen,E2=>
     have E9:([w0,w1,w2].map bs)[1]?=some (bs w1):=rfl
     have E11:([w0,w1,w2].map bs)[2]?=some (bs w2):=rfl
     have hw2:=hlen w2 (by simp)
     obtain ⟨a,e,KP,he⟩:=dpr_c (n:=n) (L:=w2) (by omega)
     have hH:H ((dpF w2).getD 0)≤1000:=by
      cases hq:dpF w2 with
      | none=>show H 0≤_;have:=H0';omega
      | some q=>have:=dp_H hq;show H q≤_;omega
     dsimp only
     by_cases h1:w1=[62,61]
     ·have C10:bs w1=(⟨#[62,61]⟩:ByteArray):=by rw [h1];rfl
      cases hq:dpF w2 with
      | none=>
        rw [hq] at he
        exact pps_f24 (n:=n) K1 E2 (by omega) U4 D4 K5 rfl (by simp) rfl E9 C10 E11 KP (fun h=>by have:=he.1 h;cases this)
      | some q=>
        rw [hq] at he hH KP
        have e0:e=0:=he.2 rfl
        dsimp only
        rw [if_pos h1]
        obtain ⟨T,KT,hT⟩:=fin_c (n:=n+2) (L:=L) (d:=⟨3,i,q⟩) hH hLne
        by_cases hd:DVal ⟨3,i,q⟩∧dtxt ⟨3,i,q⟩=L
        ·rw [ppR_yes hd]
         exact pps_f27 (n:=n) K1 E2 (by omega) U4 D4 K5 rfl (by simp) rfl E9 C10 E11 KP e0 hLb KT (by rw [hT.2 hd])
        ·rw [ppR_no hd]
         exact pps_f26 (n:=n) K1 E2 (by omega) U4 D4 K5 rfl (by simp) rfl E9 C10 E11 KP e0 hLb KT (fun h=>hd (hT.1 (bs_inj h)))
     ·have C10:¬bs w1=(⟨#[62,61]⟩:ByteArray):=fun h=>h1 (bs_inj (m:=[62,61]) h)
      cases hq:dpF w2 with
      | none=>
        rw [hq] at he
        exact pps_f28 (n:=n) K1 E2 (by omega) U4 D4 K5 rfl (by simp) rfl E9 C10 E11 KP (fun h=>by have:=he.1 h;cases this)
      | some q=>
        rw [hq] at he hH KP
        have e0:e=0:=he.2 rfl
        dsimp only
        rw [if_neg h1]
        obtain ⟨T,KT,hT⟩:=fin_c (n:=n+2) (L:=L) (d:=⟨4,i,q⟩) hH hLne
        by_cases hd:DVal ⟨4,i,q⟩∧dtxt ⟨4,i,q⟩=L
        ·rw [ppR_yes hd]
         exact pps_f31 (n:=n) K1 E2 (by omega) U4 D4 K5 rfl (by simp) rfl E9 C10 E11 KP e0 hLb KT (by rw [hT.2 hd])
        ·rw [ppR_no hd]
         exact pps_f30 (n:=n) K1 E2 (by omega) U4 D4 K5 rfl (by simp) rfl E9 C10 E11 KP e0 hLb KT (fun h=>hd (hT.1 (bs_inj h)))
   | w1::w2::w3::ws,hp,K1,hlen,E2=>
     obtain ⟨T,KT,hT⟩:=fin_c (n:=n+2) (L:=L) (d:=⟨0,i,0⟩) (by show H 0≤_;have:=H0';omega) hLne
     rw [dec0] at KT
     dsimp only
     have l1:((((w0::w1::w2::w3::ws).map bs).length:Nat):Int)=(ws.length:Int)+4:=by simp;omega
     by_cases hd:DVal ⟨0,i,0⟩∧dtxt ⟨0,i,0⟩=L
     ·have R:=pps_f34 (n:=n) K1 E2 (by omega) U4 D4 K5 rfl (by rw [l1];omega) (by rw [l1];omega) hLb KT (by rw [hT.2 hd])
      rw [R,ppR_yes hd]
      simp [ppV]
     ·have R:=pps_f33 (n:=n) K1 E2 (by omega) U4 D4 K5 rfl (by rw [l1];omega) (by rw [l1];omega) hLb KT (fun h=>hd (hT.1 (bs_inj h)))
      rw [R,ppR_no hd]
      rfl
 | _=>rw [ha] at at_;exact bad _ at_
end
theorem pu_d:∀(D:List UInt8) (acc j:Nat),(∀c∈D,isD c=true)→acc<10 ^ j→j+D.length≤18→Lib.parseUint10 acc D=.ok (dgV D acc)
 | [],acc,j,_,_,_=>rfl
 | c::D,acc,j,hD,ha,hj=>by
   have hd:=(isD_num c).1 (hD c List.mem_cons_self)
   rw [List.length_cons] at hj
   have e:10 ^ (j+1)=10 ^ j*10:=Nat.pow_succ ..
   have h18:10 ^ (j+1)≤10 ^ 18:=Nat.pow_le_pow_right (by decide) (by omega)
   have h18b:(10:Nat) ^ 18=1000000000000000000:=by decide
   have ih:=pu_d D (acc*10+(c.toNat-48)) (j+1) (fun x hx=>hD x (List.mem_cons_of_mem _ hx)) (by omega) (by omega)
   rw [Lib.parseUint10]
   rw [if_pos hd,if_neg (by omega),if_neg (by omega),ih]
   rfl
theorem atoi_dd{i:Int}(h0:0≤i)(h1:i<1024):Lib.atoiAll (decDigits i.toNat)=.ok i:=by
 obtain ⟨d1,d2,_⟩:=dd_d i.toNat i.toNat (Nat.le_refl _)
 have d4:=ix_len h0 h1
 cases hD:decDigits i.toNat with
 | nil=>exact absurd hD (dd_ne _)
 | cons c D=>
   rw [hD] at d1 d2 d4
   have hc:=(isD_num c).1 (d1 c List.mem_cons_self)
   have hp:Lib.parseMag (c::D)=.ok i.toNat:=by
    unfold Lib.parseMag
    rw [if_neg (by simp),pu_d (c::D) 0 0 d1 (by decide) (by omega),d2]
   rw [Lib.atoiAll_plain c D (by omega) (by omega),hp]
   unfold Lib.signless
   dsimp only
   rw [if_neg (by omega)]
   have:((i.toNat:Nat):Int)=i:=by omega
   rw [this]
theorem plP_d(d:TDecision)(hd:DVal d):plP (dtxt d)=some d:=by
 have hi:d.Index<1024:=by rcases hd.k with ⟨_,b,_⟩|⟨_,b⟩ <;>omega
 have ha:=atoi_dd hd.i hi
 have hp:1≤(decDigits d.Index.toNat).length:=dd_pos _
 unfold plP
 rw [pcw_dtxt]
 unfold dwords
 obtain ⟨K,I,q⟩:=d
 dsimp only at ha hp hi ⊢
 have kk:K=1∧q=0∨K=2∧q=0∨K=3∨K=4:=by
  rcases hd.k with ⟨a,_,c⟩|⟨a,_⟩
  ·dsimp only at a c
   rcases a with rfl|rfl
   ·exact .inl ⟨rfl,c⟩
   ·exact .inr (.inl ⟨rfl,c⟩)
  ·dsimp only at a
   rcases a with rfl|rfl
   ·exact .inr (.inr (.inl rfl))
   ·exact .inr (.inr (.inr rfl))
 rcases kk with ⟨rfl,rfl⟩|⟨rfl,rfl⟩|rfl|rfl
 ·rw [if_pos rfl];dsimp only
  rw [if_neg (by rw [List.length_cons];omega),List.drop_succ_cons,List.drop_zero,ha]
  rfl
 ·rw [if_neg (by decide),if_pos rfl];dsimp only
  rw [if_neg (by rw [List.length_cons];omega),List.drop_succ_cons,List.drop_zero,ha]
  rfl
 ·rw [if_neg (by decide),if_neg (by decide),if_pos rfl];dsimp only
  rw [if_neg (by rw [List.length_cons];omega),List.drop_succ_cons,List.drop_zero,ha,dp_rtx]
  rfl
 ·rw [if_neg (by decide),if_neg (by decide),if_neg (by decide)];dsimp only
  rw [if_neg (by rw [List.length_cons];omega),List.drop_succ_cons,List.drop_zero,ha,dp_rtx]
  rfl
end
section
open Go.RowKit
def awG(args:List AV):Option AV:=match args with|[]=>some (.lit (.bool true))|_=>none
theorem con_awake:∀args r,awG args=some r→Con Tryz.prog 7 args r:=fun args r hr=>by
 unfold awG at hr
 split at hr
 ·cases hr
  intro w ok vs hg hv
  have hG:=(hg.1 0 _ rfl).1
  have hcell:w.cell? ⟨0,3,none⟩=some (.int .i64 4):=by
   cases hG with
   | mem hm hh=>
     have h1:=(hm 3 _ rfl).2
     have h2:=hh 3 _ rfl
     obtain ⟨u,hu⟩:=Option.isSome_iff_exists.1 h1
     rw [Nat.zero_add] at hu h2
     rw [hu] at h2
     cases h2
     exact hu
  have e:vs=#[]:=by
   have:=hv.1
   simpa using this
  subst e
  refine (awake_c w hcell (Nat.lt_of_le_of_lt (Nat.zero_le _) (cell_lt hcell))).mono ?_
  rintro e w' ⟨rfl,hb⟩
  exact ⟨_,rfl,.lit _,hb⟩
 ·cases hr
def rdC(d:TDecisionR):List AV:=[.lit (.int .i64 d.Kind),.lit (.int .i64 d.Index),.lit (.bool d.At.s),natA d.At.l1,natA d.At.l2]
noncomputable def lg_C4:Code:=(loopsOf (bodyOf Tryz.f8)).getD 0 .skip
def lg_h(d:TDecisionR)(i:Nat):St:=⟨[(8,.sl 5 [rdC d]),(9,.lit (.int .i64 1)),(10,.lit (.int .i64 (i:Int)))],[],0⟩
def lg_oE:St:=⟨[(2,.lit (.bool true))],[],0⟩
def lg_oN:St:=⟨[(2,.any)],[],0⟩
def lgP(d:TDecisionR):Bool:=decide (d.At.l1.length≤8∧d.At.l2.length≤8)
theorem lg_r{n:Nat}{d:TDecisionR}(h1:d.At.l1.length≤8)(h2:d.At.l2.length≤8):
  Cont 0 (exec Tryz.prog (tab n) 0 27 (livesOf 8) big lg_C4) (livesOf 8 4) (lg_h d 0) (lg_h d 1):=by
 have c1:¬(8:Int)<(d.At.l1.length:Int):=by omega
 have c2:¬(8:Int)<(d.At.l2.length:Int):=by omega
 have c1':¬8<d.At.l1.length:=by omega
 have c2':¬8<d.At.l2.length:=by omega
 have W:IntKind.i64.wrap (0+1)=1:=by decide+kernel
 unfold Cont
 simp+decide [lg_h,loopsOf, Tryz.f8,lg_C4,rdC,natA,c1,c2,c1',c2',h1,h2,W]
theorem lg_x1{n:Nat}{d:TDecisionR}(h1:¬d.At.l1.length≤8):
  Leave 0 (exec Tryz.prog (tab n) 0 27 (livesOf 8) big lg_C4) (livesOf 8 (outOf 4)) (lg_h d 0) .ret lg_oE:=by
 have c1:(8:Int)<(d.At.l1.length:Int):=by omega
 have c1':8<d.At.l1.length:=by omega
 unfold Leave
 simp+decide [lg_h,loopsOf, Tryz.f8,lg_C4,lg_oE,rdC,natA,c1,c1',h1]
theorem lg_x2{n:Nat}{d:TDecisionR}(h1:d.At.l1.length≤8)(h2:¬d.At.l2.length≤8):
  Leave 0 (exec Tryz.prog (tab n) 0 27 (livesOf 8) big lg_C4) (livesOf 8 (outOf 4)) (lg_h d 0) .ret lg_oE:=by
 have c1:¬(8:Int)<(d.At.l1.length:Int):=by omega
 have c2:(8:Int)<(d.At.l2.length:Int):=by omega
 have c1':¬8<d.At.l1.length:=by omega
 have c2':8<d.At.l2.length:=by omega
 unfold Leave
 simp+decide [lg_h,loopsOf, Tryz.f8,lg_C4,lg_oE,rdC,natA,c1,c2,c1',c2',h1,h2]
theorem lg_x3{n:Nat}{d:TDecisionR}:
  Leave 0 (exec Tryz.prog (tab n) 0 27 (livesOf 8) big lg_C4) (livesOf 8 (outOf 4)) (lg_h d 1) (.exit 0) lg_oN:=by
 unfold Leave
 simp+decide [lg_h,loopsOf, Tryz.f8,lg_C4,lg_oN]
theorem lg_loop{n:Nat}{d:TDecisionR}:loopG Tryz.prog (tab n) 0 27 (livesOf 8) 4 lg_C4 (lg_h d 0)=some (if lgP d=true then (.exit 0,lg_oN) else (.ret,lg_oE)):=by
 have h:=loopG_Q (P:= Tryz.prog) (O:=tab n) (m:=0) (N:=27) (lives:=livesOf 8) (r:=4) (C:=lg_C4) (M:=1) (enc:=fun i (_:Unit)=>lg_h d i) (fun i _=>i=1→lgP d=true) (fun ex t=>(ex,t)=if lgP d=true then (.exit 0,lg_oN) else (.ret,lg_oE)) ()
  (fun h=>by cases h) (by omega) (fun i b hi hI=>by
   obtain rfl:i=0:=by omega
   by_cases h1:d.At.l1.length≤8
   ·by_cases h2:d.At.l2.length≤8
    ·exact .inl ⟨(),lg_r h1 h2,fun _=>decide_eq_true ⟨h1,h2⟩⟩
    ·have e:lgP d=false:=decide_eq_false (fun h=>h2 h.2)
     exact .inr ⟨_,_,by simp,lg_x2 h1 h2,by simp [e]⟩
   ·have e:lgP d=false:=decide_eq_false (fun h=>h1 h.1)
    exact .inr ⟨_,_,by simp,lg_x1 h1,by simp [e]⟩) (fun b hI=>⟨_,_,by simp,lg_x3,by simp [hI rfl]⟩)
 obtain ⟨ex,t,h1,h2⟩:=h
 rw [h1,h2]
theorem largeA_c{n:Nat}{d:TDecisionR}:run n 8 [.sl 5 [rdC d]]=some (.lit (.bool (!lgP d))):=by
 have L1:=lg_loop (n:=n) (d:=d)
 by_cases h:lgP d=true
 ·rw [if_pos h] at L1
  unfold run fnP
  simp+decide [Tryz.f8]
  rw [loopX_G (C':=lg_C4) (e:=lg_h d 0) ?_ ?_,L1]
  rotate_left
  ·kernel_rfl
  ·simp+decide [lg_h]
  simp+decide [lg_oN,h]
 ·rw [if_neg h] at L1
  unfold run fnP
  simp+decide [Tryz.f8]
  rw [loopX_G (C':=lg_C4) (e:=lg_h d 0) ?_ ?_,L1]
  rotate_left
  ·kernel_rfl
  ·simp+decide [lg_h]
  simp+decide [lg_oE,h]
end
section
open Go.RowKit
noncomputable def ptlT(n:Nat):FuncId→Option Orc:=ext (tab (n+43)) 7 (.pure awG)
theorem ptlT_ok(n:Nat):OrcOk Tryz.prog (ptlT n):=(tab_ok (n+43)).extP (by kernel_rfl) con_awake
noncomputable def ptl(n:Nat)(args:List AV):Option AV:=fnP Tryz.prog (ptlT n) (livesOf 3) big (fnOf 3) args
theorem ptl_con{n:Nat}{args:List AV}{r:AV}(h:ptl n args=some r):Con Tryz.prog 3 args r:=
 con_of (ptlT_ok n) mixed (plain_fn (by kernel_rfl)) (body_some (by kernel_rfl) (plain_fn (by kernel_rfl))) h
theorem ptl_aw(n:Nat):ptlT n 7=some (.pure awG):=by unfold ptlT ext;rw [if_pos rfl]
theorem ptl_l8(n:Nat):ptlT n 8=some (.pure (run (n+42) 8)):=by unfold ptlT ext;rw [if_neg (by decide)];exact tb_8 _
theorem ptl_l9(n:Nat):ptlT n 9=some (.pure (run (n+42) 9)):=by unfold ptlT ext;rw [if_neg (by decide)];exact tb_9 _
theorem ptl_l10(n:Nat):ptlT n 10=some (.pure (run (n+42) 10)):=by unfold ptlT ext;rw [if_neg (by decide)];exact tb_10 _
theorem ptl_l11(n:Nat):ptlT n 11=some (.pure (run (n+42) 11)):=by unfold ptlT ext;rw [if_neg (by decide)];exact tb_11 _
theorem ptl_l12(n:Nat):ptlT n 12=some (.pure (run (n+42) 12)):=by unfold ptlT ext;rw [if_neg (by decide)];exact tb_12 _
theorem ptl_l13(n:Nat):ptlT n 13=some (.pure (run (n+42) 13)):=by unfold ptlT ext;rw [if_neg (by decide)];exact tb_13 _
section
variable {n : Nat} {r : Bool} {a0 : TDecisionR} {r3 : ByteArray} {r4 : TDecision} {r5 : Int} {r2 : ByteArray} {r6 : Bool} {r7 : Bool}
section
variable(K1:run (n+42) 8 [.sl 5 [[.lit (.int .i64 (a0.Kind)),.lit (.int .i64 (a0.Index)),.lit (.bool a0.At.s),natA a0.At.l1,natA a0.At.l2]]]=some (.lit (.bool r)))
include K1
theorem ptl_f1(C2:r=true):
  ptl n [decisionRV a0]=some (.lit (.bool true)):=by
 unfold ptl fnP
 simp+decide [Tryz.f3,K1,C2,ptl_aw,awG,ptl_l8,ptl_l9,ptl_l10,ptl_l11,ptl_l12,ptl_l13]
section
variable(C2:r=false)(K3:run (n+42) 9 [decisionRV a0]=some (.lit (.string r2)))(K4:run (n+42) 10 [decisionRV a0]=some (.lit (.string r3)))(C5:r2=r3)(K6:run (n+42) 11 [.lit (.string r2)]=some (.tup [decisionV r4,.lit (.int .i64 r5)]))(K7:run (n+42) 12 [decisionRV a0]=some (.lit (.bool r6)))
include C2 K3 K4 C5 K6 K7
theorem ptl_f3(C8:r6=false)(C9:r2=(⟨#[]⟩:ByteArray)):
  ptl n [decisionRV a0]=some (.lit (.bool (r5==4))):=by
 simp only [decisionRV] at K3
 simp only [decisionRV] at K4
 have C5_:(r2.toList==r3.toList)=true:=by rw [C5];simp
 have C5_n:(r2.toList !=r3.toList)=false:=by rw [bne,C5_];rfl
 simp only [decisionV] at K6
 simp only [decisionRV] at K7
 have C9_:(r2.toList==(⟨#[]⟩:ByteArray).toList)=true:=by rw [C9];simp
 have C9_n:(r2.toList !=(⟨#[]⟩:ByteArray).toList)=false:=by rw [bne,C9_];rfl
 have C9_i:r2.toList.isEmpty=true:=by rw [C9,ba_toList] <;>rfl
 unfold ptl fnP
 simp+decide [Tryz.f3,K1,C2,K3,K4,C5_,C5_n,K6,K7,C8,C9_,C9_n,C9_i,ptl_aw,awG,ptl_l8,ptl_l9,ptl_l10,ptl_l11,ptl_l12,ptl_l13]
theorem ptl_f5(C8:r6=true)(C9:r5=0)(K10:run (n+42) 13 [decisionV r4,decisionRV a0]=some (.lit (.bool r7))):
  ptl n [decisionRV a0]=some (.lit (.bool r7)):=by
 simp only [decisionRV] at K3
 simp only [decisionRV] at K4
 have C5_:(r2.toList==r3.toList)=true:=by rw [C5];simp
 have C5_n:(r2.toList !=r3.toList)=false:=by rw [bne,C5_];rfl
 simp only [decisionV] at K6
 simp only [decisionRV] at K7
 have C9_:(r5==0)=true:=by rw [C9];simp
 have C9_n:(r5 !=0)=false:=by rw [C9];simp
 simp only [decisionV,decisionRV] at K10
 unfold ptl fnP
 simp+decide [Tryz.f3,K1,C2,K3,K4,C5_,C5_n,K6,K7,C8,C9_,C9_n,K10,ptl_aw,awG,ptl_l8,ptl_l9,ptl_l10,ptl_l11,ptl_l12,ptl_l13]
end
end
end
noncomputable def pplT(n:Nat):FuncId→Option Orc:=ext (tab (n+44)) 7 (.pure awG)
noncomputable def ppl(n:Nat)(args:List AV):Option AV:=fnP Tryz.prog (pplT n) (livesOf 4) big (fnOf 4) args
end
section
open Go.RowKit
open Lib (decDigits)
attribute [local irreducible] run runL loopG exec ptl ppl
theorem same_dd{n:Nat}{d:TDecision}(h:H d.At≤1000):run n 13 [decisionV d,decisionV d]=some (.lit (.bool true)):=by
 have R:=fsm4_f1 (n:=n) (a0:=rwD d) (a1:=d) rfl rfl (rawB_q (by show H d.At≤_;omega)) (by omega)
 have e:decide ((rwD d).At=rawQ d.At)=true:=decide_eq_true rfl
 rw [e] at R
 exact R
theorem pt_law{d:TDecisionR}(h1:Lim d.At.l1)(h2:Lim d.At.l2):Con Tryz.prog 3 [decisionRV d] (.lit (.bool true)):=by
 have K:=largeA_c (n:=45) (d:=d)
 by_cases hs:lgP d=true
 rotate_left
 ·have e:(!lgP d)=true:=by rw [Bool.eq_false_iff.2 hs];rfl
  rw [e] at K
  exact ptl_con (n:=3) (ptl_f1 K rfl)
 have e:(!lgP d)=false:=by rw [hs];rfl
 rw [e] at K
 obtain ⟨l1,l2⟩:d.At.l1.length≤8∧d.At.l2.length≤8:=of_decide_eq_true hs
 have hB:RawB d.At:=⟨h1,h2,by omega,by omega⟩
 by_cases hv:DVR d
 ·obtain ⟨e1,hd⟩:=dvr_un hv
  have eA:rawQ d.At.q=d.At:=by
   have:=congrArg TDecisionR.At e1
   exact this.symm
  generalize hd0:(⟨d.Kind,d.Index,d.At.q⟩:TDecision)=d0 at e1 hd
  have hH:H d0.At≤8:=by
   have e2:d0.At=d.At.q:=by rw [←hd0]
   rw [e2]
   have a1:(rawQ d.At.q).l1.length≤8:=by rw [eA];exact l1
   have a2:(rawQ d.At.q).l2.length≤8:=by rw [eA];exact l2
   have a1':(lmb d.At.q.num.natAbs).length≤8:=a1
   have a2':(dlmb d.At.q.den).length≤8:=a2
   have a3:(lmb d.At.q.den).length≤8:=by
    unfold dlmb at a2'
    by_cases h:d.At.q.den=1
    ·rw [h];exact Nat.le_trans (lmb_len_le (k:=1) (by decide)) (by decide)
    ·rw [if_neg h] at a2';exact a2'
   exact Nat.max_le.2 ⟨a1',a3⟩
  subst e1
  have A:=ptx_c (n:=39) hd (by omega)
  have B:=ftx4_c (n:=3) hd (by omega) (by omega)
  have hlen:=dtxt_len (m:=8) (by omega) hd hH
  have P:=pps_c (n:=36) (L:=dtxt d0) (by omega)
  rw [ppR_at plP_d hd] at P
  have V:=fva4_c (n:=45) (d:=rwD d0) hB
  rw [tv_t hv] at V
  exact ptl_con (n:=3) (ptl_f5 K rfl A B rfl P V rfl rfl (same_dd (by omega)))
 ·have A:=ptx_0 (n:=39) hB hv
  have B:=ftx4_0 (n:=3) hB hv
  have P:=pps_c (n:=36) (L:=[]) (by simp)
  have e0:plP []=none:=rfl
  rw [e0] at P
  have V:=fva4_c (n:=45) (d:=d) hB
  rw [tv_f hv] at V
  have P':run 45 11 [.lit (.string (⟨#[]⟩:ByteArray))]=some (.tup [decisionV ⟨0,0,0⟩,.lit (.int .i64 4)]):=by rw [dec0];exact P
  exact ptl_con (n:=3) (ptl_f3 K rfl A B rfl P' V rfl rfl)
end
section
open Go.ChangeShapes Go.WideShapes Go.RowKit Go.Deep
def okT:Nat→Nat→Prop:=fun _ _=>True
theorem bulk_one_le{H:Type}(d:DataW H):1≤Rows.uptoBulk d:=by
 cases d with
 | lit l=>cases l <;>simp [Rows.uptoBulk]
 | nil=>simp [Rows.uptoBulk]
 | ptr d=>simp [Rows.uptoBulk]
 | slice elems spare=>simp [Rows.uptoBulk]
 | agg parts=>simp [Rows.uptoBulk]
 | iface t d=>simp [Rows.uptoBulk]
 | map entries=>simp [Rows.uptoBulk]
 | held h=>simp [Rows.uptoBulk]
theorem bulk_part_le{H:Type}{d:DataW H}{l:List (DataW H)}(h:d∈l):Rows.uptoBulk d≤Rows.uptoBulkAll l:=by
 induction l with
 | nil=>cases h
 | cons x r ih=>
   simp only [Rows.uptoBulkAll]
   cases List.mem_cons.1 h with
   | inl e=>subst e;omega
   | inr e=>have:=ih e;omega
theorem bulk_length_le{H:Type}(l:List (DataW H)):l.length≤Rows.uptoBulkAll l:=by
 induction l with
 | nil=>simp [Rows.uptoBulkAll]
 | cons x r ih=>have:=bulk_one_le x;simp only [Rows.uptoBulkAll,List.length_cons];omega
theorem bulk_agg{H:Type}{d:DataW H}{l:List (DataW H)}(h:d∈l):Rows.uptoBulk d≤Rows.uptoBulk (.agg l):=by
 have:=bulk_part_le h
 simp only [Rows.uptoBulk]
 omega
theorem bulk_slice{H:Type}{d:DataW H}{l r:List (DataW H)}(h:d∈l):Rows.uptoBulk d≤Rows.uptoBulk (.slice l r):=by
 have:=bulk_part_le h
 simp only [Rows.uptoBulk]
 omega
theorem bulk_slice_len{H:Type}(l r:List (DataW H)):l.length≤Rows.uptoBulk (.slice l r):=by
 have:=bulk_length_le l
 simp only [Rows.uptoBulk]
 omega
def Opens(w:World)(t:TypeId)(A:Nat→List AV→Prop):Prop:=
 ∀(H:Type) (enc:TypeId × Value→H) (base:Nat) (spare:Nat→Bool) (held:Bool) (fuel:Nat) (cs:List Value) (x:DataW H × List MemPlace),DataW.trod enc Tryz.prog w base spare held fuel t cs=some x→∃us,A (Rows.uptoBulk x.1) us∧RV (RepT w okT) us cs
def Up1(A:Nat→List AV→Prop):Prop:=∀N M us,N≤M→A N us→A M us
theorem Opens.mono{w:World}{t:TypeId}{A B:Nat→List AV→Prop}(h:Opens w t A)(hA:∀N us,A N us→B N us):Opens w t B:=fun H enc base spare held fuel cs x hx=>by
 obtain ⟨us,h1,h2⟩:=h H enc base spare held fuel cs x hx
 exact ⟨us,hA _ _ h1,h2⟩
theorem rvq1{R:AV→Value→Prop}{a:AV}{v:Value}(h:R a v):RV R [a] [v]:=⟨rfl,fun i d hi=>by
 match i,hi with
 | 0,hi=>cases hi;exact ⟨v,rfl,h⟩
 | i+1,hi=>simp at hi⟩
theorem rv_fld{R:AV→Value→Prop}{us bs:List AV}{cs:List Value}{o n:Nat}(h1:RV R us ((cs.drop o).take n))(h2:RV R bs (cs.drop (o+n)))(hn:o+n≤cs.length):RV R (us++bs) (cs.drop o):=by
 have l1:=h1.1
 have l2:=h2.1
 rw [List.length_take,List.length_drop] at l1
 rw [List.length_drop] at l2
 refine ⟨by rw [List.length_append,List.length_drop];omega,fun i d hi=>?_⟩
 by_cases hl:i<us.length
 ·rw [List.getElem?_append_left hl] at hi
  obtain ⟨u,h3,h4⟩:=h1.2 i d hi
  rw [List.getElem?_take,if_pos (by omega)] at h3
  exact ⟨u,h3,h4⟩
 ·rw [List.getElem?_append_right (by omega)] at hi
  obtain ⟨u,h3,h4⟩:=h2.2 _ d hi
  refine ⟨u,?_,h4⟩
  rw [List.getElem?_drop] at h3 ⊢
  rw [←h3]
  congr 1
  omega
theorem rv_end{R:AV→Value→Prop}{cs:List Value}{N:Nat}(h:cs.length=N):RV R [] (cs.drop N):=by
 rw [List.drop_of_length_le (by omega)]
 exact ⟨rfl,fun i d hi=>by simp at hi⟩
section
variable {w : World}
theorem op_int{t:TypeId}{k:IntKind}(ht: Tryz.prog.underlying t=some (.int k)):Opens w t (fun _ us=>∃z,us=[.lit (.int k z)]∧(Lit.int k z).wf=true):=fun H enc base spare held fuel cs x hx=>by
 obtain ⟨n,rfl,rfl,hw⟩:=DataW.trod_int ht hx
 exact ⟨_,⟨n,rfl,hw⟩,rvq1 (.lit _)⟩
theorem op_bool{t:TypeId}(ht: Tryz.prog.underlying t=some .bool):Opens w t (fun _ us=>∃b,us=[.lit (.bool b)]):=fun H enc base spare held fuel cs x hx=>by
 obtain ⟨b,rfl,_⟩:=DataW.trod_bool ht hx
 exact ⟨_,⟨b,rfl⟩,rvq1 (.lit _)⟩
theorem fldB{H:Type}{enc:TypeId × Value→H}{base:Nat}{spare:Nat→Bool}{held:Bool}{t:TypeId}{fs:Array Field}{fuel:Nat}{cs:List Value}{x:DataW H × List MemPlace}(hs: Tryz.prog.underlying t=some (.struct fs))(h:DataW.trod enc Tryz.prog w base spare held fuel t cs=some x):
  cs.length= Tryz.prog.cellsOf t∧∀(i:Nat) (f:Field) (T:TypeId) (o:Nat),fs[i]?=some f→f.type=T→f.offset=o→∃n y,DataW.trod enc Tryz.prog w base spare held n T ((cs.drop o).take (Tryz.prog.cellsOf T))=some y∧Rows.uptoBulk y.1≤Rows.uptoBulk x.1:=by
 obtain ⟨xs,n,_,hx,hl,hlen,hg⟩:=DataW.trod_struct hs h
 refine ⟨hl,fun i f T o hf hT ho=>⟨n,xs[i]'(by rw [hlen];exact (Array.getElem?_eq_some_iff.1 hf).1),?_,?_⟩⟩
 ·subst hT ho
  rw [hg i f hf]
  exact List.getElem?_eq_getElem _
 ·subst hx
  exact bulk_agg (List.mem_map_of_mem (List.getElem_mem _))
theorem addr_at{b o i:Nat}:(⟨b,o,none⟩:Addr).add i=⟨b,o+i,none⟩:=by
 unfold Addr.add
 split
 ·rename_i h;subst h;rfl
 ·rfl
theorem op_sl{t e:TypeId}{k:Nat}{A:Nat→List AV→Prop}(ht: Tryz.prog.underlying t=some (.slice e))(hk: Tryz.prog.cellsOf e=k)(h0k:0<k)(he:Opens w e A)(hA:Up1 A):
  Opens w t (fun N us=>∃es:List (List AV),us=[.sl k es]∧es.length≤N∧∀e∈es,A N e):=fun H enc base spare held fuel cs x hx=>by
 rcases open_slice ht hx with ⟨rfl,_⟩|⟨a,len,cap,m,n,D,Pl,rfl,_,hl,hm,hmm,hxe,hi⟩
 ·exact ⟨_,⟨[],rfl,by simp,fun e he=>by cases he⟩,rvq1 (.nil none 0)⟩
 ·have hlm:len≤m:=by rw [hmm];split <;>omega
  have hb:∀i,i<len→Rows.uptoBulk (D i)≤Rows.uptoBulk x.1:=fun i hil=>by
   subst hxe
   exact bulk_slice (List.mem_map.2 ⟨i,List.mem_range.2 hil,rfl⟩)
  have hbl:len≤Rows.uptoBulk x.1:=by
   subst hxe
   have:=bulk_slice_len ((List.range len).map D) ((List.range (m-len)).map fun j=>D (len+j))
   rw [List.length_map,List.length_range] at this
   exact this
  obtain ⟨U,hU⟩:=choose_lt (n:=len) (p:=fun i (u:List AV)=>A (Rows.uptoBulk x.1) u∧∃cs',RV (RepT w okT) u cs'∧w.cells? base (a.add (i*k)) k=some cs') (fun i hil=>by
   obtain ⟨cs',h1,h2⟩:=hi i (by omega)
   rw [hk] at h1
   obtain ⟨u,hu,hr⟩:=he H enc base spare held _ _ _ h2
   exact ⟨u,hA _ _ _ (hb i hil) hu,cs',hr,h1⟩)
  refine ⟨[.sl k ((List.range len).map U)],⟨_,rfl,by rw [List.length_map,List.length_range];exact hbl,fun e he=>?_⟩,?_⟩
  ·obtain ⟨i,hir,rfl⟩:=List.mem_map.1 he
   exact (hU i (List.mem_range.1 hir)).1
  ·by_cases h0:len=0
   ·subst h0;exact rvq1 (.nil (some a) cap)
   ·have hz:=(hU 0 (by omega)).2.choose_spec.2
    obtain ⟨_,hz1,hz2⟩:=World.cells?_some hz
    have hz3:=hz2 0 h0k
    rw [List.getElem?_eq_getElem (by omega)] at hz3
    have hs0:=World.cell?_spot hz3
    obtain ⟨b,o,sp⟩:=a
    have hsp:sp=none:=by
     simp [Addr.add] at hs0
     exact hs0
    subst hsp
    have key:∀(i j:Nat) (e:List AV) (d:AV),((List.range len).map U)[i]?=some e→e[j]?=some d→∃u,w.cell? ⟨b,o+i*k+j,none⟩=some u∧RepT w okT d u:=fun i j e d hie hjd=>by
     have hil:i<len:=by have:=(List.getElem?_eq_some_iff.1 hie).1;rw [List.length_map,List.length_range] at this;exact this
     rw [List.getElem?_map,List.getElem?_range hil] at hie
     cases hie
     obtain ⟨_,cs',hr,hc⟩:=hU i hil
     obtain ⟨_,q1,q2⟩:=World.cells?_some hc
     obtain ⟨u,g1,g2⟩:=hr.2 j d hjd
     have hj:j<k:=by
      have:=(List.getElem?_eq_some_iff.1 g1).1
      omega
     have:=q2 j hj
     rw [addr_at,addr_at] at this
     exact ⟨u,this.trans g1,g2⟩
    have R:=RepT.sl (w:=w) (ok:=okT) (k:=k) (b:=b) (o:=o) (c:=cap) (es:=(List.range len).map U) (fun e he=>by
      obtain ⟨i,hir,rfl⟩:=List.mem_map.1 he
      obtain ⟨_,cs',hr,hc⟩:=hU i (List.mem_range.1 hir)
      obtain ⟨_,q1,_⟩:=World.cells?_some hc
      have:=hr.1
      omega) (by rw [List.length_map,List.length_range];exact hl) (fun i j e d he hd=>by
      obtain ⟨u,h1,_⟩:=key i j e d he hd
      exact ⟨trivial,by rw [h1];rfl⟩) (fun i j e d he hd=>by
      obtain ⟨u,h1,h2⟩:=key i j e d he hd
      rw [h1]
      exact h2)
    rw [List.length_map,List.length_range] at R
    exact rvq1 R
theorem list_of{α:Type}{enc:α→List AV}{ok:α→Prop}:∀{es:List (List AV)},(∀e∈es,∃x,e=enc x∧ok x)→∃L:List α,es=L.map enc∧∀x∈L,ok x
 | [],_=>⟨[],rfl,fun x hx=>by cases hx⟩
 | e::es,h=>by
   obtain ⟨x,rfl,hx⟩:=h e (List.mem_cons_self ..)
   obtain ⟨L,rfl,hL⟩:=list_of fun e he=>h e (List.mem_cons_of_mem _ he)
   exact ⟨x::L,rfl,fun y hy=>by
    rcases List.mem_cons.1 hy with rfl|hy
    ·exact hx
    ·exact hL y hy⟩
theorem op_list{α:Type}{t e:TypeId}{k:Nat}{enc:α→List AV}{ok:Nat→α→Prop}(ht: Tryz.prog.underlying t=some (.slice e))(hk: Tryz.prog.cellsOf e=k)(h0k:0<k)(he:Opens w e (fun N us=>∃x,us=enc x∧ok N x))(hm:∀N M x,N≤M→ok N x→ok M x):
  Opens w t (fun N us=>∃L:List α,us=[.sl k (L.map enc)]∧L.length≤N∧∀x∈L,ok N x):=
 (op_sl ht hk h0k he (fun N M us hN ⟨x,h1,h2⟩=>⟨x,h1,hm N M x hN h2⟩)).mono fun N us ⟨es,h1,h2,h3⟩=>by
  obtain ⟨L,rfl,hL⟩:=list_of h3
  exact ⟨L,h1,by simpa using h2,hL⟩
def okInt(k:IntKind)(_:Nat)(z:Int):Prop:=(Lit.int k z).wf=true
theorem okInt.up{k:IntKind}{N M:Nat}{z:Int}(hN:N≤M)(h:okInt k N z):okInt k M z:=h
def okBool(_:Nat)(_:Bool):Prop:=True
theorem okBool.up{N M:Nat}{b:Bool}(hN:N≤M)(h:okBool N b):okBool M b:=h
theorem op_intO{t:TypeId}{k:IntKind}(ht: Tryz.prog.underlying t=some (.int k)):Opens w t (fun N us=>∃z,us=[.lit (.int k z)]∧okInt k N z):=op_int ht
theorem op_boolO{t:TypeId}(ht: Tryz.prog.underlying t=some .bool):Opens w t (fun N us=>∃b,us=[.lit (.bool b)]∧okBool N b):=(op_bool ht).mono fun N us ⟨b,h⟩=>⟨b,h,trivial⟩
def okNat(N:Nat)(l:List Nat):Prop:=Lim l∧l.length≤N
theorem okNat.up{N M:Nat}{l:List Nat}(hN:N≤M)(h:okNat N l):okNat M l:=⟨h.1,Nat.le_trans h.2 hN⟩
theorem cU32: Tryz.prog.cellsOf 149=1:=by kernel_rfl
theorem op_natO:Opens w 23 (fun N us=>∃l,us=[natA l]∧okNat N l):=
 (op_list (α:=Nat) (enc:=fun x=>[.lit (.int .u32 (x:Int))]) (ok:=fun _ x=>x<4294967296) Tryz.underlying23 cU32 (by omega) ((op_int Tryz.underlying149).mono fun N us ⟨z,h1,h2⟩=>by
  have h3:0≤z∧z≤4294967295:=by simpa [Lit.wf,IntKind.min,IntKind.max,IntKind.signed,IntKind.bits] using h2
  exact ⟨z.toNat,by rw [h1,Int.toNat_of_nonneg h3.1],by omega⟩) (fun N M x _ h=>h)).mono fun N us ⟨L,h1,h2,h3⟩=>⟨L,h1,fun x hx=>h3 x hx,h2⟩
def okRaw(N:Nat)(r:Raw):Prop:=okNat N r.l1∧okNat N r.l2
theorem okRaw.up{N M:Nat}{r:Raw}(hN:N≤M)(h:okRaw N r):okRaw M r:=⟨h.1.up hN,h.2.up hN⟩
theorem arg_agg{us:List AV}{cs:Array Value}(h:RV (RepT w okT) us (Value.agg cs).cells.toList):RepT w okT (.agg us) (.agg cs):=by
 have h1:(Value.agg cs).cells=cs:=rfl
 rw [h1] at h
 refine .agg (by have:=h.1;simpa using this) fun i d hi=>?_
 obtain ⟨u,h2,h3⟩:=h.2 i d hi
 have h4:cs[i]?=some u:=by simpa using h2
 rw [Array.getD_eq_getD_getElem?,h4]
 exact h3
theorem rvs_nil{R:AV→Value→Prop}:RV R [] []:=⟨rfl,fun i d hi=>by simp at hi⟩
theorem rvs_cons{R:AV→Value→Prop}{a:AV}{v:Value}{l:List AV}{vs:List Value}(h:R a v)(hl:RV R l vs):RV R (a::l) (v::vs):=⟨by simp [hl.1],fun i d hi=>by
 match i,hi with
 | 0,hi=>cases hi;exact ⟨v,rfl,h⟩
 | i+1,hi=>exact hl.2 i d (by simpa using hi)⟩
end
end
section
open Go.ChangeShapes Go.WideShapes Go.RowKit Go.Deep
section
variable {w : World}
theorem cO_Rat: Tryz.prog.cellsOf 25=3:=by kernel_rfl
theorem cO_Rat_0: Tryz.prog.cellsOf 4=1:=by kernel_rfl
theorem cO_Rat_1: Tryz.prog.cellsOf 23=1:=by kernel_rfl
theorem cO_Rat_2: Tryz.prog.cellsOf 23=1:=by kernel_rfl
set_option maxRecDepth 100000 in
theorem op_Rat:Opens w 25 (fun N us=>∃x:Raw,us=rawC x∧okRaw N x):=fun H enc base spare held fuel cs x hx=>by
 obtain ⟨hl,hf⟩:=fldB Tryz.underlying25 hx
 rw [cO_Rat] at hl
 obtain ⟨n0,y0,g0,b0⟩:=hf 0 _ 4 0 rfl rfl rfl
 obtain ⟨a0,⟨x0,e0,p0⟩,r0⟩:=(op_boolO Tryz.underlying4) _ _ _ _ _ _ _ _ g0
 rw [cO_Rat_0] at r0
 subst e0
 obtain ⟨n1,y1,g1,b1⟩:=hf 1 _ 23 1 rfl rfl rfl
 obtain ⟨a1,⟨x1,e1,p1⟩,r1⟩:=op_natO _ _ _ _ _ _ _ _ g1
 rw [cO_Rat_1] at r1
 subst e1
 obtain ⟨n2,y2,g2,b2⟩:=hf 2 _ 23 2 rfl rfl rfl
 obtain ⟨a2,⟨x2,e2,p2⟩,r2⟩:=op_natO _ _ _ _ _ _ _ _ g2
 rw [cO_Rat_2] at r2
 subst e2
 exact ⟨_,⟨(⟨x0,x1,x2⟩:Raw),rfl,⟨okNat.up b1 p1,okNat.up b2 p2⟩⟩,rv_fld (o:=0) (n:=1) r0 (rv_fld (o:=1) (n:=1) r1 (rv_fld (o:=2) (n:=1) r2 (rv_end hl) (by omega)) (by omega)) (by omega)⟩
def okO_Decision(N:Nat)(x:TDecisionR):Prop:=okInt .i64 N x.Kind∧okInt .i64 N x.Index∧okRaw N x.At
theorem okO_Decision.up{N M:Nat}{x:TDecisionR}(hN:N≤M)(h:okO_Decision N x):okO_Decision M x:=⟨okInt.up hN h.1,okInt.up hN h.2.1,okRaw.up hN h.2.2⟩
theorem cO_Decision: Tryz.prog.cellsOf 27=5:=by kernel_rfl
theorem cO_Decision_0: Tryz.prog.cellsOf 3=1:=by kernel_rfl
theorem cO_Decision_1: Tryz.prog.cellsOf 3=1:=by kernel_rfl
theorem cO_Decision_2: Tryz.prog.cellsOf 25=3:=by kernel_rfl
set_option maxRecDepth 100000 in
theorem op_Decision:Opens w 27 (fun N us=>∃x:TDecisionR,us=decisionRC x∧okO_Decision N x):=fun H enc base spare held fuel cs x hx=>by
 obtain ⟨hl,hf⟩:=fldB Tryz.underlying27 hx
 rw [cO_Decision] at hl
 obtain ⟨n0,y0,g0,b0⟩:=hf 0 _ 3 0 rfl rfl rfl
 obtain ⟨a0,⟨x0,e0,p0⟩,r0⟩:=(op_intO Tryz.underlying3) _ _ _ _ _ _ _ _ g0
 rw [cO_Decision_0] at r0
 subst e0
 obtain ⟨n1,y1,g1,b1⟩:=hf 1 _ 3 1 rfl rfl rfl
 obtain ⟨a1,⟨x1,e1,p1⟩,r1⟩:=(op_intO Tryz.underlying3) _ _ _ _ _ _ _ _ g1
 rw [cO_Decision_1] at r1
 subst e1
 obtain ⟨n2,y2,g2,b2⟩:=hf 2 _ 25 2 rfl rfl rfl
 obtain ⟨a2,⟨x2,e2,p2⟩,r2⟩:=op_Rat _ _ _ _ _ _ _ _ g2
 rw [cO_Decision_2] at r2
 subst e2
 exact ⟨_,⟨(⟨x0,x1,x2⟩:TDecisionR),rfl,⟨okInt.up b0 p0,okInt.up b1 p1,okRaw.up b2 p2⟩⟩,rv_fld (o:=0) (n:=1) r0 (rv_fld (o:=1) (n:=1) r1 (rv_fld (o:=2) (n:=3) r2 (rv_end hl) (by omega)) (by omega)) (by omega)⟩
end
end
section
open Go.ChangeShapes Go.WideShapes Go.RowKit Go.Deep
theorem handed_shaped {H:Type} {enc:TypeId × Value→H} {C:Checked} {os:Os} {f:FuncId} {fn:Func} {s:ChangeSpec} {X:World→Array Value→Prop} (hX:∀(w w':World) (args:Array Value),w.heap=w'.heap→X w args→X w' args) (own:ownKnob C.prog.godebug=none) (started:os.Started) (noInit:C.prog.inits.idxOf? f=none) (hfn:C.prog.funcs[f]?=some fn) (witness:∃(w:World) (tape:Tape) (i:Input),w.os=os∧(w.forCall tape i).Shaped C.prog∧i.vars=[]∧Input.okWide C.prog (w.forCall tape i) .any w.heap.size f i∧((s.pre enc C.prog fn [] false (w.forCall tape i).memory i.args∧X (w.forCall tape i).memory i.args)∧sizedMet enc C.prog fn (OpenSpec.ofChange s) false (w.forCall tape i).memory i.args)∧({}:Assume).holds C.prog (lone (Frame.enter C.prog f i.args .normal) [] (w.forCall tape i))) (contract:∀(W:World) (base:Nat) (args:Array Value) (ds gs:List (DataW H)) (before:List MemPlace),(∀(j:Nat) t v,fn.params[j]?=some t→args[j]?=some v→Value.okWide C.prog W .any base t v)→
   DataW.Whole enc C.prog fn.params.toList s.vars false W args.toList ds gs before→X W args→W.ShapedOpen C.prog→Calls C.prog f args W fun e W'=>∃v,e=.returned v∧s.post enc C.prog fn false true false false W args v W'):
  ReturnsInHanded {} C os f .any (fun w args=>(s.pre enc C.prog fn [] false w args∧X w args)∧sizedMet enc C.prog fn (OpenSpec.ofChange s) false w args) (s.post enc C.prog fn false true false false):=by
 refine returnsInHanded_of_calls own started noInit witness ?_
 intro w tape i _ hsh _ hok hpre _
 obtain ⟨_,_,_,fn',hfn',_,_,_,_,hval⟩:=hok
 cases hfn'.symm.trans hfn
 obtain ⟨⟨⟨ds,gs,before,hw,_⟩,hx⟩,_⟩:=hpre
 refine (contract (w.forCall tape i) w.heap.size i.args ds gs before hval (DataW.Whole.of_heap (w':=w.forCall tape i) (by rfl) hw) (hX _ _ _ (by rfl) hx) hsh).mono fun e W' ⟨v,he,hp⟩=>?_
 cases he
 exact ChangeSpec.post_blind hp
theorem maxL{w:World}(h:w.ShapedOpen Tryz.prog):∃m,w.cell? ⟨1,0,none⟩=some (.int .i64 m):=
 Go.Proofs.cell_of_shapedOpen_int (zero:=#[.int .i64 0]) (t:= 3) h (of_decide_eq_true (by kernel_rfl)) (by kernel_rfl) rfl (by kernel_rfl) (by kernel_rfl) Tryz.underlying3
theorem gT: Tryz.prog.globalNamed "internal/strconv.uint64pow10"=some 4:=by kernel_rfl
theorem tT:(Tryz.prog.globals[4]?).map (·.type)=some 247:=by kernel_rfl
theorem gE: Tryz.prog.globalNamed "strconv.ErrSyntax"=some 2:=by kernel_rfl
theorem tE:(Tryz.prog.globals[2]?).map (·.type)=some 62:=by kernel_rfl
theorem starE: "*"++ "errors.errorString"= "*errors.errorString":=by decide
theorem rowE (u:TypeId) (h: Tryz.prog.typeName? 3 u=some "*errors.errorString"):u= 252:=
 typeName_ptr_named (nm:= "errors.errorString") (by rw [starE];kernel_rfl) (by kernel_rfl) (by decide) u (by rw [starE];exact h)
theorem gE2: Tryz.prog.globalNamed "strconv.ErrRange"=some 3:=by kernel_rfl
theorem tE2:(Tryz.prog.globals[3]?).map (·.type)=some 62:=by kernel_rfl
theorem gO: Tryz.prog.globalNamed "relucert/phase.opposites"=some 0:=by kernel_rfl
theorem tO:(Tryz.prog.globals[0]?).map (·.type)=some 108:=by kernel_rfl
def oppL:List Int:=[0,2,1,4,3]
theorem gtab_two{g:Nat}{cs:List AV}(h:gtab g=some cs):(g= 4∧cs=Lib.pow10Tab.map fun z=>AV.lit (.int .u64 z))∨(g= 0∧cs=oppL.map fun z=>AV.lit (.int .i64 z)):=by
 unfold gtab at h
 split at h
 ·rename_i e
  subst e
  cases h
  first|exact .inl ⟨rfl,rfl⟩|exact .inr ⟨rfl,rfl⟩
 ·split at h
  ·rename_i e
   subst e
   cases h
   first|exact .inl ⟨rfl,rfl⟩|exact .inr ⟨rfl,rfl⟩
  ·cases h
theorem tab_glob{w:World}{name:String}{g:Nat}{k:IntKind}{zs:List Int}(hg: Tryz.prog.globalNamed name=some g)(hT:Lib.TabIs Tryz.prog w name k zs):RepT w okT (.mem (zs.map fun z=>AV.lit (.int k z))) (.pointer (some ⟨g,0,none⟩))∧∃t,w.shape? g=some (t,(zs.map fun z=>AV.lit (.int k z)).length):=by
 unfold Lib.TabIs World.var? at hT
 rw [hg] at hT
 simp only [Option.bind_some] at hT
 split at hT
 ·rename_i c t fr hc
  cases hT
  have key:∀(j:Nat) (d:AV),(zs.map fun z=>AV.lit (.int k z))[j]?=some d→∃v,w.cell? ⟨g,0+j,none⟩=some v∧d=.lit v:=fun j d hj=>by
   rw [List.getElem?_map] at hj
   obtain ⟨z,hz,rfl⟩:=Option.map_eq_some_iff.1 hj
   refine ⟨.int k z,?_,rfl⟩
   rw [Nat.zero_add]
   simp only [World.cell?,hc]
   simp [hz]
  refine ⟨.mem (fun j d hj=>?_) (fun j d hj=>?_),t,?_⟩
  ·obtain ⟨v,h1,_⟩:=key j d hj
   exact ⟨trivial,by rw [h1];rfl⟩
  ·obtain ⟨v,h1,rfl⟩:=key j d hj
   rw [h1]
   exact .lit _
  ·simp [World.shape?,hc]
 ·cases hT
theorem laid_globP {W:World} (hs:W.ShapedOpen Tryz.prog) (h:laidMet Tryz.prog [("math/bits.deBruijn32tab",Rows.laid_math_bits_deBruijn32tab),("math/bits.deBruijn64tab",Rows.laid_math_bits_deBruijn64tab),("internal/strconv.uint64pow10",Rows.laid_internal_strconv_uint64pow10),("unicode/utf8.acceptRanges",Rows.laid_unicode_utf8_acceptRanges),("strconv.ErrRange",Rows.laid_strconv_ErrRange),("strconv.ErrSyntax",Rows.laid_strconv_ErrSyntax),("relucert/phase.opposites",Rows.laid_relucert_phase_opposites),("unicode/utf8.first",Rows.laid_unicode_utf8_first)] W):Glob W okT:=by
 have h3:=laidMet.tail (laidMet.tail h)
 have hT:Lib.TabIs Tryz.prog W "internal/strconv.uint64pow10" .u64 Lib.pow10Tab:=Lib.tabIs_of_head gT tT Tryz.underlying247 Tryz.underlying87 (by kernel_rfl) (by kernel_rfl) h3
 have h5:=laidMet.tail (laidMet.tail h3)
 have h6:=laidMet.tail h5
 have h7:=laidMet.tail h6
 have hO:Lib.TabIs Tryz.prog W "relucert/phase.opposites" .i64 oppL:=Lib.tabIs_of_head gO tO Tryz.underlying108 Tryz.underlying3 (by kernel_rfl) (by kernel_rfl) h7
 obtain ⟨a0,s0,hv0,_⟩:=laid_sentinel h5 gE2 tE2 Tryz.underlying62 rowE Tryz.underlying252 Tryz.underlying254 rfl rfl Tryz.underlying9 (by kernel_rfl) (by kernel_rfl)
 obtain ⟨a1,s1,hv1,_⟩:=laid_sentinel h6 gE tE Tryz.underlying62 rowE Tryz.underlying252 Tryz.underlying254 rfl rfl Tryz.underlying9 (by kernel_rfl) (by kernel_rfl)
 refine ⟨fun g cs hg=>?_,fun g hg=>?_,fun g hg=>?_⟩
 ·rcases gtab_two hg with ⟨rfl,rfl⟩|⟨rfl,rfl⟩
  ·exact tab_glob gT hT
  ·exact tab_glob gO hO
 ·have e:g= 2∨g= 3:=by simpa [gerr] using hg
  rcases e with rfl|rfl
  ·exact ⟨trivial,_,_,World.var?_cell gE hv1 0⟩
  ·exact ⟨trivial,_,_,World.var?_cell gE2 hv0 0⟩
 ·have e:g= 1:=by simpa [gint] using hg
  subst e
  exact ⟨trivial,maxL hs⟩
theorem true_end{w:World}{ok:Nat→Nat→Prop}{e:Ending}{w':World}(h:∃v,e=.returned v∧RepT w' (okN ok w w') (.lit (.bool true)) v∧Below w.heap.size w w'):RetB true w e w':=by
 obtain ⟨v,rfl,h2,h3⟩:=h
 cases h2
 exact ⟨rfl,h3⟩
end
section
open Go.ChangeShapes Go.WideShapes Go.RowKit Go.Deep
theorem pt_use(w:World){v0:Value}{d:TDecisionR}{N:Nat}(r0:RepT w okT (.agg (decisionRC d)) v0)(k0:okO_Decision N d)(hG:Glob w okT):
  Calls Tryz.prog 3 #[v0] w (RetB true w):=
 (pt_law k0.2.2.1.1 k0.2.2.2.1 w okT _ hG (rvs_cons r0 rvs_nil)).mono fun _ _ h=>true_end h
end
end Go.Proofs.YtnegdhjdienjlaaGreatDoor
