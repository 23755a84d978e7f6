import Derived.Test.YtnegdhjdienjlaaGreatDoorGQ20
import Derived.Test.YtnegdhjdienjlaaGreatDoorGQ21
set_option linter.all false
set_option maxHeartbeats 6400000
set_option maxRecDepth 100000
namespace Go.Proofs.YtnegdhjdienjlaaGreatDoor
section
open Go.RowKit
section
variable {r : List Nat} {a0 : ByteArray} {n : Nat} {b : UInt8} {r2 : Int} {r3 : Int} {r6 : Int} {r7 : Int} {b2 : UInt8} {r4 : List Nat} {r5 : List Nat} {r21 : Int} {r18 : TInt} {r19 : TInt} {r20 : Rat} {r9 : Int} {r10 : Int} {r8 : List Nat} {r12 : List Nat} {r11 : List Nat} {r13 : List Nat} {r22 : TInt} {r24 : Rat} {r23 : TInt} {r25 : Int} {r29 : Int} {r26 : TInt} {r27 : TInt} {r28 : Rat} {r31 : Int} {r30 : List Nat} {r32 : Int} {r33 : List Nat} {r35 : Int} {b3 : UInt8} {r34 : List Nat} {r36 : Int} {r47 : TInt} {r48 : TInt} {r50 : Int} {r49 : Rat} {r37 : List Nat} {r38 : Int} {r39 : Int} {r41 : List Nat} {r42 : List Nat} {r40 : List Nat} {r51 : TInt} {r52 : TInt} {r54 : Int} {r53 : Rat} {r57 : Rat} {r58 : Int} {r56 : TInt} {r55 : TInt} {r61 : Int} {r59 : List Nat} {r60 : Int}
section
variable(C1:0<(a0.size:Int))(E2:a0[0]?=some b)
include C1 E2
section
variable(C3:(b.toNat:Int)=45)(K4:run (n+6) 87 [.lit (.string a0),.lit (.int .i64 1),.lit (.int .i64 0)]=some (.tup [natA r,.lit (.int .i64 r2),.lit (.int .i64 r3)]))(C5:¬r2<0)
include C3 K4 C5
theorem f4P_f2(C6:r2=1):
  run (n+7) 39 [.lit (.string a0)]=some (.tup [.agg [.lit (.bool false),.sl 1 [],.sl 1 []],.lit (.int .i64 1),.lit (.int .i64 4)]):=by
 have C1_:0<a0.size:=by omega
 have C1_z:(a0.size:Int)≠0:=by omega
 have C1_e:((a0.size:Int)==0)=false:=by simpa using C1_z
 have C1_g:((a0.size:Int) !=0)=true:=by simpa using C1_z
 have C3_:((b.toNat:Int)==45)=true:=by rw [C3];simp
 have C3_n:((b.toNat:Int) !=45)=false:=by rw [C3];simp
 have C6_:(r2==1)=true:=by rw [C6];simp
 have C6_n:(r2 !=1)=false:=by rw [C6];simp
 have EG2:∀h,(a0)[0]'h=b:=fun h=>Option.some.inj ((getElem?_pos (a0) (0) h).symm.trans E2)
 unfold run fnP
 simp+decide [EG2, Tryz.f39,C1,C1_,C1_e,C1_g,E2,C3_,C3_n,K4,C5,C6_,C6_n]
section
variable(C6:¬r2=1)(K7:(oU fun k=>natA (lmb k)) [.lit (.int .u64 1)]=some (natA r4))
include C6 K7
section
variable(C8:r2<(a0.size:Int))(E9:a0[r2.toNat]?=some b2)(Z9:0≤r2)
include C8 E9 Z9
section
variable(C10:(b2.toNat:Int)=47)(W11:InI (r2+1))(K12:run (n+6) 87 [.lit (.string a0),.lit (.int .i64 (r2+1)),.lit (.int .i64 r3)]=some (.tup [natA r5,.lit (.int .i64 r6),.lit (.int .i64 r7)]))(C13:¬r6<0)
include C10 W11 K12 C13
theorem f4P_f4(C14:r6=r2+1):
  run (n+7) 39 [.lit (.string a0)]=some (.tup [.agg [.lit (.bool false),.sl 1 [],.sl 1 []],.lit (.int .i64 (r2+1)),.lit (.int .i64 4)]):=by
 have C1_:0<a0.size:=by omega
 have C1_z:(a0.size:Int)≠0:=by omega
 have C1_e:((a0.size:Int)==0)=false:=by simpa using C1_z
 have C1_g:((a0.size:Int) !=0)=true:=by simpa using C1_z
 have C3_:((b.toNat:Int)==45)=true:=by rw [C3];simp
 have C3_n:((b.toNat:Int) !=45)=false:=by rw [C3];simp
 have C6_:(r2==1)=false:=by simpa using C6
 have C6_n:(r2 !=1)=true:=by simpa using C6
 have C10_:((b2.toNat:Int)==47)=true:=by rw [C10];simp
 have C10_n:((b2.toNat:Int) !=47)=false:=by rw [C10];simp
 have W11_:IntKind.i64.wrap (r2+1)=r2+1:=wr64 W11.1 W11.2
 have C14_:(r6==r2+1)=true:=by rw [C14];simp
 have C14_n:(r6 !=r2+1)=false:=by rw [C14];simp
 have EG2:∀h,(a0)[0]'h=b:=fun h=>Option.some.inj ((getElem?_pos (a0) (0) h).symm.trans E2)
 have EG9:∀h,(a0)[r2.toNat]'h=b2:=fun h=>Option.some.inj ((getElem?_pos (a0) (r2.toNat) h).symm.trans E9)
 unfold run fnP
 simp+decide [EG2,EG9, Tryz.f39,C1,C1_,C1_e,C1_g,E2,C3_,C3_n,K4,C5,C6_,C6_n,K7,C8,E9,Z9,C10_,C10_n,W11_,K12,C13,C14_,C14_n]
theorem f4P_f5(C14:¬r6=r2+1)(C15:(r5.length:Int)=0)(C16:r6<(a0.size:Int)):
  run (n+7) 39 [.lit (.string a0)]=some (.tup [.agg [.lit (.bool false),.sl 1 [],.sl 1 []],.lit (.int .i64 r6),.lit (.int .i64 4)]):=by
 have C1_:0<a0.size:=by omega
 have C1_z:(a0.size:Int)≠0:=by omega
 have C1_e:((a0.size:Int)==0)=false:=by simpa using C1_z
 have C1_g:((a0.size:Int) !=0)=true:=by simpa using C1_z
 have C3_:((b.toNat:Int)==45)=true:=by rw [C3];simp
 have C3_n:((b.toNat:Int) !=45)=false:=by rw [C3];simp
 have C6_:(r2==1)=false:=by simpa using C6
 have C6_n:(r2 !=1)=true:=by simpa using C6
 have C10_:((b2.toNat:Int)==47)=true:=by rw [C10];simp
 have C10_n:((b2.toNat:Int) !=47)=false:=by rw [C10];simp
 have W11_:IntKind.i64.wrap (r2+1)=r2+1:=wr64 W11.1 W11.2
 have C14_:(r6==r2+1)=false:=by simpa using C14
 have C14_n:(r6 !=r2+1)=true:=by simpa using C14
 have C15_:((r5.length:Int)==0)=true:=by rw [C15];simp
 have C15_n:((r5.length:Int) !=0)=false:=by rw [C15];simp
 have C15_l:¬0<(r5.length:Int):=by omega
 have EG2:∀h,(a0)[0]'h=b:=fun h=>Option.some.inj ((getElem?_pos (a0) (0) h).symm.trans E2)
 have EG9:∀h,(a0)[r2.toNat]'h=b2:=fun h=>Option.some.inj ((getElem?_pos (a0) (r2.toNat) h).symm.trans E9)
 unfold run fnP
 simp+decide [EG2,EG9, Tryz.f39,C1,C1_,C1_e,C1_g,E2,C3_,C3_n,K4,C5,C6_,C6_n,K7,C8,E9,Z9,C10_,C10_n,W11_,K12,C13,C14_,C14_n,C15_,C15_n,C15_l,C16]
theorem f4P_f6(C14:¬r6=r2+1)(C15:(r5.length:Int)=0)(C16:¬r6<(a0.size:Int))(C17:0≤r2+1):
  run (n+7) 39 [.lit (.string a0)]=some (.tup [.agg [.lit (.bool false),.sl 1 [],.sl 1 []],.lit (.int .i64 (r2+1)),.lit (.int .i64 3)]):=by
 have C1_:0<a0.size:=by omega
 have C1_z:(a0.size:Int)≠0:=by omega
 have C1_e:((a0.size:Int)==0)=false:=by simpa using C1_z
 have C1_g:((a0.size:Int) !=0)=true:=by simpa using C1_z
 have C3_:((b.toNat:Int)==45)=true:=by rw [C3];simp
 have C3_n:((b.toNat:Int) !=45)=false:=by rw [C3];simp
 have C6_:(r2==1)=false:=by simpa using C6
 have C6_n:(r2 !=1)=true:=by simpa using C6
 have C10_:((b2.toNat:Int)==47)=true:=by rw [C10];simp
 have C10_n:((b2.toNat:Int) !=47)=false:=by rw [C10];simp
 have W11_:IntKind.i64.wrap (r2+1)=r2+1:=wr64 W11.1 W11.2
 have C14_:(r6==r2+1)=false:=by simpa using C14
 have C14_n:(r6 !=r2+1)=true:=by simpa using C14
 have C15_:((r5.length:Int)==0)=true:=by rw [C15];simp
 have C15_n:((r5.length:Int) !=0)=false:=by rw [C15];simp
 have C15_l:¬0<(r5.length:Int):=by omega
 have EG2:∀h,(a0)[0]'h=b:=fun h=>Option.some.inj ((getElem?_pos (a0) (0) h).symm.trans E2)
 have EG9:∀h,(a0)[r2.toNat]'h=b2:=fun h=>Option.some.inj ((getElem?_pos (a0) (r2.toNat) h).symm.trans E9)
 unfold run fnP
 simp+decide [EG2,EG9, Tryz.f39,C1,C1_,C1_e,C1_g,E2,C3_,C3_n,K4,C5,C6_,C6_n,K7,C8,E9,Z9,C10_,C10_n,W11_,K12,C13,C14_,C14_n,C15_,C15_n,C15_l,C16,C17]
theorem f4P_f8(C14:¬r6=r2+1)(C15:¬(r5.length:Int)=0)(C16:r6<(a0.size:Int)):
  run (n+7) 39 [.lit (.string a0)]=some (.tup [.agg [.lit (.bool false),.sl 1 [],.sl 1 []],.lit (.int .i64 r6),.lit (.int .i64 4)]):=by
 have C1_:0<a0.size:=by omega
 have C1_z:(a0.size:Int)≠0:=by omega
 have C1_e:((a0.size:Int)==0)=false:=by simpa using C1_z
 have C1_g:((a0.size:Int) !=0)=true:=by simpa using C1_z
 have C3_:((b.toNat:Int)==45)=true:=by rw [C3];simp
 have C3_n:((b.toNat:Int) !=45)=false:=by rw [C3];simp
 have C6_:(r2==1)=false:=by simpa using C6
 have C6_n:(r2 !=1)=true:=by simpa using C6
 have C10_:((b2.toNat:Int)==47)=true:=by rw [C10];simp
 have C10_n:((b2.toNat:Int) !=47)=false:=by rw [C10];simp
 have W11_:IntKind.i64.wrap (r2+1)=r2+1:=wr64 W11.1 W11.2
 have C14_:(r6==r2+1)=false:=by simpa using C14
 have C14_n:(r6 !=r2+1)=true:=by simpa using C14
 have C15_:((r5.length:Int)==0)=false:=by simpa using C15
 have C15_n:((r5.length:Int) !=0)=true:=by simpa using C15
 have C15_l:0<(r5.length:Int):=by omega
 have EG2:∀h,(a0)[0]'h=b:=fun h=>Option.some.inj ((getElem?_pos (a0) (0) h).symm.trans E2)
 have EG9:∀h,(a0)[r2.toNat]'h=b2:=fun h=>Option.some.inj ((getElem?_pos (a0) (r2.toNat) h).symm.trans E9)
 unfold run fnP
 simp+decide [EG2,EG9, Tryz.f39,C1,C1_,C1_e,C1_g,E2,C3_,C3_n,K4,C5,C6_,C6_n,K7,C8,E9,Z9,C10_,C10_n,W11_,K12,C13,C14_,C14_n,C15_,C15_n,C15_l,C16]
theorem f4P_f9(C14:¬r6=r2+1)(C15:¬(r5.length:Int)=0)(C16:¬r6<(a0.size:Int))(K17:run (n+6) 91 [.lit (.bool (((b.toNat:Int)==45))),natA r]=some (.agg [.lit (.bool r18.Neg),natA r18.Mag]))(K18:run (n+6) 91 [.lit (.bool false),natA r5]=some (.agg [.lit (.bool r19.Neg),natA r19.Mag]))(K19:run (n+6) 68 [.agg [.lit (.bool r18.Neg),natA r18.Mag],.agg [.lit (.bool r19.Neg),natA r19.Mag]]=some (.tup [ratV r20,.lit (.int .i64 r21)])):
  run (n+7) 39 [.lit (.string a0)]=some (.tup [ratV r20,.lit (.int .i64 0),.lit (.int .i64 0)]):=by
 have C1_:0<a0.size:=by omega
 have C1_z:(a0.size:Int)≠0:=by omega
 have C1_e:((a0.size:Int)==0)=false:=by simpa using C1_z
 have C1_g:((a0.size:Int) !=0)=true:=by simpa using C1_z
 have C3_:((b.toNat:Int)==45)=true:=by rw [C3];simp
 have C3_n:((b.toNat:Int) !=45)=false:=by rw [C3];simp
 have C6_:(r2==1)=false:=by simpa using C6
 have C6_n:(r2 !=1)=true:=by simpa using C6
 have C10_:((b2.toNat:Int)==47)=true:=by rw [C10];simp
 have C10_n:((b2.toNat:Int) !=47)=false:=by rw [C10];simp
 have W11_:IntKind.i64.wrap (r2+1)=r2+1:=wr64 W11.1 W11.2
 have C14_:(r6==r2+1)=false:=by simpa using C14
 have C14_n:(r6 !=r2+1)=true:=by simpa using C14
 have C15_:((r5.length:Int)==0)=false:=by simpa using C15
 have C15_n:((r5.length:Int) !=0)=true:=by simpa using C15
 have C15_l:0<(r5.length:Int):=by omega
 simp only [ratV] at K19
 have EG2:∀h,(a0)[0]'h=b:=fun h=>Option.some.inj ((getElem?_pos (a0) (0) h).symm.trans E2)
 have EG9:∀h,(a0)[r2.toNat]'h=b2:=fun h=>Option.some.inj ((getElem?_pos (a0) (r2.toNat) h).symm.trans E9)
 rw [C3_] at K17
 unfold run fnP
 simp+decide [EG2,EG9, Tryz.f39,C1,C1_,C1_e,C1_g,E2,C3_,C3_n,K4,C5,C6_,C6_n,K7,C8,E9,Z9,C10_,C10_n,W11_,K12,C13,C14_,C14_n,C15_,C15_n,C15_l,C16,K17,K18,K19]
end
theorem f4P_f11(C10:¬(b2.toNat:Int)=47)(C11:(b2.toNat:Int)=46)(W12:InI (r2+1))(K13:run (n+6) 87 [.lit (.string a0),.lit (.int .i64 (r2+1)),.lit (.int .i64 r3)]=some (.tup [natA r8,.lit (.int .i64 r9),.lit (.int .i64 r10)]))(C14:¬r9<0)(C15:r9=r2+1):
  run (n+7) 39 [.lit (.string a0)]=some (.tup [.agg [.lit (.bool false),.sl 1 [],.sl 1 []],.lit (.int .i64 (r2+1)),.lit (.int .i64 4)]):=by
 have C1_:0<a0.size:=by omega
 have C1_z:(a0.size:Int)≠0:=by omega
 have C1_e:((a0.size:Int)==0)=false:=by simpa using C1_z
 have C1_g:((a0.size:Int) !=0)=true:=by simpa using C1_z
 have C3_:((b.toNat:Int)==45)=true:=by rw [C3];simp
 have C3_n:((b.toNat:Int) !=45)=false:=by rw [C3];simp
 have C6_:(r2==1)=false:=by simpa using C6
 have C6_n:(r2 !=1)=true:=by simpa using C6
 have C10_:((b2.toNat:Int)==47)=false:=by simpa using C10
 have C10_n:((b2.toNat:Int) !=47)=true:=by simpa using C10
 have C11_:((b2.toNat:Int)==46)=true:=by rw [C11];simp
 have C11_n:((b2.toNat:Int) !=46)=false:=by rw [C11];simp
 have W12_:IntKind.i64.wrap (r2+1)=r2+1:=wr64 W12.1 W12.2
 have C15_:(r9==r2+1)=true:=by rw [C15];simp
 have C15_n:(r9 !=r2+1)=false:=by rw [C15];simp
 have EG2:∀h,(a0)[0]'h=b:=fun h=>Option.some.inj ((getElem?_pos (a0) (0) h).symm.trans E2)
 have EG9:∀h,(a0)[r2.toNat]'h=b2:=fun h=>Option.some.inj ((getElem?_pos (a0) (r2.toNat) h).symm.trans E9)
 unfold run fnP
 simp+decide [EG2,EG9, Tryz.f39,C1,C1_,C1_e,C1_g,E2,C3_,C3_n,K4,C5,C6_,C6_n,K7,C8,E9,Z9,C10_,C10_n,C11_,C11_n,W12_,K13,C14,C15_,C15_n]
theorem f4P_f12(C10:¬(b2.toNat:Int)=47)(C11:(b2.toNat:Int)=46)(W12:InI (r2+1))(K13:run (n+6) 87 [.lit (.string a0),.lit (.int .i64 (r2+1)),.lit (.int .i64 r3)]=some (.tup [natA r8,.lit (.int .i64 r9),.lit (.int .i64 r10)]))(C14:¬r9<0)(C15:¬r9=r2+1)(W16:InI (r10-r3))(K17:run (n+6) 88 [.lit (.int .i64 (r10-r3))]=some (natA r11))(K18:(oN2 fun x y=>natA (lmb (val x*val y))) [natA r,natA r11]=some (natA r12))(K19:(oN2 fun x y=>natA (lmb (val x+val y))) [natA r12,natA r8]=some (natA r13))(C20:r9<(a0.size:Int)):
  run (n+7) 39 [.lit (.string a0)]=some (.tup [.agg [.lit (.bool false),.sl 1 [],.sl 1 []],.lit (.int .i64 r9),.lit (.int .i64 4)]):=by
 have C1_:0<a0.size:=by omega
 have C1_z:(a0.size:Int)≠0:=by omega
 have C1_e:((a0.size:Int)==0)=false:=by simpa using C1_z
 have C1_g:((a0.size:Int) !=0)=true:=by simpa using C1_z
 have C3_:((b.toNat:Int)==45)=true:=by rw [C3];simp
 have C3_n:((b.toNat:Int) !=45)=false:=by rw [C3];simp
 have C6_:(r2==1)=false:=by simpa using C6
 have C6_n:(r2 !=1)=true:=by simpa using C6
 have C10_:((b2.toNat:Int)==47)=false:=by simpa using C10
 have C10_n:((b2.toNat:Int) !=47)=true:=by simpa using C10
 have C11_:((b2.toNat:Int)==46)=true:=by rw [C11];simp
 have C11_n:((b2.toNat:Int) !=46)=false:=by rw [C11];simp
 have W12_:IntKind.i64.wrap (r2+1)=r2+1:=wr64 W12.1 W12.2
 have C15_:(r9==r2+1)=false:=by simpa using C15
 have C15_n:(r9 !=r2+1)=true:=by simpa using C15
 have W16_:IntKind.i64.wrap (r10-r3)=r10-r3:=wr64 W16.1 W16.2
 have EG2:∀h,(a0)[0]'h=b:=fun h=>Option.some.inj ((getElem?_pos (a0) (0) h).symm.trans E2)
 have EG9:∀h,(a0)[r2.toNat]'h=b2:=fun h=>Option.some.inj ((getElem?_pos (a0) (r2.toNat) h).symm.trans E9)
 unfold run fnP
 simp+decide [EG2,EG9, Tryz.f39,C1,C1_,C1_e,C1_g,E2,C3_,C3_n,K4,C5,C6_,C6_n,K7,C8,E9,Z9,C10_,C10_n,C11_,C11_n,W12_,K13,C14,C15_,C15_n,W16_,K17,K18,K19,C20]
theorem f4P_f13(C10:¬(b2.toNat:Int)=47)(C11:(b2.toNat:Int)=46)(W12:InI (r2+1))(K13:run (n+6) 87 [.lit (.string a0),.lit (.int .i64 (r2+1)),.lit (.int .i64 r3)]=some (.tup [natA r8,.lit (.int .i64 r9),.lit (.int .i64 r10)]))(C14:¬r9<0)(C15:¬r9=r2+1)(W16:InI (r10-r3))(K17:run (n+6) 88 [.lit (.int .i64 (r10-r3))]=some (natA r11))(K18:(oN2 fun x y=>natA (lmb (val x*val y))) [natA r,natA r11]=some (natA r12))(K19:(oN2 fun x y=>natA (lmb (val x+val y))) [natA r12,natA r8]=some (natA r13))(C20:¬r9<(a0.size:Int))(K21:run (n+6) 91 [.lit (.bool (((b.toNat:Int)==45))),natA r13]=some (.agg [.lit (.bool r22.Neg),natA r22.Mag]))(K22:run (n+6) 91 [.lit (.bool false),natA r11]=some (.agg [.lit (.bool r23.Neg),natA r23.Mag]))(K23:run (n+6) 68 [.agg [.lit (.bool r22.Neg),natA r22.Mag],.agg [.lit (.bool r23.Neg),natA r23.Mag]]=some (.tup [ratV r24,.lit (.int .i64 r25)])):
  run (n+7) 39 [.lit (.string a0)]=some (.tup [ratV r24,.lit (.int .i64 0),.lit (.int .i64 0)]):=by
 have C1_:0<a0.size:=by omega
 have C1_z:(a0.size:Int)≠0:=by omega
 have C1_e:((a0.size:Int)==0)=false:=by simpa using C1_z
 have C1_g:((a0.size:Int) !=0)=true:=by simpa using C1_z
 have C3_:((b.toNat:Int)==45)=true:=by rw [C3];simp
 have C3_n:((b.toNat:Int) !=45)=false:=by rw [C3];simp
 have C6_:(r2==1)=false:=by simpa using C6
 have C6_n:(r2 !=1)=true:=by simpa using C6
 have C10_:((b2.toNat:Int)==47)=false:=by simpa using C10
 have C10_n:((b2.toNat:Int) !=47)=true:=by simpa using C10
 have C11_:((b2.toNat:Int)==46)=true:=by rw [C11];simp
 have C11_n:((b2.toNat:Int) !=46)=false:=by rw [C11];simp
 have W12_:IntKind.i64.wrap (r2+1)=r2+1:=wr64 W12.1 W12.2
 have C15_:(r9==r2+1)=false:=by simpa using C15
 have C15_n:(r9 !=r2+1)=true:=by simpa using C15
 have W16_:IntKind.i64.wrap (r10-r3)=r10-r3:=wr64 W16.1 W16.2
 simp only [ratV] at K23
 have EG2:∀h,(a0)[0]'h=b:=fun h=>Option.some.inj ((getElem?_pos (a0) (0) h).symm.trans E2)
 have EG9:∀h,(a0)[r2.toNat]'h=b2:=fun h=>Option.some.inj ((getElem?_pos (a0) (r2.toNat) h).symm.trans E9)
 rw [C3_] at K21
 unfold run fnP
 simp+decide [EG2,EG9, Tryz.f39,C1,C1_,C1_e,C1_g,E2,C3_,C3_n,K4,C5,C6_,C6_n,K7,C8,E9,Z9,C10_,C10_n,C11_,C11_n,W12_,K13,C14,C15_,C15_n,W16_,K17,K18,K19,C20,K21,K22,K23]
theorem f4P_f14(C10:¬(b2.toNat:Int)=47)(C11:¬(b2.toNat:Int)=46):
  run (n+7) 39 [.lit (.string a0)]=some (.tup [.agg [.lit (.bool false),.sl 1 [],.sl 1 []],.lit (.int .i64 r2),.lit (.int .i64 4)]):=by
 have C1_:0<a0.size:=by omega
 have C1_z:(a0.size:Int)≠0:=by omega
 have C1_e:((a0.size:Int)==0)=false:=by simpa using C1_z
 have C1_g:((a0.size:Int) !=0)=true:=by simpa using C1_z
 have C3_:((b.toNat:Int)==45)=true:=by rw [C3];simp
 have C3_n:((b.toNat:Int) !=45)=false:=by rw [C3];simp
 have C6_:(r2==1)=false:=by simpa using C6
 have C6_n:(r2 !=1)=true:=by simpa using C6
 have C10_:((b2.toNat:Int)==47)=false:=by simpa using C10
 have C10_n:((b2.toNat:Int) !=47)=true:=by simpa using C10
 have C11_:((b2.toNat:Int)==46)=false:=by simpa using C11
 have C11_n:((b2.toNat:Int) !=46)=true:=by simpa using C11
 have EG2:∀h,(a0)[0]'h=b:=fun h=>Option.some.inj ((getElem?_pos (a0) (0) h).symm.trans E2)
 have EG9:∀h,(a0)[r2.toNat]'h=b2:=fun h=>Option.some.inj ((getElem?_pos (a0) (r2.toNat) h).symm.trans E9)
 unfold run fnP
 simp+decide [EG2,EG9, Tryz.f39,C1,C1_,C1_e,C1_g,E2,C3_,C3_n,K4,C5,C6_,C6_n,K7,C8,E9,Z9,C10_,C10_n,C11_,C11_n]
end
theorem f4P_f15(C8:¬r2<(a0.size:Int))(K9:run (n+6) 91 [.lit (.bool (((b.toNat:Int)==45))),natA r]=some (.agg [.lit (.bool r26.Neg),natA r26.Mag]))(K10:run (n+6) 91 [.lit (.bool false),natA r4]=some (.agg [.lit (.bool r27.Neg),natA r27.Mag]))(K11:run (n+6) 68 [.agg [.lit (.bool r26.Neg),natA r26.Mag],.agg [.lit (.bool r27.Neg),natA r27.Mag]]=some (.tup [ratV r28,.lit (.int .i64 r29)])):
  run (n+7) 39 [.lit (.string a0)]=some (.tup [ratV r28,.lit (.int .i64 0),.lit (.int .i64 0)]):=by
 have C1_:0<a0.size:=by omega
 have C1_z:(a0.size:Int)≠0:=by omega
 have C1_e:((a0.size:Int)==0)=false:=by simpa using C1_z
 have C1_g:((a0.size:Int) !=0)=true:=by simpa using C1_z
 have C3_:((b.toNat:Int)==45)=true:=by rw [C3];simp
 have C3_n:((b.toNat:Int) !=45)=false:=by rw [C3];simp
 have C6_:(r2==1)=false:=by simpa using C6
 have C6_n:(r2 !=1)=true:=by simpa using C6
 simp only [ratV] at K11
 have EG2:∀h,(a0)[0]'h=b:=fun h=>Option.some.inj ((getElem?_pos (a0) (0) h).symm.trans E2)
 rw [C3_] at K9
 unfold run fnP
 simp+decide [EG2, Tryz.f39,C1,C1_,C1_e,C1_g,E2,C3_,C3_n,K4,C5,C6_,C6_n,K7,C8,K9,K10,K11]
end
end
section
variable(C3:¬(b.toNat:Int)=45)(K4:run (n+6) 87 [.lit (.string a0),.lit (.int .i64 0),.lit (.int .i64 0)]=some (.tup [natA r30,.lit (.int .i64 r31),.lit (.int .i64 r32)]))(C5:¬r31<0)
include C3 K4 C5
theorem f4P_f17(C6:r31=0):
  run (n+7) 39 [.lit (.string a0)]=some (.tup [.agg [.lit (.bool false),.sl 1 [],.sl 1 []],.lit (.int .i64 0),.lit (.int .i64 4)]):=by
 have C1_:0<a0.size:=by omega
 have C1_z:(a0.size:Int)≠0:=by omega
 have C1_e:((a0.size:Int)==0)=false:=by simpa using C1_z
 have C1_g:((a0.size:Int) !=0)=true:=by simpa using C1_z
 have C3_:((b.toNat:Int)==45)=false:=by simpa using C3
 have C3_n:((b.toNat:Int) !=45)=true:=by simpa using C3
 have C6_:(r31==0)=true:=by rw [C6];simp
 have C6_n:(r31 !=0)=false:=by rw [C6];simp
 have EG2:∀h,(a0)[0]'h=b:=fun h=>Option.some.inj ((getElem?_pos (a0) (0) h).symm.trans E2)
 unfold run fnP
 simp+decide [EG2, Tryz.f39,C1,C1_,C1_e,C1_g,E2,C3_,C3_n,K4,C5,C6_,C6_n]
section
variable(C6:¬r31=0)(K7:(oU fun k=>natA (lmb k)) [.lit (.int .u64 1)]=some (natA r33))
include C6 K7
section
variable(C8:r31<(a0.size:Int))(E9:a0[r31.toNat]?=some b3)(Z9:0≤r31)
include C8 E9 Z9
section
variable(C10:(b3.toNat:Int)=47)(W11:InI (r31+1))(K12:run (n+6) 87 [.lit (.string a0),.lit (.int .i64 (r31+1)),.lit (.int .i64 r32)]=some (.tup [natA r34,.lit (.int .i64 r35),.lit (.int .i64 r36)]))(C13:¬r35<0)
include C10 W11 K12 C13
theorem f4P_f19(C14:r35=r31+1):
  run (n+7) 39 [.lit (.string a0)]=some (.tup [.agg [.lit (.bool false),.sl 1 [],.sl 1 []],.lit (.int .i64 (r31+1)),.lit (.int .i64 4)]):=by
 have C1_:0<a0.size:=by omega
 have C1_z:(a0.size:Int)≠0:=by omega
 have C1_e:((a0.size:Int)==0)=false:=by simpa using C1_z
 have C1_g:((a0.size:Int) !=0)=true:=by simpa using C1_z
 have C3_:((b.toNat:Int)==45)=false:=by simpa using C3
 have C3_n:((b.toNat:Int) !=45)=true:=by simpa using C3
 have C6_:(r31==0)=false:=by simpa using C6
 have C6_n:(r31 !=0)=true:=by simpa using C6
 have C10_:((b3.toNat:Int)==47)=true:=by rw [C10];simp
 have C10_n:((b3.toNat:Int) !=47)=false:=by rw [C10];simp
 have W11_:IntKind.i64.wrap (r31+1)=r31+1:=wr64 W11.1 W11.2
 have C14_:(r35==r31+1)=true:=by rw [C14];simp
 have C14_n:(r35 !=r31+1)=false:=by rw [C14];simp
 have EG2:∀h,(a0)[0]'h=b:=fun h=>Option.some.inj ((getElem?_pos (a0) (0) h).symm.trans E2)
 have EG9:∀h,(a0)[r31.toNat]'h=b3:=fun h=>Option.some.inj ((getElem?_pos (a0) (r31.toNat) h).symm.trans E9)
 unfold run fnP
 simp+decide [EG2,EG9, Tryz.f39,C1,C1_,C1_e,C1_g,E2,C3_,C3_n,K4,C5,C6_,C6_n,K7,C8,E9,Z9,C10_,C10_n,W11_,K12,C13,C14_,C14_n]
theorem f4P_f20(C14:¬r35=r31+1)(C15:(r34.length:Int)=0)(C16:r35<(a0.size:Int)):
  run (n+7) 39 [.lit (.string a0)]=some (.tup [.agg [.lit (.bool false),.sl 1 [],.sl 1 []],.lit (.int .i64 r35),.lit (.int .i64 4)]):=by
 have C1_:0<a0.size:=by omega
 have C1_z:(a0.size:Int)≠0:=by omega
 have C1_e:((a0.size:Int)==0)=false:=by simpa using C1_z
 have C1_g:((a0.size:Int) !=0)=true:=by simpa using C1_z
 have C3_:((b.toNat:Int)==45)=false:=by simpa using C3
 have C3_n:((b.toNat:Int) !=45)=true:=by simpa using C3
 have C6_:(r31==0)=false:=by simpa using C6
 have C6_n:(r31 !=0)=true:=by simpa using C6
 have C10_:((b3.toNat:Int)==47)=true:=by rw [C10];simp
 have C10_n:((b3.toNat:Int) !=47)=false:=by rw [C10];simp
 have W11_:IntKind.i64.wrap (r31+1)=r31+1:=wr64 W11.1 W11.2
 have C14_:(r35==r31+1)=false:=by simpa using C14
 have C14_n:(r35 !=r31+1)=true:=by simpa using C14
 have C15_:((r34.length:Int)==0)=true:=by rw [C15];simp
 have C15_n:((r34.length:Int) !=0)=false:=by rw [C15];simp
 have C15_l:¬0<(r34.length:Int):=by omega
 have EG2:∀h,(a0)[0]'h=b:=fun h=>Option.some.inj ((getElem?_pos (a0) (0) h).symm.trans E2)
 have EG9:∀h,(a0)[r31.toNat]'h=b3:=fun h=>Option.some.inj ((getElem?_pos (a0) (r31.toNat) h).symm.trans E9)
 unfold run fnP
 simp+decide [EG2,EG9, Tryz.f39,C1,C1_,C1_e,C1_g,E2,C3_,C3_n,K4,C5,C6_,C6_n,K7,C8,E9,Z9,C10_,C10_n,W11_,K12,C13,C14_,C14_n,C15_,C15_n,C15_l,C16]
theorem f4P_f21(C14:¬r35=r31+1)(C15:(r34.length:Int)=0)(C16:¬r35<(a0.size:Int))(C17:0≤r31+1):
  run (n+7) 39 [.lit (.string a0)]=some (.tup [.agg [.lit (.bool false),.sl 1 [],.sl 1 []],.lit (.int .i64 (r31+1)),.lit (.int .i64 3)]):=by
 have C1_:0<a0.size:=by omega
 have C1_z:(a0.size:Int)≠0:=by omega
 have C1_e:((a0.size:Int)==0)=false:=by simpa using C1_z
 have C1_g:((a0.size:Int) !=0)=true:=by simpa using C1_z
 have C3_:((b.toNat:Int)==45)=false:=by simpa using C3
 have C3_n:((b.toNat:Int) !=45)=true:=by simpa using C3
 have C6_:(r31==0)=false:=by simpa using C6
 have C6_n:(r31 !=0)=true:=by simpa using C6
 have C10_:((b3.toNat:Int)==47)=true:=by rw [C10];simp
 have C10_n:((b3.toNat:Int) !=47)=false:=by rw [C10];simp
 have W11_:IntKind.i64.wrap (r31+1)=r31+1:=wr64 W11.1 W11.2
 have C14_:(r35==r31+1)=false:=by simpa using C14
 have C14_n:(r35 !=r31+1)=true:=by simpa using C14
 have C15_:((r34.length:Int)==0)=true:=by rw [C15];simp
 have C15_n:((r34.length:Int) !=0)=false:=by rw [C15];simp
 have C15_l:¬0<(r34.length:Int):=by omega
 have EG2:∀h,(a0)[0]'h=b:=fun h=>Option.some.inj ((getElem?_pos (a0) (0) h).symm.trans E2)
 have EG9:∀h,(a0)[r31.toNat]'h=b3:=fun h=>Option.some.inj ((getElem?_pos (a0) (r31.toNat) h).symm.trans E9)
 unfold run fnP
 simp+decide [EG2,EG9, Tryz.f39,C1,C1_,C1_e,C1_g,E2,C3_,C3_n,K4,C5,C6_,C6_n,K7,C8,E9,Z9,C10_,C10_n,W11_,K12,C13,C14_,C14_n,C15_,C15_n,C15_l,C16,C17]
theorem f4P_f23(C14:¬r35=r31+1)(C15:¬(r34.length:Int)=0)(C16:r35<(a0.size:Int)):
  run (n+7) 39 [.lit (.string a0)]=some (.tup [.agg [.lit (.bool false),.sl 1 [],.sl 1 []],.lit (.int .i64 r35),.lit (.int .i64 4)]):=by
 have C1_:0<a0.size:=by omega
 have C1_z:(a0.size:Int)≠0:=by omega
 have C1_e:((a0.size:Int)==0)=false:=by simpa using C1_z
 have C1_g:((a0.size:Int) !=0)=true:=by simpa using C1_z
 have C3_:((b.toNat:Int)==45)=false:=by simpa using C3
 have C3_n:((b.toNat:Int) !=45)=true:=by simpa using C3
 have C6_:(r31==0)=false:=by simpa using C6
 have C6_n:(r31 !=0)=true:=by simpa using C6
 have C10_:((b3.toNat:Int)==47)=true:=by rw [C10];simp
 have C10_n:((b3.toNat:Int) !=47)=false:=by rw [C10];simp
 have W11_:IntKind.i64.wrap (r31+1)=r31+1:=wr64 W11.1 W11.2
 have C14_:(r35==r31+1)=false:=by simpa using C14
 have C14_n:(r35 !=r31+1)=true:=by simpa using C14
 have C15_:((r34.length:Int)==0)=false:=by simpa using C15
 have C15_n:((r34.length:Int) !=0)=true:=by simpa using C15
 have C15_l:0<(r34.length:Int):=by omega
 have EG2:∀h,(a0)[0]'h=b:=fun h=>Option.some.inj ((getElem?_pos (a0) (0) h).symm.trans E2)
 have EG9:∀h,(a0)[r31.toNat]'h=b3:=fun h=>Option.some.inj ((getElem?_pos (a0) (r31.toNat) h).symm.trans E9)
 unfold run fnP
 simp+decide [EG2,EG9, Tryz.f39,C1,C1_,C1_e,C1_g,E2,C3_,C3_n,K4,C5,C6_,C6_n,K7,C8,E9,Z9,C10_,C10_n,W11_,K12,C13,C14_,C14_n,C15_,C15_n,C15_l,C16]
theorem f4P_f24(C14:¬r35=r31+1)(C15:¬(r34.length:Int)=0)(C16:¬r35<(a0.size:Int))(K17:run (n+6) 91 [.lit (.bool (((b.toNat:Int)==45))),natA r30]=some (.agg [.lit (.bool r47.Neg),natA r47.Mag]))(K18:run (n+6) 91 [.lit (.bool false),natA r34]=some (.agg [.lit (.bool r48.Neg),natA r48.Mag]))(K19:run (n+6) 68 [.agg [.lit (.bool r47.Neg),natA r47.Mag],.agg [.lit (.bool r48.Neg),natA r48.Mag]]=some (.tup [ratV r49,.lit (.int .i64 r50)])):
  run (n+7) 39 [.lit (.string a0)]=some (.tup [ratV r49,.lit (.int .i64 0),.lit (.int .i64 0)]):=by
 have C1_:0<a0.size:=by omega
 have C1_z:(a0.size:Int)≠0:=by omega
 have C1_e:((a0.size:Int)==0)=false:=by simpa using C1_z
 have C1_g:((a0.size:Int) !=0)=true:=by simpa using C1_z
 have C3_:((b.toNat:Int)==45)=false:=by simpa using C3
 have C3_n:((b.toNat:Int) !=45)=true:=by simpa using C3
 have C6_:(r31==0)=false:=by simpa using C6
 have C6_n:(r31 !=0)=true:=by simpa using C6
 have C10_:((b3.toNat:Int)==47)=true:=by rw [C10];simp
 have C10_n:((b3.toNat:Int) !=47)=false:=by rw [C10];simp
 have W11_:IntKind.i64.wrap (r31+1)=r31+1:=wr64 W11.1 W11.2
 have C14_:(r35==r31+1)=false:=by simpa using C14
 have C14_n:(r35 !=r31+1)=true:=by simpa using C14
 have C15_:((r34.length:Int)==0)=false:=by simpa using C15
 have C15_n:((r34.length:Int) !=0)=true:=by simpa using C15
 have C15_l:0<(r34.length:Int):=by omega
 simp only [ratV] at K19
 have EG2:∀h,(a0)[0]'h=b:=fun h=>Option.some.inj ((getElem?_pos (a0) (0) h).symm.trans E2)
 have EG9:∀h,(a0)[r31.toNat]'h=b3:=fun h=>Option.some.inj ((getElem?_pos (a0) (r31.toNat) h).symm.trans E9)
 rw [C3_] at K17
 unfold run fnP
 simp+decide [EG2,EG9, Tryz.f39,C1,C1_,C1_e,C1_g,E2,C3_,C3_n,K4,C5,C6_,C6_n,K7,C8,E9,Z9,C10_,C10_n,W11_,K12,C13,C14_,C14_n,C15_,C15_n,C15_l,C16,K17,K18,K19]
end
theorem f4P_f26(C10:¬(b3.toNat:Int)=47)(C11:(b3.toNat:Int)=46)(W12:InI (r31+1))(K13:run (n+6) 87 [.lit (.string a0),.lit (.int .i64 (r31+1)),.lit (.int .i64 r32)]=some (.tup [natA r37,.lit (.int .i64 r38),.lit (.int .i64 r39)]))(C14:¬r38<0)(C15:r38=r31+1):
  run (n+7) 39 [.lit (.string a0)]=some (.tup [.agg [.lit (.bool false),.sl 1 [],.sl 1 []],.lit (.int .i64 (r31+1)),.lit (.int .i64 4)]):=by
 have C1_:0<a0.size:=by omega
 have C1_z:(a0.size:Int)≠0:=by omega
 have C1_e:((a0.size:Int)==0)=false:=by simpa using C1_z
 have C1_g:((a0.size:Int) !=0)=true:=by simpa using C1_z
 have C3_:((b.toNat:Int)==45)=false:=by simpa using C3
 have C3_n:((b.toNat:Int) !=45)=true:=by simpa using C3
 have C6_:(r31==0)=false:=by simpa using C6
 have C6_n:(r31 !=0)=true:=by simpa using C6
 have C10_:((b3.toNat:Int)==47)=false:=by simpa using C10
 have C10_n:((b3.toNat:Int) !=47)=true:=by simpa using C10
 have C11_:((b3.toNat:Int)==46)=true:=by rw [C11];simp
 have C11_n:((b3.toNat:Int) !=46)=false:=by rw [C11];simp
 have W12_:IntKind.i64.wrap (r31+1)=r31+1:=wr64 W12.1 W12.2
 have C15_:(r38==r31+1)=true:=by rw [C15];simp
 have C15_n:(r38 !=r31+1)=false:=by rw [C15];simp
 have EG2:∀h,(a0)[0]'h=b:=fun h=>Option.some.inj ((getElem?_pos (a0) (0) h).symm.trans E2)
 have EG9:∀h,(a0)[r31.toNat]'h=b3:=fun h=>Option.some.inj ((getElem?_pos (a0) (r31.toNat) h).symm.trans E9)
 unfold run fnP
 simp+decide [EG2,EG9, Tryz.f39,C1,C1_,C1_e,C1_g,E2,C3_,C3_n,K4,C5,C6_,C6_n,K7,C8,E9,Z9,C10_,C10_n,C11_,C11_n,W12_,K13,C14,C15_,C15_n]
theorem f4P_f27(C10:¬(b3.toNat:Int)=47)(C11:(b3.toNat:Int)=46)(W12:InI (r31+1))(K13:run (n+6) 87 [.lit (.string a0),.lit (.int .i64 (r31+1)),.lit (.int .i64 r32)]=some (.tup [natA r37,.lit (.int .i64 r38),.lit (.int .i64 r39)]))(C14:¬r38<0)(C15:¬r38=r31+1)(W16:InI (r39-r32))(K17:run (n+6) 88 [.lit (.int .i64 (r39-r32))]=some (natA r40))(K18:(oN2 fun x y=>natA (lmb (val x*val y))) [natA r30,natA r40]=some (natA r41))(K19:(oN2 fun x y=>natA (lmb (val x+val y))) [natA r41,natA r37]=some (natA r42))(C20:r38<(a0.size:Int)):
  run (n+7) 39 [.lit (.string a0)]=some (.tup [.agg [.lit (.bool false),.sl 1 [],.sl 1 []],.lit (.int .i64 r38),.lit (.int .i64 4)]):=by
 have C1_:0<a0.size:=by omega
 have C1_z:(a0.size:Int)≠0:=by omega
 have C1_e:((a0.size:Int)==0)=false:=by simpa using C1_z
 have C1_g:((a0.size:Int) !=0)=true:=by simpa using C1_z
 have C3_:((b.toNat:Int)==45)=false:=by simpa using C3
 have C3_n:((b.toNat:Int) !=45)=true:=by simpa using C3
 have C6_:(r31==0)=false:=by simpa using C6
 have C6_n:(r31 !=0)=true:=by simpa using C6
 have C10_:((b3.toNat:Int)==47)=false:=by simpa using C10
 have C10_n:((b3.toNat:Int) !=47)=true:=by simpa using C10
 have C11_:((b3.toNat:Int)==46)=true:=by rw [C11];simp
 have C11_n:((b3.toNat:Int) !=46)=false:=by rw [C11];simp
 have W12_:IntKind.i64.wrap (r31+1)=r31+1:=wr64 W12.1 W12.2
 have C15_:(r38==r31+1)=false:=by simpa using C15
 have C15_n:(r38 !=r31+1)=true:=by simpa using C15
 have W16_:IntKind.i64.wrap (r39-r32)=r39-r32:=wr64 W16.1 W16.2
 have EG2:∀h,(a0)[0]'h=b:=fun h=>Option.some.inj ((getElem?_pos (a0) (0) h).symm.trans E2)
 have EG9:∀h,(a0)[r31.toNat]'h=b3:=fun h=>Option.some.inj ((getElem?_pos (a0) (r31.toNat) h).symm.trans E9)
 unfold run fnP
 simp+decide [EG2,EG9, Tryz.f39,C1,C1_,C1_e,C1_g,E2,C3_,C3_n,K4,C5,C6_,C6_n,K7,C8,E9,Z9,C10_,C10_n,C11_,C11_n,W12_,K13,C14,C15_,C15_n,W16_,K17,K18,K19,C20]
theorem f4P_f28(C10:¬(b3.toNat:Int)=47)(C11:(b3.toNat:Int)=46)(W12:InI (r31+1))(K13:run (n+6) 87 [.lit (.string a0),.lit (.int .i64 (r31+1)),.lit (.int .i64 r32)]=some (.tup [natA r37,.lit (.int .i64 r38),.lit (.int .i64 r39)]))(C14:¬r38<0)(C15:¬r38=r31+1)(W16:InI (r39-r32))(K17:run (n+6) 88 [.lit (.int .i64 (r39-r32))]=some (natA r40))(K18:(oN2 fun x y=>natA (lmb (val x*val y))) [natA r30,natA r40]=some (natA r41))(K19:(oN2 fun x y=>natA (lmb (val x+val y))) [natA r41,natA r37]=some (natA r42))(C20:¬r38<(a0.size:Int))(K21:run (n+6) 91 [.lit (.bool (((b.toNat:Int)==45))),natA r42]=some (.agg [.lit (.bool r51.Neg),natA r51.Mag]))(K22:run (n+6) 91 [.lit (.bool false),natA r40]=some (.agg [.lit (.bool r52.Neg),natA r52.Mag]))(K23:run (n+6) 68 [.agg [.lit (.bool r51.Neg),natA r51.Mag],.agg [.lit (.bool r52.Neg),natA r52.Mag]]=some (.tup [ratV r53,.lit (.int .i64 r54)])):
  run (n+7) 39 [.lit (.string a0)]=some (.tup [ratV r53,.lit (.int .i64 0),.lit (.int .i64 0)]):=by
 have C1_:0<a0.size:=by omega
 have C1_z:(a0.size:Int)≠0:=by omega
 have C1_e:((a0.size:Int)==0)=false:=by simpa using C1_z
 have C1_g:((a0.size:Int) !=0)=true:=by simpa using C1_z
 have C3_:((b.toNat:Int)==45)=false:=by simpa using C3
 have C3_n:((b.toNat:Int) !=45)=true:=by simpa using C3
 have C6_:(r31==0)=false:=by simpa using C6
 have C6_n:(r31 !=0)=true:=by simpa using C6
 have C10_:((b3.toNat:Int)==47)=false:=by simpa using C10
 have C10_n:((b3.toNat:Int) !=47)=true:=by simpa using C10
 have C11_:((b3.toNat:Int)==46)=true:=by rw [C11];simp
 have C11_n:((b3.toNat:Int) !=46)=false:=by rw [C11];simp
 have W12_:IntKind.i64.wrap (r31+1)=r31+1:=wr64 W12.1 W12.2
 have C15_:(r38==r31+1)=false:=by simpa using C15
 have C15_n:(r38 !=r31+1)=true:=by simpa using C15
 have W16_:IntKind.i64.wrap (r39-r32)=r39-r32:=wr64 W16.1 W16.2
 simp only [ratV] at K23
 have EG2:∀h,(a0)[0]'h=b:=fun h=>Option.some.inj ((getElem?_pos (a0) (0) h).symm.trans E2)
 have EG9:∀h,(a0)[r31.toNat]'h=b3:=fun h=>Option.some.inj ((getElem?_pos (a0) (r31.toNat) h).symm.trans E9)
 rw [C3_] at K21
 unfold run fnP
 simp+decide [EG2,EG9, Tryz.f39,C1,C1_,C1_e,C1_g,E2,C3_,C3_n,K4,C5,C6_,C6_n,K7,C8,E9,Z9,C10_,C10_n,C11_,C11_n,W12_,K13,C14,C15_,C15_n,W16_,K17,K18,K19,C20,K21,K22,K23]
theorem f4P_f29(C10:¬(b3.toNat:Int)=47)(C11:¬(b3.toNat:Int)=46):
  run (n+7) 39 [.lit (.string a0)]=some (.tup [.agg [.lit (.bool false),.sl 1 [],.sl 1 []],.lit (.int .i64 r31),.lit (.int .i64 4)]):=by
 have C1_:0<a0.size:=by omega
 have C1_z:(a0.size:Int)≠0:=by omega
 have C1_e:((a0.size:Int)==0)=false:=by simpa using C1_z
 have C1_g:((a0.size:Int) !=0)=true:=by simpa using C1_z
 have C3_:((b.toNat:Int)==45)=false:=by simpa using C3
 have C3_n:((b.toNat:Int) !=45)=true:=by simpa using C3
 have C6_:(r31==0)=false:=by simpa using C6
 have C6_n:(r31 !=0)=true:=by simpa using C6
 have C10_:((b3.toNat:Int)==47)=false:=by simpa using C10
 have C10_n:((b3.toNat:Int) !=47)=true:=by simpa using C10
 have C11_:((b3.toNat:Int)==46)=false:=by simpa using C11
 have C11_n:((b3.toNat:Int) !=46)=true:=by simpa using C11
 have EG2:∀h,(a0)[0]'h=b:=fun h=>Option.some.inj ((getElem?_pos (a0) (0) h).symm.trans E2)
 have EG9:∀h,(a0)[r31.toNat]'h=b3:=fun h=>Option.some.inj ((getElem?_pos (a0) (r31.toNat) h).symm.trans E9)
 unfold run fnP
 simp+decide [EG2,EG9, Tryz.f39,C1,C1_,C1_e,C1_g,E2,C3_,C3_n,K4,C5,C6_,C6_n,K7,C8,E9,Z9,C10_,C10_n,C11_,C11_n]
end
theorem f4P_f30(C8:¬r31<(a0.size:Int))(K9:run (n+6) 91 [.lit (.bool (((b.toNat:Int)==45))),natA r30]=some (.agg [.lit (.bool r55.Neg),natA r55.Mag]))(K10:run (n+6) 91 [.lit (.bool false),natA r33]=some (.agg [.lit (.bool r56.Neg),natA r56.Mag]))(K11:run (n+6) 68 [.agg [.lit (.bool r55.Neg),natA r55.Mag],.agg [.lit (.bool r56.Neg),natA r56.Mag]]=some (.tup [ratV r57,.lit (.int .i64 r58)])):
  run (n+7) 39 [.lit (.string a0)]=some (.tup [ratV r57,.lit (.int .i64 0),.lit (.int .i64 0)]):=by
 have C1_:0<a0.size:=by omega
 have C1_z:(a0.size:Int)≠0:=by omega
 have C1_e:((a0.size:Int)==0)=false:=by simpa using C1_z
 have C1_g:((a0.size:Int) !=0)=true:=by simpa using C1_z
 have C3_:((b.toNat:Int)==45)=false:=by simpa using C3
 have C3_n:((b.toNat:Int) !=45)=true:=by simpa using C3
 have C6_:(r31==0)=false:=by simpa using C6
 have C6_n:(r31 !=0)=true:=by simpa using C6
 simp only [ratV] at K11
 have EG2:∀h,(a0)[0]'h=b:=fun h=>Option.some.inj ((getElem?_pos (a0) (0) h).symm.trans E2)
 rw [C3_] at K9
 unfold run fnP
 simp+decide [EG2, Tryz.f39,C1,C1_,C1_e,C1_g,E2,C3_,C3_n,K4,C5,C6_,C6_n,K7,C8,K9,K10,K11]
end
end
end
theorem f4P_f32(C1:¬0<(a0.size:Int))(K2:run (n+6) 87 [.lit (.string a0),.lit (.int .i64 0),.lit (.int .i64 0)]=some (.tup [natA r59,.lit (.int .i64 r60),.lit (.int .i64 r61)]))(C3:¬r60<0)(C4:r60=0):
  run (n+7) 39 [.lit (.string a0)]=some (.tup [.agg [.lit (.bool false),.sl 1 [],.sl 1 []],.lit (.int .i64 0),.lit (.int .i64 4)]):=by
 have C1_:¬0<a0.size:=by omega
 have C1_z:(a0.size:Int)=0:=by omega
 have C1_e:((a0.size:Int)==0)=true:=by rw [C1_z];simp
 have C1_g:((a0.size:Int) !=0)=false:=by rw [C1_z];simp
 have C4_:(r60==0)=true:=by rw [C4];simp
 have C4_n:(r60 !=0)=false:=by rw [C4];simp
 unfold run fnP
 simp+decide [Tryz.f39,C1,C1_,C1_e,C1_g,K2,C3,C4_,C4_n]
end
end
end Go.Proofs.YtnegdhjdienjlaaGreatDoor
