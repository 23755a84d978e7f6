import Derived.Test.YtnegdhjdienjlaaGreatDoorGQ20
import Derived.Test.YtnegdhjdienjlaaGreatDoorGQ21
import Derived.Test.YtnegdhjdienjlaaGreatDoorGQ25
import Derived.Test.YtnegdhjdienjlaaGreatDoorGQ22
set_option linter.all false
set_option maxHeartbeats 6400000
set_option maxRecDepth 100000
namespace Go.Proofs.YtnegdhjdienjlaaGreatDoor
section
open Go.RowKit
section
variable {z2 : Int} {r : Bool} {a0 : TparserD} {z4 : Int} {n : Nat} {z : Int} {r2 : ByteArray} {z3 : Int} {r3 : Int} {r6 : Int} {z5 : Int} {z7 : Int} {r4 : Bool} {z6 : Int} {z8 : Int} {r5 : ByteArray} {r7 : List Nat} {r13 : List Nat} {r14 : TInt} {r16 : Rat} {r15 : TInt} {r17 : Int} {z12 : Int} {r8 : Bool} {z11 : Int} {r10 : Int} {z10 : Int} {r9 : ByteArray} {z9 : Int} {cat : ByteArray} {r12 : List Nat} {cat2 : ByteArray} {r11 : ByteArray} {r21 : Rat} {r20 : TInt} {r18 : List Nat} {r22 : Int} {r19 : TInt} {r24 : TInt} {r26 : Rat} {r25 : TInt} {r23 : List Nat} {r27 : Int}
section
variable(K1:runL (n+6) 147 [.ptr 0 0,.lit (.int .u8 45)] [.box 120 [.lit (.string a0.s),.lit (.int .i64 (a0.at_)),.lit (.int .i64 (a0.count))] false]=some (.lit (.bool r),[(0,.box 120 [.lit (.string a0.s),.lit (.int .i64 z),.lit (.int .i64 z2)] false)]))(K2:runL (n+6) 148 [.ptr 0 0] [.box 120 [.lit (.string a0.s),.lit (.int .i64 z),.lit (.int .i64 z2)] false]=some (.tup [.lit (.string r2),.lit (.int .i64 r3)],[(0,.box 120 [.lit (.string a0.s),.lit (.int .i64 z3),.lit (.int .i64 z4)] false)]))
include K1 K2
theorem dnm_f1(C3:¬r3=0):
  runL (n+7) 84 [.ptr 0 0] [.box 120 [.lit (.string a0.s),.lit (.int .i64 (a0.at_)),.lit (.int .i64 (a0.count))] false]=some (.tup [.agg [.lit (.bool false),.sl 1 [],.sl 1 []],.lit (.int .i64 r3)],[(0,.box 120 [.lit (.string a0.s),.lit (.int .i64 z3),.lit (.int .i64 z4)] false)]):=by
 have C3_:(r3==0)=false:=by simpa using C3
 have C3_n:(r3 !=0)=true:=by simpa using C3
 unfold runL fnL
 simp+decide [Tryz.f84,K1,K2,C3_,C3_n]
section
variable(C3:r3=0)(K4:runL (n+6) 147 [.ptr 0 0,.lit (.int .u8 47)] [.box 120 [.lit (.string a0.s),.lit (.int .i64 z3),.lit (.int .i64 z4)] false]=some (.lit (.bool r4),[(0,.box 120 [.lit (.string a0.s),.lit (.int .i64 z5),.lit (.int .i64 z6)] false)]))
include C3 K4
section
variable(C5:r4=true)(K6:runL (n+6) 148 [.ptr 0 0] [.box 120 [.lit (.string a0.s),.lit (.int .i64 z5),.lit (.int .i64 z6)] false]=some (.tup [.lit (.string r5),.lit (.int .i64 r6)],[(0,.box 120 [.lit (.string a0.s),.lit (.int .i64 z7),.lit (.int .i64 z8)] false)]))
include C5 K6
theorem dnm_f2(C7:¬r6=0):
  runL (n+7) 84 [.ptr 0 0] [.box 120 [.lit (.string a0.s),.lit (.int .i64 (a0.at_)),.lit (.int .i64 (a0.count))] false]=some (.tup [.agg [.lit (.bool false),.sl 1 [],.sl 1 []],.lit (.int .i64 r6)],[(0,.box 120 [.lit (.string a0.s),.lit (.int .i64 z7),.lit (.int .i64 z8)] false)]):=by
 have C3_:(r3==0)=true:=by rw [C3];simp
 have C3_n:(r3 !=0)=false:=by rw [C3];simp
 have C7_:(r6==0)=false:=by simpa using C7
 have C7_n:(r6 !=0)=true:=by simpa using C7
 unfold runL fnL
 simp+decide [Tryz.f84,K1,K2,C3_,C3_n,K4,C5,K6,C7_,C7_n]
section
variable(C7:r6=0)(K8:run (n+6) 149 [.lit (.string r5)]=some (natA r7))
include C7 K8
theorem dnm_f3(C9:z7<(a0.s.size:Int)):
  runL (n+7) 84 [.ptr 0 0] [.box 120 [.lit (.string a0.s),.lit (.int .i64 (a0.at_)),.lit (.int .i64 (a0.count))] false]=some (.tup [.agg [.lit (.bool false),.sl 1 [],.sl 1 []],.lit (.int .i64 4)],[(0,.box 120 [.lit (.string a0.s),.lit (.int .i64 z7),.lit (.int .i64 z8)] false)]):=by
 have C3_:(r3==0)=true:=by rw [C3];simp
 have C3_n:(r3 !=0)=false:=by rw [C3];simp
 have C7_:(r6==0)=true:=by rw [C7];simp
 have C7_n:(r6 !=0)=false:=by rw [C7];simp
 unfold runL fnL
 simp+decide [Tryz.f84,K1,K2,C3_,C3_n,K4,C5,K6,C7_,C7_n,K8,C9]
section
variable(C9:¬z7<(a0.s.size:Int))(K10:run (n+6) 149 [.lit (.string r2)]=some (natA r13))(K11:run (n+6) 152 [.lit (.bool r),natA r13]=some (.agg [.lit (.bool r14.Neg),natA r14.Mag]))(K12:run (n+6) 152 [.lit (.bool false),natA r7]=some (.agg [.lit (.bool r15.Neg),natA r15.Mag]))(K13:run (n+6) 151 [.agg [.lit (.bool r14.Neg),natA r14.Mag],.agg [.lit (.bool r15.Neg),natA r15.Mag]]=some (.tup [ratV r16,.lit (.int .i64 r17)]))
include C9 K10 K11 K12 K13
theorem dnm_f4(C14:¬r17=0):
  runL (n+7) 84 [.ptr 0 0] [.box 120 [.lit (.string a0.s),.lit (.int .i64 (a0.at_)),.lit (.int .i64 (a0.count))] false]=some (.tup [ratV r16,.lit (.int .i64 r17)],[(0,.box 120 [.lit (.string a0.s),.lit (.int .i64 z5),.lit (.int .i64 z8)] false)]):=by
 have C3_:(r3==0)=true:=by rw [C3];simp
 have C3_n:(r3 !=0)=false:=by rw [C3];simp
 have C7_:(r6==0)=true:=by rw [C7];simp
 have C7_n:(r6 !=0)=false:=by rw [C7];simp
 simp only [ratV] at K13
 have C14_:(r17==0)=false:=by simpa using C14
 have C14_n:(r17 !=0)=true:=by simpa using C14
 unfold runL fnL
 simp+decide [Tryz.f84,K1,K2,C3_,C3_n,K4,C5,K6,C7_,C7_n,K8,C9,K10,K11,K12,K13,C14_,C14_n]
theorem dnm_f5(C14:r17=0):
  runL (n+7) 84 [.ptr 0 0] [.box 120 [.lit (.string a0.s),.lit (.int .i64 (a0.at_)),.lit (.int .i64 (a0.count))] false]=some (.tup [ratV r16,.lit (.int .i64 r17)],[(0,.box 120 [.lit (.string a0.s),.lit (.int .i64 z7),.lit (.int .i64 z8)] false)]):=by
 have C3_:(r3==0)=true:=by rw [C3];simp
 have C3_n:(r3 !=0)=false:=by rw [C3];simp
 have C7_:(r6==0)=true:=by rw [C7];simp
 have C7_n:(r6 !=0)=false:=by rw [C7];simp
 simp only [ratV] at K13
 have C14_:(r17==0)=true:=by rw [C14];simp
 have C14_n:(r17 !=0)=false:=by rw [C14];simp
 unfold runL fnL
 simp+decide [Tryz.f84,K1,K2,C3_,C3_n,K4,C5,K6,C7_,C7_n,K8,C9,K10,K11,K12,K13,C14_,C14_n]
end
end
end
section
variable(C5:r4=false)(K6:runL (n+6) 147 [.ptr 0 0,.lit (.int .u8 46)] [.box 120 [.lit (.string a0.s),.lit (.int .i64 z5),.lit (.int .i64 z6)] false]=some (.lit (.bool r8),[(0,.box 120 [.lit (.string a0.s),.lit (.int .i64 z9),.lit (.int .i64 z10)] false)]))
include C5 K6
section
variable(C7:r8=true)(K8:runL (n+6) 148 [.ptr 0 0] [.box 120 [.lit (.string a0.s),.lit (.int .i64 z9),.lit (.int .i64 z10)] false]=some (.tup [.lit (.string r9),.lit (.int .i64 r10)],[(0,.box 120 [.lit (.string a0.s),.lit (.int .i64 z11),.lit (.int .i64 z12)] false)]))
include C7 K8
theorem dnm_f6(C9:¬r10=0):
  runL (n+7) 84 [.ptr 0 0] [.box 120 [.lit (.string a0.s),.lit (.int .i64 (a0.at_)),.lit (.int .i64 (a0.count))] false]=some (.tup [.agg [.lit (.bool false),.sl 1 [],.sl 1 []],.lit (.int .i64 r10)],[(0,.box 120 [.lit (.string a0.s),.lit (.int .i64 z11),.lit (.int .i64 z12)] false)]):=by
 have C3_:(r3==0)=true:=by rw [C3];simp
 have C3_n:(r3 !=0)=false:=by rw [C3];simp
 have C9_:(r10==0)=false:=by simpa using C9
 have C9_n:(r10 !=0)=true:=by simpa using C9
 unfold runL fnL
 simp+decide [Tryz.f84,K1,K2,C3_,C3_n,K4,C5,K6,C7,K8,C9_,C9_n]
section
variable(C9:r10=0)(S10:r2.size+r9.size≤9000000000000000000)(D10:cat=r2++r9)(K11:(oRepeat) [.lit (.string (⟨#[48]⟩:ByteArray)),.lit (.int .i64 (r9.size:Int))]=some (.lit (.string r11)))(S12:(⟨#[49]⟩:ByteArray).size+r11.size≤9000000000000000000)(D12:cat2=(⟨#[49]⟩:ByteArray)++r11)(K13:run (n+6) 149 [.lit (.string cat2)]=some (natA r12))
include C9 S10 D10 K11 S12 D12 K13
theorem dnm_f7(C14:z11<(a0.s.size:Int)):
  runL (n+7) 84 [.ptr 0 0] [.box 120 [.lit (.string a0.s),.lit (.int .i64 (a0.at_)),.lit (.int .i64 (a0.count))] false]=some (.tup [.agg [.lit (.bool false),.sl 1 [],.sl 1 []],.lit (.int .i64 4)],[(0,.box 120 [.lit (.string a0.s),.lit (.int .i64 z11),.lit (.int .i64 z12)] false)]):=by
 have C3_:(r3==0)=true:=by rw [C3];simp
 have C3_n:(r3 !=0)=false:=by rw [C3];simp
 have C9_:(r10==0)=true:=by rw [C9];simp
 have C9_n:(r10 !=0)=false:=by rw [C9];simp
 have S10_r:=cat_r S10 D10
 have S10_q:=cat_q S10 D10
 have S12_r:=cat_r S12 D12
 have S12_q:=cat_q S12 D12
 unfold runL fnL
 simp+decide [Tryz.f84,K1,K2,C3_,C3_n,K4,C5,K6,C7,K8,C9_,C9_n,↓S10_r,S10_q,K11,↓S12_r,S12_q,K13,C14]
theorem dnm_f9(C14:¬z11<(a0.s.size:Int))(K15:run (n+6) 149 [.lit (.string cat)]=some (natA r18))(K16:run (n+6) 152 [.lit (.bool r),natA r18]=some (.agg [.lit (.bool r19.Neg),natA r19.Mag]))(K17:run (n+6) 152 [.lit (.bool false),natA r12]=some (.agg [.lit (.bool r20.Neg),natA r20.Mag]))(K18:run (n+6) 151 [.agg [.lit (.bool r19.Neg),natA r19.Mag],.agg [.lit (.bool r20.Neg),natA r20.Mag]]=some (.tup [ratV r21,.lit (.int .i64 r22)]))(C19:r22=0):
  runL (n+7) 84 [.ptr 0 0] [.box 120 [.lit (.string a0.s),.lit (.int .i64 (a0.at_)),.lit (.int .i64 (a0.count))] false]=some (.tup [ratV r21,.lit (.int .i64 r22)],[(0,.box 120 [.lit (.string a0.s),.lit (.int .i64 z11),.lit (.int .i64 z12)] false)]):=by
 have C3_:(r3==0)=true:=by rw [C3];simp
 have C3_n:(r3 !=0)=false:=by rw [C3];simp
 have C9_:(r10==0)=true:=by rw [C9];simp
 have C9_n:(r10 !=0)=false:=by rw [C9];simp
 have S10_r:=cat_r S10 D10
 have S10_q:=cat_q S10 D10
 have S12_r:=cat_r S12 D12
 have S12_q:=cat_q S12 D12
 simp only [ratV] at K18
 have C19_:(r22==0)=true:=by rw [C19];simp
 have C19_n:(r22 !=0)=false:=by rw [C19];simp
 unfold runL fnL
 simp+decide [Tryz.f84,K1,K2,C3_,C3_n,K4,C5,K6,C7,K8,C9_,C9_n,↓S10_r,S10_q,K11,↓S12_r,S12_q,K13,C14,K15,K16,K17,K18,C19_,C19_n]
end
end
theorem dnm_f10(C7:r8=false)(C8:z9<(a0.s.size:Int)):
  runL (n+7) 84 [.ptr 0 0] [.box 120 [.lit (.string a0.s),.lit (.int .i64 (a0.at_)),.lit (.int .i64 (a0.count))] false]=some (.tup [.agg [.lit (.bool false),.sl 1 [],.sl 1 []],.lit (.int .i64 4)],[(0,.box 120 [.lit (.string a0.s),.lit (.int .i64 z9),.lit (.int .i64 z10)] false)]):=by
 have C3_:(r3==0)=true:=by rw [C3];simp
 have C3_n:(r3 !=0)=false:=by rw [C3];simp
 unfold runL fnL
 simp+decide [Tryz.f84,K1,K2,C3_,C3_n,K4,C5,K6,C7,C8]
theorem dnm_f12(C7:r8=false)(C8:¬z9<(a0.s.size:Int))(K9:run (n+6) 149 [.lit (.string r2)]=some (natA r23))(K10:run (n+6) 152 [.lit (.bool r),natA r23]=some (.agg [.lit (.bool r24.Neg),natA r24.Mag]))(K11:run (n+6) 152 [.lit (.bool false),.sl 1 [[.lit (.int .u32 1)]]]=some (.agg [.lit (.bool r25.Neg),natA r25.Mag]))(K12:run (n+6) 151 [.agg [.lit (.bool r24.Neg),natA r24.Mag],.agg [.lit (.bool r25.Neg),natA r25.Mag]]=some (.tup [ratV r26,.lit (.int .i64 r27)]))(C13:r27=0):
  runL (n+7) 84 [.ptr 0 0] [.box 120 [.lit (.string a0.s),.lit (.int .i64 (a0.at_)),.lit (.int .i64 (a0.count))] false]=some (.tup [ratV r26,.lit (.int .i64 r27)],[(0,.box 120 [.lit (.string a0.s),.lit (.int .i64 z9),.lit (.int .i64 z10)] false)]):=by
 have C3_:(r3==0)=true:=by rw [C3];simp
 have C3_n:(r3 !=0)=false:=by rw [C3];simp
 simp only [ratV] at K12
 have C13_:(r27==0)=true:=by rw [C13];simp
 have C13_n:(r27 !=0)=false:=by rw [C13];simp
 unfold runL fnL
 simp+decide [Tryz.f84,K1,K2,C3_,C3_n,K4,C5,K6,C7,C8,K9,K10,K11,K12,C13_,C13_n]
end
end
end
end
section
variable {z2 : Int} {r : Rat} {a0 : ByteArray} {n : Nat} {z : Int} {r2 : Int}
section
variable(K1:runL (n+7) 84 [.ptr 0 0] [.box 120 [.lit (.string a0),.lit (.int .i64 0),.lit (.int .i64 0)] false]=some (.tup [ratV r,.lit (.int .i64 r2)],[(0,.box 120 [.lit (.string a0),.lit (.int .i64 z),.lit (.int .i64 z2)] false)]))
include K1
theorem dpr_f1(C2:¬r2=0):
  run (n+8) 36 [.lit (.string a0)]=some (.tup [.agg [.lit (.bool false),.sl 1 [],.sl 1 []],.lit (.int .i64 z),.lit (.int .i64 r2)]):=by
 simp only [ratV] at K1
 have C2_:(r2==0)=false:=by simpa using C2
 have C2_n:(r2 !=0)=true:=by simpa using C2
 unfold run fnP
 simp+decide [Tryz.f36,K1,C2_,C2_n]
theorem dpr_f2(C2:r2=0):
  run (n+8) 36 [.lit (.string a0)]=some (.tup [ratV r,.lit (.int .i64 0),.lit (.int .i64 0)]):=by
 simp only [ratV] at K1
 have C2_:(r2==0)=true:=by rw [C2];simp
 have C2_n:(r2 !=0)=false:=by rw [C2];simp
 unfold run fnP
 simp+decide [Tryz.f36,K1,C2_,C2_n]
end
end
end
section
open Go.RowKit
theorem bs_at(l:List UInt8)(i:Nat):(bs l)[i]?=l[i]?:=by
 by_cases h:i<l.length
 ·rw [getElem?_pos (bs l) i (by rw [bs_size];exact h),List.getElem?_eq_getElem h]
  rfl
 ·rw [getElem?_neg (bs l) i (by rw [bs_size];exact h),List.getElem?_eq_none (by omega)]
theorem bs_cut(l:List UInt8)(a b:Nat):(bs l).extract a b=bs ((l.drop a).take (b-a)):=by
 apply ba_ext
 rw [bs_data,←ba_toList,Lib.extract_toList,bs_data]
theorem bs_from(l:List UInt8)(a:Nat):(bs l).extract a (bs l).size=bs (l.drop a):=by
 rw [bs_cut,bs_size,List.take_of_length_le (by rw [List.length_drop];exact Nat.le_refl _)]
theorem bs_to(l:List UInt8)(b:Nat):(bs l).extract 0 b=bs (l.take b):=by
 rw [bs_cut,List.drop_zero,Nat.sub_zero]
end
section
open Go.RowKit
open Lib (decDigits)
attribute [local irreducible] run runL loopG exec
theorem isD_num(c:UInt8):isD c=true↔48≤c.toNat∧c.toNat≤57:=by unfold isD;exact decide_eq_true_iff
theorem wrU{z:Int}(h0:0≤z)(h1:z<18446744073709551616):IntKind.u64.wrap z=z:=by
 have:IntKind.u64.wrap z=z % 18446744073709551616:=rfl
 rw [this];omega
theorem wrB{z:Int}(h0:0≤z)(h1:z≤255):IntKind.u8.wrap z=z:=by
 have:IntKind.u8.wrap z=z % 256:=rfl
 rw [this];omega
theorem kq{b:Bool}{a d:Nat}(ha:(lmb a).length≤1000000)(hd:(lmb d).length≤1000000)(h0:0<d):oQt [.lit (.bool b),natA (lmb a),natA (lmb d)]=some (ratV (qv b a d)):=by
 have h9:Nat.blt 0 d=true:=Nat.ble_eq_true_of_le h0
 simp only [oQt,decN_nat (lim_lmb _),val_lmb]
 rw [if_pos (by rw [few_lmb ha,few_lmb hd,h9];rfl)]
 rfl
theorem kmul{a b:Nat}(ha:(lmb a).length≤1000000)(hb:(lmb b).length≤1000000):(oN2 fun x y=>natA (lmb (val x*val y))) [natA (lmb a),natA (lmb b)]=some (natA (lmb (a*b))):=by
 rw [oN2_raw (lim_lmb a) (lim_lmb b) (few_lmb ha) (few_lmb hb),val_lmb,val_lmb]
theorem kadd{a b:Nat}(ha:(lmb a).length≤1000000)(hb:(lmb b).length≤1000000):(oN2 fun x y=>natA (lmb (val x+val y))) [natA (lmb a),natA (lmb b)]=some (natA (lmb (a+b))):=by
 rw [oN2_raw (lim_lmb a) (lim_lmb b) (few_lmb ha) (few_lmb hb),val_lmb,val_lmb]
theorem lmb0{k:Nat}:(lmb k).length=0↔k=0:=by rw [List.length_eq_zero_iff];exact lmb_eq_nil
theorem imk_c{n k:Nat}{s:Bool}(hk:(lmb k).length≤1000000):run (n+2) 152 [.lit (.bool s),natA (lmb k)]=some (.agg [.lit (.bool (s && decide (0<k))),natA (lmb k)]):=by
 have K:=k_make hk
 cases s with
 | false=>exact imk_f2 K rfl
 | true=>
   have R:=imk_f1 (n:=n) (a0:=true) K rfl
   have e:decide (0<((lmb k).length:Int))=(true && decide (0<k)):=by
    rw [Bool.true_and]
    apply decide_eq_decide.2
    have:=@lmb0 k
    omega
   rw [e] at R
   exact R
theorem qv_s(s:Bool)(a d:Nat):qv (s && decide (0<a)) a d=qv s a d:=by
 unfold qv
 cases s with
 | false=>rfl
 | true=>
   by_cases h:0<a
   ·rw [decide_eq_true h];rfl
   ·have:a=0:=by omega
    subst this
    rfl
theorem rmk_c{n a d:Nat}{s:Bool}(ha:(lmb a).length≤1000000)(hd:(lmb d).length≤1000000):
  run (n+6) 151 [.agg [.lit (.bool (s && decide (0<a))),natA (lmb a)],.agg [.lit (.bool (false && decide (0<d))),natA (lmb d)]]=some (if d=0 then .tup [ratV 0,.lit (.int .i64 3)] else .tup [ratV (qv s a d),.lit (.int .i64 0)]):=by
 have K:fISgn [.agg [.lit (.bool (false && decide (0<d))),natA (lmb d)]]=some (.lit (.int .i64 (iv (false && decide (0<d)) (lmb d)).sign)):=oI1_raw (lim_lmb _) (few_lmb hd)
 have e:iv (false && decide (0<d)) (lmb d)=(d:Int):=by
  show (if false=true then _ else _)=_
  rw [if_neg (by simp),val_lmb]
 rw [e] at K
 by_cases h:d=0
 ·rw [if_pos h]
  have R:=rmk_f1 (n:=n) (a0:=⟨s && decide (0<a),lmb a⟩) (a1:=⟨false && decide (0<d),lmb d⟩) K (by rw [h];rfl)
  rw [R]
  simp
 ·rw [if_neg h]
  have hs:(d:Int).sign=1:=Int.sign_eq_one_of_pos (by omega)
  have Q:=kq (b:=!((s && decide (0<a))==(false && decide (0<d)))) ha hd (Nat.pos_of_ne_zero h)
  have e2:(!((s && decide (0<a))==(false && decide (0<d))))=(s && decide (0<a)):=by
   rw [Bool.false_and];cases (s && decide (0<a)) <;>rfl
  have R:=rmk_f2 (n:=n) (a0:=⟨s && decide (0<a),lmb a⟩) (a1:=⟨false && decide (0<d),lmb d⟩) K (by rw [hs];decide) Q
  rw [R,e2,qv_s]
theorem dgV_app(A B:List UInt8)(n:Nat):dgV (A++B) n=dgV B (dgV A n):=List.foldl_append ..
theorem dgV_lin:∀(B:List UInt8) (n:Nat),dgV B n=n*10 ^ B.length+dgV B 0
 | [],n=>by simp [dgV]
 | c::B,n=>by
   have e1:∀m,dgV (c::B) m=dgV B (m*10+(c.toNat-48)):=fun m=>rfl
   rw [e1,e1,dgV_lin B (n*10+_),dgV_lin B (0*10+_),List.length_cons,Nat.pow_succ,Nat.zero_mul,Nat.zero_add,Nat.add_mul,Nat.mul_assoc,Nat.mul_comm 10,Nat.add_assoc]
theorem byL_len(C:List UInt8):(byL (bs C)).length=C.length:=by unfold byL;rw [bs_data,List.length_map]
theorem byL_at{C:List UInt8}{i:Nat}{c:UInt8}(h:C[i]?=some c):(byL (bs C))[i]?=some (c.toNat:Int):=by unfold byL;rw [bs_data,List.getElem?_map,h];rfl
section
variable {n : Nat}
theorem dva_in{str:ByteArray}{nat:List Nat}{C:List UInt8}(hC:∀c∈C,isD c=true)(hl:C.length≤9):
  loopG Tryz.prog (tab (n+2)) 0 44 (livesOf 149) 6 dva_C6 (dva_h6 str nat 0 1 (bs C) 0)=some (.exit 2,dva_o6a str nat (dgV C 0:Nat) ((10 ^ C.length:Nat):Int)):=by
 obtain ⟨b,L,hb,_⟩:=loopG_R (β:=Int × Int) (O:=tab (n+2)) (P:= Tryz.prog) (m:=0) (N:=44) (lives:=livesOf 149) (r:=6) (C:=dva_C6) (M:=C.length) (enc:=fun i b=>dva_h6 str nat b.1 b.2 (bs C) i) (exN:=.exit 2) (out:=fun b=>dva_o6a str nat b.1 b.2)
  (fun i b=>b=(((dgV (C.take i) 0:Nat):Int),((10 ^ i:Nat):Int))∧i≤C.length) (0,1) ⟨rfl,by omega⟩ (by omega) (fun h=>by cases h)
  (fun i b hi hI=>by
   obtain ⟨rfl,_⟩:=hI
   have hx:C[i]?=some C[i]:=List.getElem?_eq_getElem hi
   have ht:C.take (i+1)=C.take i++[C[i]]:=List.take_succ_eq_append_getElem hi
   have hm:C[i]∈C:=List.getElem_mem hi
   generalize C[i]=x at hx ht hm
   have hd:=(isD_num x).1 (hC x hm)
   have hb:=dgV_lt0 (C.take i) 0 0 (fun c hc=>hC c (List.mem_of_mem_take hc)) (by decide)
   have hb2:10 ^ (0+(C.take i).length)≤10 ^ 9:=Nat.pow_le_pow_right (by decide) (by rw [List.length_take];omega)
   have hb3:(10:Nat) ^ 9=1000000000:=by decide
   have hp:10 ^ i≤10 ^ 9:=Nat.pow_le_pow_right (by decide) (by omega)
   have e:dgV (C.take (i+1)) 0=dgV (C.take i) 0*10+(x.toNat-48):=by rw [ht,dgV_app];rfl
   have e2:10 ^ (i+1)=10 ^ i*10:=Nat.pow_succ ..
   have R:=dva_r6_1 (n:=n) (str_2:=str) (nat_2:=nat) (i_6:=((dgV (C.take i) 0:Nat):Int)) (i2_6:=((10 ^ i:Nat):Int)) (x9:=(x.toNat:Int)) (by rw [byL_len];omega) (byL_at hx) (wrU (by omega) (by omega)) (wrB (by omega) (by omega)) (wrU (by omega) (by omega)) (wrU (by omega) (by omega)) (wrU (by omega) (by omega)) ⟨by omega,by omega⟩
   refine ⟨(_,_),R,?_,by omega⟩
   rw [e,e2]
   congr 1
   omega)
  (fun b hI=>dva_x6_1 (by rw [byL_len];omega))
 rw [hb,List.take_length] at L
 exact L
theorem dva_c{D:List UInt8}(hD:∀c∈D,isD c=true)(hl:D.length≤1000):run (n+2) 149 [.lit (.string (bs D))]=some (natA (lmb (dgV D 0))):=by
 have h0:lmb (dgV (D.take (9*0)) 0)=[]:=by
  show lmb (dgV ([]:List UInt8) 0)=[]
  exact lmb_eq_nil.2 rfl
 obtain ⟨b,L,hb,_⟩:=loopG_R (β:=List Nat) (O:=tab (n+2)) (P:= Tryz.prog) (m:=0) (N:=44) (lives:=livesOf 149) (r:=2) (C:=dva_C2) (M:=(D.length+8) / 9) (enc:=fun i b=>dva_h2 (bs (D.drop (9*i))) b) (exN:=.exit 0) (out:=fun b=>dva_o2a b)
  (fun i b=>b=lmb (dgV (D.take (9*i)) 0)∧i≤(D.length+8) / 9) [] ⟨h0.symm,by omega⟩ (by omega) (fun h=>by cases h)
  (fun i b hi hI=>by
   obtain ⟨rfl,_⟩:=hI
   have hlt:9*i<D.length:=by omega
   have ht:D.take (9*(i+1))=D.take (9*i)++(D.drop (9*i)).take 9:=by rw [Nat.mul_add,Nat.mul_one,List.take_add]
   have hr:D.drop (9*(i+1))=(D.drop (9*i)).drop 9:=by rw [List.drop_drop];congr 1
   have hS:∀c∈D.drop (9*i),isD c=true:=fun c hc=>hD c (List.mem_of_mem_drop hc)
   have hsl:(D.drop (9*i)).length=D.length-9*i:=List.length_drop ..
   have hTd:∀c∈D.take (9*i),isD c=true:=fun c hc=>hD c (List.mem_of_mem_take hc)
   have hlT:=lmb_dg hTd (m:=1000) (by rw [List.length_take];omega)
   generalize D.drop (9*i)=S at ht hr hS hsl
   have hs:(bs S).size=S.length:=bs_size _
   have hm:(if 9<((bs S).size:Int) then 9 else ((bs S).size:Int))=((min S.length 9:Nat):Int):=by rw [hs];split <;>omega
   have e9:S.take 9=S.take (min S.length 9):=by
    by_cases h:S.length≤9
    ·rw [Nat.min_eq_left h,List.take_length,List.take_of_length_le h]
    ·rw [Nat.min_eq_right (by omega)]
   have d9:S.drop 9=S.drop (min S.length 9):=by
    by_cases h:S.length≤9
    ·rw [Nat.min_eq_left h,List.drop_length,List.drop_of_length_le h]
    ·rw [Nat.min_eq_right (by omega)]
   have hC:∀c∈S.take (min S.length 9),isD c=true:=fun c hc=>hS c (List.mem_of_mem_take hc)
   have hCl:(S.take (min S.length 9)).length=min S.length 9:=by rw [List.length_take];omega
   have L4:=dva_in (n:=n) (str:=bs S) (nat:=lmb (dgV (D.take (9*i)) 0)) hC (by omega)
   have hb:=dgV_lt0 (S.take (min S.length 9)) 0 0 hC (by decide)
   rw [hCl] at hb L4
   have hp:10 ^ (min S.length 9)≤10 ^ 9:=Nat.pow_le_pow_right (by decide) (by omega)
   have hb3:(10:Nat) ^ 9=1000000000:=by decide
   rw [Nat.zero_add] at hb
   have K5:=k_ofu (z:=((10 ^ (min S.length 9):Nat):Int)) (by omega) (by omega)
   have K7:=k_ofu (z:=((dgV (S.take (min S.length 9)) 0:Nat):Int)) (by omega) (by omega)
   rw [Int.toNat_natCast] at K5 K7
   have l1:(lmb (10 ^ (min S.length 9))).length≤1:=lmb_len_le (by omega)
   have l2:(lmb (dgV (S.take (min S.length 9)) 0)).length≤1:=lmb_len_le (by omega)
   have K6:=kmul (a:=dgV (D.take (9*i)) 0) (b:=10 ^ (min S.length 9)) (by omega) (by omega)
   have l3:=lmb_len_mul (dgV (D.take (9*i)) 0) (10 ^ (min S.length 9))
   have K8:=kadd (a:=dgV (D.take (9*i)) 0*10 ^ (min S.length 9)) (b:=dgV (S.take (min S.length 9)) 0) (by omega) (by omega)
   have e:dgV (D.take (9*(i+1))) 0=dgV (D.take (9*i)) 0*10 ^ (min S.length 9)+dgV (S.take (min S.length 9)) 0:=by
    rw [ht,dgV_app,dgV_lin,e9,hCl]
   have D2:bs (S.take (min S.length 9))=(bs S).extract 0 ((if 9<((bs S).size:Int) then 9 else ((bs S).size:Int)).toNat):=by rw [hm,Int.toNat_natCast];exact (bs_to S _).symm
   have D9:bs (S.drop (min S.length 9))=(bs S).extract ((if 9<((bs S).size:Int) then 9 else ((bs S).size:Int)).toNat) (bs S).size:=by rw [hm,Int.toNat_natCast];exact (bs_from S _).symm
   refine ⟨_,?_,rfl,by omega⟩
   rw [e,hr,d9]
   exact dva_r2_1 (by omega) ⟨by omega,by rw [hm];omega,by rw [hm];omega⟩ D2 L4 K5 K6 K7 K8 ⟨by rw [hm];omega,by rw [hm];omega,by omega⟩ D9)
  (fun b hI=>dva_x2_1 (by rw [bs_size,List.length_drop];omega))
 rw [hb] at L
 have e:D.take (9*((D.length+8) / 9))=D:=List.take_of_length_le (by omega)
 rw [e] at L
 exact dva_f1 L
def pB4(L:List UInt8)(i k:Nat):AB:=.box 120 [.lit (.string (bs L)),.lit (.int .i64 (i:Int)),.lit (.int .i64 (k:Int))] false
theorem dis_c{L:List UInt8}{i k:Nat}(c:UInt8)(hL:L.length≤100000)(hi:i≤L.length):runL n 147 [.ptr 0 0,.lit (.int .u8 (c.toNat:Int))] [pB4 L i k]=some (.lit (.bool (decide (L[i]?=some c))),[(0,pB4 L (if L[i]?=some c then i+1 else i) k)]):=by
 have hs:(bs L).size=L.length:=bs_size _
 by_cases h:i<L.length
 ·obtain ⟨b,hb⟩:∃b,L[i]?=some b:=⟨_,List.getElem?_eq_getElem h⟩
  have E:(bs L)[((i:Int)).toNat]?=some b:=by rw [Int.toNat_natCast,bs_at];exact hb
  by_cases hc:b=c
  ·subst hc
   rw [decide_eq_true hb,if_pos hb]
   have R:=dis_f1 (n:=n) (a0:=⟨bs L,i,k⟩) (a1:=(b.toNat:Int)) (b:=b) (by show (i:Int)<((bs L).size:Int);omega) E (by show (0:Int)≤i;omega) rfl ⟨by show _≤(i:Int)+1;omega,by show (i:Int)+1≤_;omega⟩
   unfold pB4
   rw [show ((i+1:Nat):Int)=(i:Int)+1 by omega]
   exact R
  ·have hn:¬L[i]?=some c:=fun h9=>by rw [hb] at h9;exact hc (Option.some.inj h9)
   rw [decide_eq_false hn,if_neg hn]
   exact dis_f2 (n:=n) (a0:=⟨bs L,i,k⟩) (a1:=(c.toNat:Int)) (b:=b) (by show (i:Int)<((bs L).size:Int);omega) E (by show (0:Int)≤i;omega) (fun h9=>hc (UInt8.toNat_inj.1 (by omega)))
 ·have hn:¬L[i]?=some c:=by rw [List.getElem?_eq_none (by omega)];simp
  rw [decide_eq_false hn,if_neg hn]
  exact dis_f3 (n:=n) (a0:=⟨bs L,i,k⟩) (a1:=(c.toNat:Int)) (by show ¬(i:Int)<((bs L).size:Int);omega)
theorem tw_at:∀(M:List UInt8),(∀j,j<(M.takeWhile isD).length→∃b,M[j]?=some b∧isD b=true)∧∀b,M[(M.takeWhile isD).length]?=some b→isD b=false
 | []=>⟨fun j hj=>by simp at hj,fun b hb=>by simp at hb⟩
 | c::M=>by
   obtain ⟨h1,h2⟩:=tw_at M
   cases hc:isD c with
   | false=>
     rw [List.takeWhile_cons,hc]
     exact ⟨fun j hj=>by simp at hj,fun b hb=>by cases hb;exact hc⟩
   | true=>
     rw [List.takeWhile_cons,hc]
     refine ⟨fun j hj=>?_,fun b hb=>h2 b (by simpa using hb)⟩
     cases j with
     | zero=>exact ⟨c,rfl,hc⟩
     | succ j=>exact h1 j (by simpa using hj)
def dgF(L:List UInt8)(i:Nat):List UInt8:=(L.drop i).takeWhile isD
theorem dgF_len(L:List UInt8)(i:Nat)(hi:i≤L.length):i+(dgF L i).length≤L.length:=by
 have h:=(List.takeWhile_sublist (p:=isD) (l:=L.drop i)).length_le
 rw [List.length_drop] at h
 unfold dgF
 omega
theorem dgF_take(L:List UInt8)(i:Nat):(L.drop i).take (dgF L i).length=dgF L i:=by
 have h:L.drop i=dgF L i++(L.drop i).dropWhile isD:=(List.takeWhile_append_dropWhile).symm
 conv=>lhs;rw [h]
 exact List.take_left' rfl
theorem dgF_rest(L:List UInt8)(i:Nat):L.drop (i+(dgF L i).length)=(L.drop i).dropWhile isD:=by
 have h:L.drop i=dgF L i++(L.drop i).dropWhile isD:=(List.takeWhile_append_dropWhile).symm
 rw [←List.drop_drop]
 conv=>lhs;rw [h]
 exact List.drop_left' rfl
theorem ddg_c{L:List UInt8}{i k:Nat}(hL:L.length+k≤3000)(hi:i≤L.length):runL n 148 [.ptr 0 0] [pB4 L i k]=
  some (.tup [.lit (.string (bs (dgF L i))),.lit (.int .i64 (if dgF L i=[] then 4 else 0))],[(0,pB4 L (i+(dgF L i).length) (k+(dgF L i).length))]):=by
 have hs:(bs L).size=L.length:=bs_size _
 obtain ⟨t1,t2⟩:=tw_at (L.drop i)
 have hle:=dgF_len L i hi
 have htk:=dgF_take L i
 have hD:(L.drop i).takeWhile isD=dgF L i:=rfl
 rw [hD] at t1 t2
 generalize dgF L i=D at t1 t2 hle htk
 have at_:∀j,(bs L)[(((i+j:Nat):Int)).toNat]?=(L.drop i)[j]?:=fun j=>by rw [Int.toNat_natCast,bs_at,List.getElem?_drop]
 obtain ⟨b,L1,_⟩:=loopG_R (β:=Unit) (O:=tab n) (P:= Tryz.prog) (m:=1) (N:=78) (lives:=livesOf 148) (r:=2) (C:=ddg_C2) (M:=D.length) (enc:=fun j _=>ddg_h2 ⟨bs L,(i:Int),(k:Int)⟩ ((i+j:Nat):Int) ((k+j:Nat):Int)) (exN:=.exit 0) (out:=fun _=>ddg_o2b ⟨bs L,(i:Int),(k:Int)⟩ ((i+D.length:Nat):Int) ((k+D.length:Nat):Int))
  (fun i b=>True) () trivial (by omega) (fun h=>by cases h)
  (fun j b hj hI=>by
   obtain ⟨x,h1,h2⟩:=t1 j hj
   have hd:=(isD_num x).1 h2
   have R:=ddg_r2_1 (n:=n) (a0:=⟨bs L,(i:Int),(k:Int)⟩) (i_2:=((i+j:Nat):Int)) (i2_2:=((k+j:Nat):Int)) (b3:=x) (by show _<((bs L).size:Int);omega) (by show (bs L)[_]?=_;rw [at_];exact h1) (by omega) (by omega) (by omega) (by omega) ⟨by omega,by omega⟩ ⟨by omega,by omega⟩
   exact ⟨(),R,trivial⟩)
  (fun b hI=>by
   by_cases hlt:i+D.length<L.length
   ·obtain ⟨x,hx⟩:∃x,(L.drop i)[D.length]?=some x:=⟨_,List.getElem?_eq_getElem (by rw [List.length_drop];omega)⟩
    have hd:=t2 x hx
    have hnd:¬(48≤x.toNat∧x.toNat≤57):=fun h=>by rw [(isD_num x).2 h] at hd;cases hd
    by_cases h48:48≤x.toNat
    ·exact ddg_x2_2 (n:=n) (a0:=⟨bs L,(i:Int),(k:Int)⟩) (b3:=x) (by show _<((bs L).size:Int);omega) (by show (bs L)[_]?=_;rw [at_];exact hx) (by omega) (by omega) (by omega)
    ·exact ddg_x2_3 (n:=n) (a0:=⟨bs L,(i:Int),(k:Int)⟩) (b3:=x) (by show _<((bs L).size:Int);omega) (by show (bs L)[_]?=_;rw [at_];exact hx) (by omega) (by omega)
   ·exact ddg_x2_4 (n:=n) (a0:=⟨bs L,(i:Int),(k:Int)⟩) (by show ¬_<((bs L).size:Int);omega))
 by_cases h0:D=[]
 ·subst h0
  exact ddg_f2 (n:=n) (a0:=⟨bs L,(i:Int),(k:Int)⟩) L1 rfl
 ·have hp:0<D.length:=List.length_pos_iff.2 h0
  rw [if_neg h0]
  refine ddg_f3 (n:=n) (a0:=⟨bs L,(i:Int),(k:Int)⟩) L1 (by show ¬_=(i:Int);omega) ⟨by show (0:Int)≤i;omega,by show (i:Int)≤_;omega,by show _≤((bs L).size:Int);omega⟩ ?_
  show bs D=(bs L).extract ((i:Int)).toNat _
  rw [Int.toNat_natCast,Int.toNat_natCast,bs_cut,show i+D.length-i=D.length by omega,htk]
end
end
section
open Go.RowKit
section
variable {a1 : List Nat} {n : Nat} {r : List Nat} {a0 : Bool}
theorem fmk2_f1(K1:(oN1 (fun _=>true) fun x=>natA (lmb (val x))) [natA a1]=some (natA r))(C2:a0=true):
  run (n+1) 91 [.lit (.bool a0),natA a1]=some (.agg [.lit (.bool (decide (0<(r.length:Int)))),natA r]):=by
 unfold run fnP
 simp+decide [Tryz.f91,K1,C2]
theorem fmk2_f2(K1:(oN1 (fun _=>true) fun x=>natA (lmb (val x))) [natA a1]=some (natA r))(C2:a0=false):
  run (n+1) 91 [.lit (.bool a0),natA a1]=some (.agg [.lit (.bool false),natA r]):=by
 unfold run fnP
 simp+decide [Tryz.f91,K1,C2]
end
section
variable {a1 : TInt} {n : Nat} {r : Int} {a0 : TInt} {r2 : Rat}
section
variable(K1:run (n+5) 112 [.agg [.lit (.bool a1.Neg),natA a1.Mag]]=some (.lit (.int .i64 r)))
include K1
theorem fmk3_f1(C2:r=0):
  run (n+6) 68 [.agg [.lit (.bool a0.Neg),natA a0.Mag],.agg [.lit (.bool a1.Neg),natA a1.Mag]]=some (.tup [.agg [.lit (.bool false),.sl 1 [],.sl 1 []],.lit (.int .i64 3)]):=by
 have C2_:(r==0)=true:=by rw [C2];simp
 have C2_n:(r !=0)=false:=by rw [C2];simp
 unfold run fnP
 simp+decide [Tryz.f68,K1,C2_,C2_n]
theorem fmk3_f2(C2:¬r=0)(K3:(oQt) [.lit (.bool (!(a0.Neg==a1.Neg))),natA a0.Mag,natA a1.Mag]=some (ratV r2)):
  run (n+6) 68 [.agg [.lit (.bool a0.Neg),natA a0.Mag],.agg [.lit (.bool a1.Neg),natA a1.Mag]]=some (.tup [ratV r2,.lit (.int .i64 0)]):=by
 have C2_:(r==0)=false:=by simpa using C2
 have C2_n:(r !=0)=true:=by simpa using C2
 simp only [ratV] at K3
 unfold run fnP
 simp+decide [Tryz.f68,K1,C2_,C2_n,K3]
end
end
section
variable {n : Nat} {r : TInt} {a0 : TInt}
section
variable(K1:run (n+1) 91 [.lit (.bool a0.Neg),natA a0.Mag]=some (.agg [.lit (.bool r.Neg),natA r.Mag]))
include K1
theorem fsg2_f1(C2:(r.Mag.length:Int)=0):
  run (n+2) 112 [.agg [.lit (.bool a0.Neg),natA a0.Mag]]=some (.lit (.int .i64 0)):=by
 have C2_:((r.Mag.length:Int)==0)=true:=by rw [C2];simp
 have C2_n:((r.Mag.length:Int) !=0)=false:=by rw [C2];simp
 have C2_l:¬0<(r.Mag.length:Int):=by omega
 unfold run fnP
 simp+decide [Tryz.f112,K1,C2_,C2_n,C2_l]
theorem fsg2_f3(C2:¬(r.Mag.length:Int)=0)(C3:r.Neg=false):
  run (n+2) 112 [.agg [.lit (.bool a0.Neg),natA a0.Mag]]=some (.lit (.int .i64 1)):=by
 have C2_:((r.Mag.length:Int)==0)=false:=by simpa using C2
 have C2_n:((r.Mag.length:Int) !=0)=true:=by simpa using C2
 have C2_l:0<(r.Mag.length:Int):=by omega
 unfold run fnP
 simp+decide [Tryz.f112,K1,C2_,C2_n,C2_l,C3]
end
end
end
end Go.Proofs.YtnegdhjdienjlaaGreatDoor
