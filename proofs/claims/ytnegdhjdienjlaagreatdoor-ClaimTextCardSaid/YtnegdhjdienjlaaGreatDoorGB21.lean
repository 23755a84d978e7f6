import Derived.Test.YtnegdhjdienjlaaGreatDoorGB16
import Derived.Test.YtnegdhjdienjlaaGreatDoorGB17
import Derived.Test.YtnegdhjdienjlaaGreatDoorGB20
import Derived.Test.YtnegdhjdienjlaaGreatDoorGB18
set_option exponentiation.threshold 400
set_option linter.all false
set_option maxHeartbeats 6400000
set_option maxRecDepth 100000
namespace Go.Proofs.YtnegdhjdienjlaaGreatDoor
section
open Go.RowKit
section
variable{r4:Bool}{r3:ByteArray}{n:Nat}{r2:Bool}{z2:Int}{z:Int}{a1:Form}{a0:Tparser}{r:List Nat}{a2:Bool}{z4:Int}{z5:Int}{r7:ByteArray}{r6:Bool}{z3:Int}{z6:Int}{r8:Bool}{r5:List Nat}{z7:Int}{r11:Form}{r9:List Nat}{r10:Bool}{z8:Int}{z12:Int}{r14:Int}{z9:Int}{r15:Bool}{r16:Form}{R:List (Int × Rat)}{z10:Int}{r12:Bool}{r13:Form}{r18:Bool}{z11:Int}{z13:Int}{r17:Int}{r19:Form}{R2:List (Int × Rat)}{r21:Bool}{z14:Int}{r20:Int}{r22:Form}{R3:List (Int × Rat)}
section
variable(K1:(oU fun k=>natA (lmb k)) [.lit (.int .u64 1)]=some (natA r))(K2:runL (n+9) 176 [.ptr 0 0,.lit (.string (⟨#[120]⟩:ByteArray))] [.box 201 [.lit (.string a0.s),.lit (.int .i64 (a0.at_))] false]=some (.lit (.bool r2),[(0,.box 201 [.lit (.string a0.s),.lit (.int .i64 z)] false)]))
include K1 K2
section
variable(C3:r2=false)(K4:runL (n+9) 221 [.ptr 0 0,.lit (.int .i64 200),.lit (.bool true)] [.box 201 [.lit (.string a0.s),.lit (.int .i64 z)] false]=some (.tup [.lit (.string r3),.lit (.bool r4)],[(0,.box 201 [.lit (.string a0.s),.lit (.int .i64 z2)] false)]))
include C3 K4
theorem lpa_f1(C5:r4=false):
  runL (n+10) 177 [.ptr 0 0,formV a1,.lit (.bool a2)] [.box 201 [.lit (.string a0.s),.lit (.int .i64 (a0.at_))] false]=some (.tup [formV a1,.lit (.bool false)],[(0,.box 201 [.lit (.string a0.s),.lit (.int .i64 z2)] false)]):=by
 rw [C3] at K2
 rw [C5] at K4
 unfold runL fnL
 simp+decide [Tryz.f177,K1,K2,C3,K4,C5]
section
variable(C5:r4=true)(K6:run (n+9) 222 [.lit (.string r3)]=some (natA r5))(K7:runL (n+9) 175 [.ptr 0 0] [.box 201 [.lit (.string a0.s),.lit (.int .i64 z2)] false]=some (.tup [],[(0,.box 201 [.lit (.string a0.s),.lit (.int .i64 z3)] false)]))(K8:runL (n+9) 176 [.ptr 0 0,.lit (.string (⟨#[47]⟩:ByteArray))] [.box 201 [.lit (.string a0.s),.lit (.int .i64 z3)] false]=some (.lit (.bool r6),[(0,.box 201 [.lit (.string a0.s),.lit (.int .i64 z4)] false)]))
include C5 K6 K7 K8
section
variable(C9:r6=true)(W10:InI (z4+1))(K11:runL (n+9) 175 [.ptr 0 0] [.box 201 [.lit (.string a0.s),.lit (.int .i64 (z4+1))] false]=some (.tup [],[(0,.box 201 [.lit (.string a0.s),.lit (.int .i64 z5)] false)]))(K12:runL (n+9) 221 [.ptr 0 0,.lit (.int .i64 200),.lit (.bool false)] [.box 201 [.lit (.string a0.s),.lit (.int .i64 z5)] false]=some (.tup [.lit (.string r7),.lit (.bool r8)],[(0,.box 201 [.lit (.string a0.s),.lit (.int .i64 z6)] false)]))
include C9 W10 K11 K12
theorem lpa_f2(C13:r8=false):
  runL (n+10) 177 [.ptr 0 0,formV a1,.lit (.bool a2)] [.box 201 [.lit (.string a0.s),.lit (.int .i64 (a0.at_))] false]=some (.tup [formV a1,.lit (.bool false)],[(0,.box 201 [.lit (.string a0.s),.lit (.int .i64 z6)] false)]):=by
 have W10_:IntKind.i64.wrap (z4+1)=z4+1:=wr64 W10.1 W10.2
 rw [C3] at K2
 rw [C5] at K4
 rw [C9] at K8
 rw [C13] at K12
 unfold runL fnL
 simp+decide [Tryz.f177,K1,K2,C3,K4,C5,K6,K7,K8,C9,W10_,K11,K12,C13]
section
variable(C13:r8=true)(K14:run (n+9) 222 [.lit (.string r7)]=some (natA r9))(K15:runL (n+9) 175 [.ptr 0 0] [.box 201 [.lit (.string a0.s),.lit (.int .i64 z6)] false]=some (.tup [],[(0,.box 201 [.lit (.string a0.s),.lit (.int .i64 z7)] false)]))(K16:runL (n+9) 176 [.ptr 0 0,.lit (.string (⟨#[42]⟩:ByteArray))] [.box 201 [.lit (.string a0.s),.lit (.int .i64 z7)] false]=some (.lit (.bool r10),[(0,.box 201 [.lit (.string a0.s),.lit (.int .i64 z8)] false)]))
include C13 K14 K15 K16
theorem lpa_f3(C17:r10=false)(B18a:RawB (⟨a2,r5,r9⟩:Raw))(K19:run (n+9) 223 [formV a1,.agg [.sl 4 [],.lit (.bool (rawQ ((⟨a2,r5,r9⟩:Raw).q)).s),natA (rawQ ((⟨a2,r5,r9⟩:Raw).q)).l1,natA (rawQ ((⟨a2,r5,r9⟩:Raw).q)).l2]]=some (formV r11)):
  runL (n+10) 177 [.ptr 0 0,formV a1,.lit (.bool a2)] [.box 201 [.lit (.string a0.s),.lit (.int .i64 (a0.at_))] false]=some (.tup [formV r11,.lit (.bool true)],[(0,.box 201 [.lit (.string a0.s),.lit (.int .i64 z8)] false)]):=by
 have W10_:IntKind.i64.wrap (z4+1)=z4+1:=wr64 W10.1 W10.2
 have K18:=rr_canon B18a
 try dsimp only at K18
 try rw [show natA []=AV.sl 1 [] from rfl] at K18
 simp only [formV] at K19
 rw [C3] at K2
 rw [C5] at K4
 rw [C9] at K8
 rw [C13] at K12
 rw [C17] at K16
 unfold runL fnL
 simp+decide [Tryz.f177,K1,K2,C3,K4,C5,K6,K7,K8,C9,W10_,K11,K12,C13,K14,K15,K16,C17,K18,K19]
section
variable(C17:r10=true)(W18:InI (z8+1))(K19:runL (n+9) 175 [.ptr 0 0] [.box 201 [.lit (.string a0.s),.lit (.int .i64 (z8+1))] false]=some (.tup [],[(0,.box 201 [.lit (.string a0.s),.lit (.int .i64 z9)] false)]))(K20:runL (n+9) 224 [.ptr 0 0] [.box 201 [.lit (.string a0.s),.lit (.int .i64 z9)] false]=some (.tup [.lit (.int .i64 r14),.lit (.bool r15)],[(0,.box 201 [.lit (.string a0.s),.lit (.int .i64 z12)] false)]))
include C17 W18 K19 K20
theorem lpa_f4(C21:r15=false):
  runL (n+10) 177 [.ptr 0 0,formV a1,.lit (.bool a2)] [.box 201 [.lit (.string a0.s),.lit (.int .i64 (a0.at_))] false]=some (.tup [formV a1,.lit (.bool false)],[(0,.box 201 [.lit (.string a0.s),.lit (.int .i64 z12)] false)]):=by
 have W10_:IntKind.i64.wrap (z4+1)=z4+1:=wr64 W10.1 W10.2
 have W18_:IntKind.i64.wrap (z8+1)=z8+1:=wr64 W18.1 W18.2
 rw [C3] at K2
 rw [C5] at K4
 rw [C9] at K8
 rw [C13] at K12
 rw [C17] at K16
 rw [C21] at K20
 unfold runL fnL
 simp+decide [Tryz.f177,K1,K2,C3,K4,C5,K6,K7,K8,C9,W10_,K11,K12,C13,K14,K15,K16,C17,W18_,K19,K20,C21]
theorem lpa_f5(C21:r15=true)(K22:runL (n+9) 208 [.agg [.nl 4,.lit (.bool false),.nl 1,.nl 1],.lit (.int .i64 r14),.agg [.lit (.bool a2),natA r5,natA r9]] []=some (.agg [.nl 4,.lit (.bool false),.nl 1,.nl 1],[]))(K23:run (n+9) 223 [formV a1,.agg [.sl 4 [],.lit (.bool false),.sl 1 [],.sl 1 []]]=some (formV r16)):
  runL (n+10) 177 [.ptr 0 0,formV a1,.lit (.bool a2)] [.box 201 [.lit (.string a0.s),.lit (.int .i64 (a0.at_))] false]=some (.tup [formV r16,.lit (.bool true)],[(0,.box 201 [.lit (.string a0.s),.lit (.int .i64 z12)] false)]):=by
 have W10_:IntKind.i64.wrap (z4+1)=z4+1:=wr64 W10.1 W10.2
 have W18_:IntKind.i64.wrap (z8+1)=z8+1:=wr64 W18.1 W18.2
 simp only [formV] at K23
 rw [C3] at K2
 rw [C5] at K4
 rw [C9] at K8
 rw [C13] at K12
 rw [C17] at K16
 rw [C21] at K20
 unfold runL fnL
 simp+decide [Tryz.f177,K1,K2,C3,K4,C5,K6,K7,K8,C9,W10_,K11,K12,C13,K14,K15,K16,C17,W18_,K19,K20,C21,K22,K23]
theorem lpa_f6(C21:r15=true)(K22:runL (n+9) 208 [.agg [.nl 4,.lit (.bool false),.nl 1,.nl 1],.lit (.int .i64 r14),.agg [.lit (.bool a2),natA r5,natA r9]] []=some (.agg [.own 3 R.length,.lit (.bool false),.nl 1,.nl 1],[(3,.row 81 4 (R.map termC) 0)]))(K23:run (n+9) 223 [formV a1,.agg [.sl 4 (R.map termC),.lit (.bool false),.sl 1 [],.sl 1 []]]=some (formV r16)):
  runL (n+10) 177 [.ptr 0 0,formV a1,.lit (.bool a2)] [.box 201 [.lit (.string a0.s),.lit (.int .i64 (a0.at_))] false]=some (.tup [formV r16,.lit (.bool true)],[(0,.box 201 [.lit (.string a0.s),.lit (.int .i64 z12)] false)]):=by
 have W10_:IntKind.i64.wrap (z4+1)=z4+1:=wr64 W10.1 W10.2
 have W18_:IntKind.i64.wrap (z8+1)=z8+1:=wr64 W18.1 W18.2
 simp only [formV] at K23
 rw [C3] at K2
 rw [C5] at K4
 rw [C9] at K8
 rw [C13] at K12
 rw [C17] at K16
 rw [C21] at K20
 unfold runL fnL
 simp+decide [Tryz.f177,K1,K2,C3,K4,C5,K6,K7,K8,C9,W10_,K11,K12,C13,K14,K15,K16,C17,W18_,K19,K20,C21,K22,K23]
end
end
end
section
variable(C9:r6=false)(K10:runL (n+9) 176 [.ptr 0 0,.lit (.string (⟨#[42]⟩:ByteArray))] [.box 201 [.lit (.string a0.s),.lit (.int .i64 z4)] false]=some (.lit (.bool r12),[(0,.box 201 [.lit (.string a0.s),.lit (.int .i64 z10)] false)]))
include C9 K10
theorem lpa_f7(C11:r12=false)(B12a:RawB (⟨a2,r5,[]⟩:Raw))(K13:run (n+9) 223 [formV a1,.agg [.sl 4 [],.lit (.bool (rawQ ((⟨a2,r5,[]⟩:Raw).q)).s),natA (rawQ ((⟨a2,r5,[]⟩:Raw).q)).l1,natA (rawQ ((⟨a2,r5,[]⟩:Raw).q)).l2]]=some (formV r13)):
  runL (n+10) 177 [.ptr 0 0,formV a1,.lit (.bool a2)] [.box 201 [.lit (.string a0.s),.lit (.int .i64 (a0.at_))] false]=some (.tup [formV r13,.lit (.bool true)],[(0,.box 201 [.lit (.string a0.s),.lit (.int .i64 z10)] false)]):=by
 have K12:=rr_canon B12a
 try dsimp only at K12
 try rw [show natA []=AV.sl 1 [] from rfl] at K12
 simp only [formV] at K13
 rw [C3] at K2
 rw [C5] at K4
 rw [C9] at K8
 rw [C11] at K10
 unfold runL fnL
 simp+decide [Tryz.f177,K1,K2,C3,K4,C5,K6,K7,K8,C9,K10,C11,K12,K13]
section
variable(C11:r12=true)(W12:InI (z10+1))(K13:runL (n+9) 175 [.ptr 0 0] [.box 201 [.lit (.string a0.s),.lit (.int .i64 (z10+1))] false]=some (.tup [],[(0,.box 201 [.lit (.string a0.s),.lit (.int .i64 z11)] false)]))(K14:runL (n+9) 224 [.ptr 0 0] [.box 201 [.lit (.string a0.s),.lit (.int .i64 z11)] false]=some (.tup [.lit (.int .i64 r17),.lit (.bool r18)],[(0,.box 201 [.lit (.string a0.s),.lit (.int .i64 z13)] false)]))
include C11 W12 K13 K14
theorem lpa_f8(C15:r18=false):
  runL (n+10) 177 [.ptr 0 0,formV a1,.lit (.bool a2)] [.box 201 [.lit (.string a0.s),.lit (.int .i64 (a0.at_))] false]=some (.tup [formV a1,.lit (.bool false)],[(0,.box 201 [.lit (.string a0.s),.lit (.int .i64 z13)] false)]):=by
 have W12_:IntKind.i64.wrap (z10+1)=z10+1:=wr64 W12.1 W12.2
 rw [C3] at K2
 rw [C5] at K4
 rw [C9] at K8
 rw [C11] at K10
 rw [C15] at K14
 unfold runL fnL
 simp+decide [Tryz.f177,K1,K2,C3,K4,C5,K6,K7,K8,C9,K10,C11,W12_,K13,K14,C15]
theorem lpa_f9(C15:r18=true)(K16:runL (n+9) 208 [.agg [.nl 4,.lit (.bool false),.nl 1,.nl 1],.lit (.int .i64 r17),.agg [.lit (.bool a2),natA r5,.sl 1 []]] []=some (.agg [.nl 4,.lit (.bool false),.nl 1,.nl 1],[]))(K17:run (n+9) 223 [formV a1,.agg [.sl 4 [],.lit (.bool false),.sl 1 [],.sl 1 []]]=some (formV r19)):
  runL (n+10) 177 [.ptr 0 0,formV a1,.lit (.bool a2)] [.box 201 [.lit (.string a0.s),.lit (.int .i64 (a0.at_))] false]=some (.tup [formV r19,.lit (.bool true)],[(0,.box 201 [.lit (.string a0.s),.lit (.int .i64 z13)] false)]):=by
 have W12_:IntKind.i64.wrap (z10+1)=z10+1:=wr64 W12.1 W12.2
 simp only [formV] at K17
 rw [C3] at K2
 rw [C5] at K4
 rw [C9] at K8
 rw [C11] at K10
 rw [C15] at K14
 unfold runL fnL
 simp+decide [Tryz.f177,K1,K2,C3,K4,C5,K6,K7,K8,C9,K10,C11,W12_,K13,K14,C15,K16,K17]
theorem lpa_f10(C15:r18=true)(K16:runL (n+9) 208 [.agg [.nl 4,.lit (.bool false),.nl 1,.nl 1],.lit (.int .i64 r17),.agg [.lit (.bool a2),natA r5,.sl 1 []]] []=some (.agg [.own 3 R2.length,.lit (.bool false),.nl 1,.nl 1],[(3,.row 81 4 (R2.map termC) 0)]))(K17:run (n+9) 223 [formV a1,.agg [.sl 4 (R2.map termC),.lit (.bool false),.sl 1 [],.sl 1 []]]=some (formV r19)):
  runL (n+10) 177 [.ptr 0 0,formV a1,.lit (.bool a2)] [.box 201 [.lit (.string a0.s),.lit (.int .i64 (a0.at_))] false]=some (.tup [formV r19,.lit (.bool true)],[(0,.box 201 [.lit (.string a0.s),.lit (.int .i64 z13)] false)]):=by
 have W12_:IntKind.i64.wrap (z10+1)=z10+1:=wr64 W12.1 W12.2
 simp only [formV] at K17
 rw [C3] at K2
 rw [C5] at K4
 rw [C9] at K8
 rw [C11] at K10
 rw [C15] at K14
 unfold runL fnL
 simp+decide [Tryz.f177,K1,K2,C3,K4,C5,K6,K7,K8,C9,K10,C11,W12_,K13,K14,C15,K16,K17]
end
end
end
end
section
variable(C3:r2=true)(K4:runL (n+9) 224 [.ptr 0 0] [.box 201 [.lit (.string a0.s),.lit (.int .i64 z)] false]=some (.tup [.lit (.int .i64 r20),.lit (.bool r21)],[(0,.box 201 [.lit (.string a0.s),.lit (.int .i64 z14)] false)]))
include C3 K4
theorem lpa_f11(C5:r21=false):
  runL (n+10) 177 [.ptr 0 0,formV a1,.lit (.bool a2)] [.box 201 [.lit (.string a0.s),.lit (.int .i64 (a0.at_))] false]=some (.tup [formV a1,.lit (.bool false)],[(0,.box 201 [.lit (.string a0.s),.lit (.int .i64 z14)] false)]):=by
 rw [C3] at K2
 rw [C5] at K4
 unfold runL fnL
 simp+decide [Tryz.f177,K1,K2,C3,K4,C5]
theorem lpa_f12(C5:r21=true)(K6:runL (n+9) 208 [.agg [.nl 4,.lit (.bool false),.nl 1,.nl 1],.lit (.int .i64 r20),.agg [.lit (.bool a2),natA r,.sl 1 []]] []=some (.agg [.nl 4,.lit (.bool false),.nl 1,.nl 1],[]))(K7:run (n+9) 223 [formV a1,.agg [.sl 4 [],.lit (.bool false),.sl 1 [],.sl 1 []]]=some (formV r22)):
  runL (n+10) 177 [.ptr 0 0,formV a1,.lit (.bool a2)] [.box 201 [.lit (.string a0.s),.lit (.int .i64 (a0.at_))] false]=some (.tup [formV r22,.lit (.bool true)],[(0,.box 201 [.lit (.string a0.s),.lit (.int .i64 z14)] false)]):=by
 simp only [formV] at K7
 rw [C3] at K2
 rw [C5] at K4
 unfold runL fnL
 simp+decide [Tryz.f177,K1,K2,C3,K4,C5,K6,K7]
theorem lpa_f13(C5:r21=true)(K6:runL (n+9) 208 [.agg [.nl 4,.lit (.bool false),.nl 1,.nl 1],.lit (.int .i64 r20),.agg [.lit (.bool a2),natA r,.sl 1 []]] []=some (.agg [.own 3 R3.length,.lit (.bool false),.nl 1,.nl 1],[(3,.row 81 4 (R3.map termC) 0)]))(K7:run (n+9) 223 [formV a1,.agg [.sl 4 (R3.map termC),.lit (.bool false),.sl 1 [],.sl 1 []]]=some (formV r22)):
  runL (n+10) 177 [.ptr 0 0,formV a1,.lit (.bool a2)] [.box 201 [.lit (.string a0.s),.lit (.int .i64 (a0.at_))] false]=some (.tup [formV r22,.lit (.bool true)],[(0,.box 201 [.lit (.string a0.s),.lit (.int .i64 z14)] false)]):=by
 simp only [formV] at K7
 rw [C3] at K2
 rw [C5] at K4
 unfold runL fnL
 simp+decide [Tryz.f177,K1,K2,C3,K4,C5,K6,K7]
end
end
end
end
section
open Go.RowKit
theorem pt_new{n:Nat}{F:List (Int × Rat)}{v:Int}{q k:Rat}(hq:H q≤17179869184)(h0:q≠0)(hF:F.length≤10000000):
  runL n 208 [.agg [.own 0 F.length,.lit (.bool (rawQ k).s),natA (rawQ k).l1,natA (rawQ k).l2],.lit (.int .i64 v),.agg [.lit (.bool (rawQ q).s),natA (rawQ q).l1,natA (rawQ q).l2]] [.row 81 4 (F.map termC) 0]=some (.agg [.own 4 (F++[(v,q)]).length,.lit (.bool (rawQ k).s),natA (rawQ k).l1,natA (rawQ k).l2],[(4,.row 81 4 ((F++[(v,q)]).map termC) 0)]):=by
 unfold runL fnL
 have hs:=r_sign (p:=q) hq
 have hc:=r_canon (p:=q) hq
 have e2:(sgR q==0)=false:=by simpa using fun h=>h0 (sgR_eq_zero.1 h)
 have e3:(sgR q !=0)=true:=by simpa using fun h=>h0 (sgR_eq_zero.1 h)
 have hr:∀b,b≤10000→roomy (F.length+1) b=true:=fun b hb=>roomy_s (by omega) hb
 simp+decide [Tryz.f208,hs,hc,e2,e3,hr]
theorem pt_same{n:Nat}{F:List (Int × Rat)}{v:Int}{q k:Rat}(hq:H q≤17179869184)(h0:q=0):
  runL n 208 [.agg [.own 0 F.length,.lit (.bool (rawQ k).s),natA (rawQ k).l1,natA (rawQ k).l2],.lit (.int .i64 v),.agg [.lit (.bool (rawQ q).s),natA (rawQ q).l1,natA (rawQ q).l2]] [.row 81 4 (F.map termC) 0]=some (.agg [.own 0 F.length,.lit (.bool (rawQ k).s),natA (rawQ k).l1,natA (rawQ k).l2],[(0,.row 81 4 (F.map termC) 0)]):=by
 unfold runL fnL
 have hs:=r_sign (p:=q) hq
 have e2:(sgR q==0)=true:=by rw [sgR_eq_zero.2 h0];rfl
 have e3:(sgR q !=0)=false:=by rw [sgR_eq_zero.2 h0];rfl
 simp+decide [Tryz.f208,hs,e2,e3]
end
section
open Go.RowKit
noncomputable def mg_C3:Code:=(loopsOf (bodyOf Tryz.f155)).getD 0 .skip
def mg_h3(a0:Form)(a1:Form)(a2:Rat)(l_3:List (Int × Rat))(l2_3:List (Int × Rat))(out_3:List (Int × Rat)):St:=
 ⟨[(5,.ptr 0 0),(6,.ptr 1 0),(7,.ptr 2 0),(8,.sl 4 (l_3.map termC)),(9,.sl 4 (l2_3.map termC))],
  [(0,some (.box 25 [.lit (.bool (rawQ a2).s),natA (rawQ a2).l1,natA (rawQ a2).l2] false)),
   (1,some (.box 79 [.nl 4,.lit (.bool false),.nl 1,.nl 1] false)),
   (2,some (.box 79 [.own 3 out_3.length,.lit (.bool (rawQ (a0.2+(a1.2*a2))).s),natA (rawQ (a0.2+(a1.2*a2))).l1,natA (rawQ (a0.2+(a1.2*a2))).l2] false)),
   (3,some (.row 81 4 (out_3.map termC) 0))],4⟩
def mg_o3a(a0:Form)(a1:Form)(a2:Rat)(out_3:List (Int × Rat)):St:=
 ⟨[(6,.ptr 0 0),(7,.ptr 1 0)],
  [(0,some (.box 79 [.nl 4,.lit (.bool false),.nl 1,.nl 1] false)),
   (1,some (.box 79 [.own 2 out_3.length,.lit (.bool (rawQ (a0.2+(a1.2*a2))).s),natA (rawQ (a0.2+(a1.2*a2))).l1,natA (rawQ (a0.2+(a1.2*a2))).l2] false)),
   (2,some (.row 81 4 (out_3.map termC) 0))],3⟩
section
variable{q11:Rat}{n:Nat}{l_3:List (Int × Rat)}{l2_3:List (Int × Rat)}{v11:Int}{out_3:List (Int × Rat)}{a1:Form}{a0:Form}{a2:Rat}{R11:List (Int × Rat)}{q9:Rat}{q10:Rat}{v9:Int}{v10:Int}{R12:List (Int × Rat)}{R13:List (Int × Rat)}{R14:List (Int × Rat)}{v12:Int}{q12:Rat}{R15:List (Int × Rat)}
section
variable(C1:0<(l_3.length:Int))
include C1
theorem mg_r3_1(C2:(l2_3.length:Int)=0)(E3:l_3[0]?=some (v11,q11))(K4:runL n 208 [.agg [.own 0 out_3.length,.lit (.bool (rawQ (a0.2+(a1.2*a2))).s),natA (rawQ (a0.2+(a1.2*a2))).l1,natA (rawQ (a0.2+(a1.2*a2))).l2],.lit (.int .i64 v11),ratV q11] [.row 81 4 (out_3.map termC) 0]=some (.agg [.own 0 out_3.length,.lit (.bool (rawQ (a0.2+(a1.2*a2))).s),natA (rawQ (a0.2+(a1.2*a2))).l1,natA (rawQ (a0.2+(a1.2*a2))).l2],[(0,.row 81 4 (out_3.map termC) 0)]))(U5:0≤1∧1≤(l_3.length:Int)):
  Cont 0 (exec Tryz.prog (tab (n+1)) 0 113 (livesOf 155) big mg_C3) (livesOf 155 3) (mg_h3 a0 a1 a2 l_3 l2_3 out_3) (mg_h3 a0 a1 a2 (l_3.drop 1) l2_3 out_3):=by
 have C1_:0<l_3.length:=by omega
 have C1_z:(l_3.length:Int)≠0:=by omega
 have C1_e:((l_3.length:Int)==0)=false:=by simpa using C1_z
 have C1_g:((l_3.length:Int) !=0)=true:=by simpa using C1_z
 have C2_:((l2_3.length:Int)==0)=true:=by rw [C2];simp
 have C2_n:((l2_3.length:Int) !=0)=false:=by rw [C2];simp
 have C2_l:¬0<(l2_3.length:Int):=by omega
 obtain ⟨EL3,EG3⟩:=List.getElem?_eq_some_iff.1 E3
 simp only [ratV] at K4
 unfold Cont
 simp+decide [mg_h3,loopsOf, Tryz.f155,mg_C3,C1,C1_,C1_e,C1_g,C2_,C2_n,C2_l,EL3,EG3,E3,K4,U5]
theorem mg_r3_2(C2:(l2_3.length:Int)=0)(E3:l_3[0]?=some (v11,q11))(K4:runL n 208 [.agg [.own 0 out_3.length,.lit (.bool (rawQ (a0.2+(a1.2*a2))).s),natA (rawQ (a0.2+(a1.2*a2))).l1,natA (rawQ (a0.2+(a1.2*a2))).l2],.lit (.int .i64 v11),ratV q11] [.row 81 4 (out_3.map termC) 0]=some (.agg [.own 4 R11.length,.lit (.bool (rawQ (a0.2+(a1.2*a2))).s),natA (rawQ (a0.2+(a1.2*a2))).l1,natA (rawQ (a0.2+(a1.2*a2))).l2],[(4,.row 81 4 (R11.map termC) 0)]))(U5:0≤1∧1≤(l_3.length:Int)):
  Cont 0 (exec Tryz.prog (tab (n+1)) 0 113 (livesOf 155) big mg_C3) (livesOf 155 3) (mg_h3 a0 a1 a2 l_3 l2_3 out_3) (mg_h3 a0 a1 a2 (l_3.drop 1) l2_3 R11):=by
 have C1_:0<l_3.length:=by omega
 have C1_z:(l_3.length:Int)≠0:=by omega
 have C1_e:((l_3.length:Int)==0)=false:=by simpa using C1_z
 have C1_g:((l_3.length:Int) !=0)=true:=by simpa using C1_z
 have C2_:((l2_3.length:Int)==0)=true:=by rw [C2];simp
 have C2_n:((l2_3.length:Int) !=0)=false:=by rw [C2];simp
 have C2_l:¬0<(l2_3.length:Int):=by omega
 obtain ⟨EL3,EG3⟩:=List.getElem?_eq_some_iff.1 E3
 simp only [ratV] at K4
 unfold Cont
 simp+decide [mg_h3,loopsOf, Tryz.f155,mg_C3,C1,C1_,C1_e,C1_g,C2_,C2_n,C2_l,EL3,EG3,E3,K4,U5]
section
variable(C2:¬(l2_3.length:Int)=0)(E3:l_3[0]?=some (v9,q9))(E4:l2_3[0]?=some (v10,q10))
include C2 E3 E4
theorem mg_r3_3(C5:v9<v10)(K6:runL n 208 [.agg [.own 0 out_3.length,.lit (.bool (rawQ (a0.2+(a1.2*a2))).s),natA (rawQ (a0.2+(a1.2*a2))).l1,natA (rawQ (a0.2+(a1.2*a2))).l2],.lit (.int .i64 v9),ratV q9] [.row 81 4 (out_3.map termC) 0]=some (.agg [.own 0 out_3.length,.lit (.bool (rawQ (a0.2+(a1.2*a2))).s),natA (rawQ (a0.2+(a1.2*a2))).l1,natA (rawQ (a0.2+(a1.2*a2))).l2],[(0,.row 81 4 (out_3.map termC) 0)]))(U7:0≤1∧1≤(l_3.length:Int)):
  Cont 0 (exec Tryz.prog (tab (n+1)) 0 113 (livesOf 155) big mg_C3) (livesOf 155 3) (mg_h3 a0 a1 a2 l_3 l2_3 out_3) (mg_h3 a0 a1 a2 (l_3.drop 1) l2_3 out_3):=by
 have C1_:0<l_3.length:=by omega
 have C1_z:(l_3.length:Int)≠0:=by omega
 have C1_e:((l_3.length:Int)==0)=false:=by simpa using C1_z
 have C1_g:((l_3.length:Int) !=0)=true:=by simpa using C1_z
 have C2_:((l2_3.length:Int)==0)=false:=by simpa using C2
 have C2_n:((l2_3.length:Int) !=0)=true:=by simpa using C2
 have C2_l:0<(l2_3.length:Int):=by omega
 obtain ⟨EL3,EG3⟩:=List.getElem?_eq_some_iff.1 E3
 obtain ⟨EL4,EG4⟩:=List.getElem?_eq_some_iff.1 E4
 simp only [ratV] at K6
 unfold Cont
 simp+decide [mg_h3,loopsOf, Tryz.f155,mg_C3,C1,C1_,C1_e,C1_g,C2_,C2_n,C2_l,EL3,EG3,E3,EL4,EG4,E4,C5,K6,U7]
theorem mg_r3_4(C5:v9<v10)(K6:runL n 208 [.agg [.own 0 out_3.length,.lit (.bool (rawQ (a0.2+(a1.2*a2))).s),natA (rawQ (a0.2+(a1.2*a2))).l1,natA (rawQ (a0.2+(a1.2*a2))).l2],.lit (.int .i64 v9),ratV q9] [.row 81 4 (out_3.map termC) 0]=some (.agg [.own 4 R12.length,.lit (.bool (rawQ (a0.2+(a1.2*a2))).s),natA (rawQ (a0.2+(a1.2*a2))).l1,natA (rawQ (a0.2+(a1.2*a2))).l2],[(4,.row 81 4 (R12.map termC) 0)]))(U7:0≤1∧1≤(l_3.length:Int)):
  Cont 0 (exec Tryz.prog (tab (n+1)) 0 113 (livesOf 155) big mg_C3) (livesOf 155 3) (mg_h3 a0 a1 a2 l_3 l2_3 out_3) (mg_h3 a0 a1 a2 (l_3.drop 1) l2_3 R12):=by
 have C1_:0<l_3.length:=by omega
 have C1_z:(l_3.length:Int)≠0:=by omega
 have C1_e:((l_3.length:Int)==0)=false:=by simpa using C1_z
 have C1_g:((l_3.length:Int) !=0)=true:=by simpa using C1_z
 have C2_:((l2_3.length:Int)==0)=false:=by simpa using C2
 have C2_n:((l2_3.length:Int) !=0)=true:=by simpa using C2
 have C2_l:0<(l2_3.length:Int):=by omega
 obtain ⟨EL3,EG3⟩:=List.getElem?_eq_some_iff.1 E3
 obtain ⟨EL4,EG4⟩:=List.getElem?_eq_some_iff.1 E4
 simp only [ratV] at K6
 unfold Cont
 simp+decide [mg_h3,loopsOf, Tryz.f155,mg_C3,C1,C1_,C1_e,C1_g,C2_,C2_n,C2_l,EL3,EG3,E3,EL4,EG4,E4,C5,K6,U7]
theorem mg_r3_5(C5:¬v9<v10)(C6:v10<v9)(B7a:H q10≤17179869184)(B7b:H a2≤17179869184)(K8:runL n 208 [.agg [.own 0 out_3.length,.lit (.bool (rawQ (a0.2+(a1.2*a2))).s),natA (rawQ (a0.2+(a1.2*a2))).l1,natA (rawQ (a0.2+(a1.2*a2))).l2],.lit (.int .i64 v10),ratV (q10*a2)] [.row 81 4 (out_3.map termC) 0]=some (.agg [.own 0 out_3.length,.lit (.bool (rawQ (a0.2+(a1.2*a2))).s),natA (rawQ (a0.2+(a1.2*a2))).l1,natA (rawQ (a0.2+(a1.2*a2))).l2],[(0,.row 81 4 (out_3.map termC) 0)]))(U9:0≤1∧1≤(l2_3.length:Int)):
  Cont 0 (exec Tryz.prog (tab (n+1)) 0 113 (livesOf 155) big mg_C3) (livesOf 155 3) (mg_h3 a0 a1 a2 l_3 l2_3 out_3) (mg_h3 a0 a1 a2 l_3 (l2_3.drop 1) out_3):=by
 have C1_:0<l_3.length:=by omega
 have C1_z:(l_3.length:Int)≠0:=by omega
 have C1_e:((l_3.length:Int)==0)=false:=by simpa using C1_z
 have C1_g:((l_3.length:Int) !=0)=true:=by simpa using C1_z
 have C2_:((l2_3.length:Int)==0)=false:=by simpa using C2
 have C2_n:((l2_3.length:Int) !=0)=true:=by simpa using C2
 have C2_l:0<(l2_3.length:Int):=by omega
 obtain ⟨EL3,EG3⟩:=List.getElem?_eq_some_iff.1 E3
 obtain ⟨EL4,EG4⟩:=List.getElem?_eq_some_iff.1 E4
 have K7:=r_mul (p:=q10) (q:=a2) B7a B7b
 simp only [ratV] at K8
 unfold Cont
 simp+decide [mg_h3,loopsOf, Tryz.f155,mg_C3,C1,C1_,C1_e,C1_g,C2_,C2_n,C2_l,EL3,EG3,E3,EL4,EG4,E4,C5,C6,K7,K8,U9]
theorem mg_r3_6(C5:¬v9<v10)(C6:v10<v9)(B7a:H q10≤17179869184)(B7b:H a2≤17179869184)(K8:runL n 208 [.agg [.own 0 out_3.length,.lit (.bool (rawQ (a0.2+(a1.2*a2))).s),natA (rawQ (a0.2+(a1.2*a2))).l1,natA (rawQ (a0.2+(a1.2*a2))).l2],.lit (.int .i64 v10),ratV (q10*a2)] [.row 81 4 (out_3.map termC) 0]=some (.agg [.own 4 R13.length,.lit (.bool (rawQ (a0.2+(a1.2*a2))).s),natA (rawQ (a0.2+(a1.2*a2))).l1,natA (rawQ (a0.2+(a1.2*a2))).l2],[(4,.row 81 4 (R13.map termC) 0)]))(U9:0≤1∧1≤(l2_3.length:Int)):
  Cont 0 (exec Tryz.prog (tab (n+1)) 0 113 (livesOf 155) big mg_C3) (livesOf 155 3) (mg_h3 a0 a1 a2 l_3 l2_3 out_3) (mg_h3 a0 a1 a2 l_3 (l2_3.drop 1) R13):=by
 have C1_:0<l_3.length:=by omega
 have C1_z:(l_3.length:Int)≠0:=by omega
 have C1_e:((l_3.length:Int)==0)=false:=by simpa using C1_z
 have C1_g:((l_3.length:Int) !=0)=true:=by simpa using C1_z
 have C2_:((l2_3.length:Int)==0)=false:=by simpa using C2
 have C2_n:((l2_3.length:Int) !=0)=true:=by simpa using C2
 have C2_l:0<(l2_3.length:Int):=by omega
 obtain ⟨EL3,EG3⟩:=List.getElem?_eq_some_iff.1 E3
 obtain ⟨EL4,EG4⟩:=List.getElem?_eq_some_iff.1 E4
 have K7:=r_mul (p:=q10) (q:=a2) B7a B7b
 simp only [ratV] at K8
 unfold Cont
 simp+decide [mg_h3,loopsOf, Tryz.f155,mg_C3,C1,C1_,C1_e,C1_g,C2_,C2_n,C2_l,EL3,EG3,E3,EL4,EG4,E4,C5,C6,K7,K8,U9]
section
variable(C5:¬v9<v10)(C6:¬v10<v9)(B7a:H q10≤17179869184)(B7b:H a2≤17179869184)(B8a:H q9≤17179869184)(B8b:H (q10*a2)≤17179869184)
include C5 C6 B7a B7b B8a B8b
theorem mg_r3_7(K9:runL n 208 [.agg [.own 0 out_3.length,.lit (.bool (rawQ (a0.2+(a1.2*a2))).s),natA (rawQ (a0.2+(a1.2*a2))).l1,natA (rawQ (a0.2+(a1.2*a2))).l2],.lit (.int .i64 v9),ratV (q9+(q10*a2))] [.row 81 4 (out_3.map termC) 0]=some (.agg [.own 0 out_3.length,.lit (.bool (rawQ (a0.2+(a1.2*a2))).s),natA (rawQ (a0.2+(a1.2*a2))).l1,natA (rawQ (a0.2+(a1.2*a2))).l2],[(0,.row 81 4 (out_3.map termC) 0)]))(U10:0≤1∧1≤(l_3.length:Int))(U11:0≤1∧1≤(l2_3.length:Int)):
  Cont 0 (exec Tryz.prog (tab (n+1)) 0 113 (livesOf 155) big mg_C3) (livesOf 155 3) (mg_h3 a0 a1 a2 l_3 l2_3 out_3) (mg_h3 a0 a1 a2 (l_3.drop 1) (l2_3.drop 1) out_3):=by
 have C1_:0<l_3.length:=by omega
 have C1_z:(l_3.length:Int)≠0:=by omega
 have C1_e:((l_3.length:Int)==0)=false:=by simpa using C1_z
 have C1_g:((l_3.length:Int) !=0)=true:=by simpa using C1_z
 have C2_:((l2_3.length:Int)==0)=false:=by simpa using C2
 have C2_n:((l2_3.length:Int) !=0)=true:=by simpa using C2
 have C2_l:0<(l2_3.length:Int):=by omega
 obtain ⟨EL3,EG3⟩:=List.getElem?_eq_some_iff.1 E3
 obtain ⟨EL4,EG4⟩:=List.getElem?_eq_some_iff.1 E4
 have K7:=r_mul (p:=q10) (q:=a2) B7a B7b
 have K8:=r_add (p:=q9) (q:=q10*a2) B8a B8b
 simp only [ratV] at K9
 unfold Cont
 simp+decide [mg_h3,loopsOf, Tryz.f155,mg_C3,C1,C1_,C1_e,C1_g,C2_,C2_n,C2_l,EL3,EG3,E3,EL4,EG4,E4,C5,C6,K7,K8,K9,U10,U11]
theorem mg_r3_8(K9:runL n 208 [.agg [.own 0 out_3.length,.lit (.bool (rawQ (a0.2+(a1.2*a2))).s),natA (rawQ (a0.2+(a1.2*a2))).l1,natA (rawQ (a0.2+(a1.2*a2))).l2],.lit (.int .i64 v9),ratV (q9+(q10*a2))] [.row 81 4 (out_3.map termC) 0]=some (.agg [.own 4 R14.length,.lit (.bool (rawQ (a0.2+(a1.2*a2))).s),natA (rawQ (a0.2+(a1.2*a2))).l1,natA (rawQ (a0.2+(a1.2*a2))).l2],[(4,.row 81 4 (R14.map termC) 0)]))(U10:0≤1∧1≤(l_3.length:Int))(U11:0≤1∧1≤(l2_3.length:Int)):
  Cont 0 (exec Tryz.prog (tab (n+1)) 0 113 (livesOf 155) big mg_C3) (livesOf 155 3) (mg_h3 a0 a1 a2 l_3 l2_3 out_3) (mg_h3 a0 a1 a2 (l_3.drop 1) (l2_3.drop 1) R14):=by
 have C1_:0<l_3.length:=by omega
 have C1_z:(l_3.length:Int)≠0:=by omega
 have C1_e:((l_3.length:Int)==0)=false:=by simpa using C1_z
 have C1_g:((l_3.length:Int) !=0)=true:=by simpa using C1_z
 have C2_:((l2_3.length:Int)==0)=false:=by simpa using C2
 have C2_n:((l2_3.length:Int) !=0)=true:=by simpa using C2
 have C2_l:0<(l2_3.length:Int):=by omega
 obtain ⟨EL3,EG3⟩:=List.getElem?_eq_some_iff.1 E3
 obtain ⟨EL4,EG4⟩:=List.getElem?_eq_some_iff.1 E4
 have K7:=r_mul (p:=q10) (q:=a2) B7a B7b
 have K8:=r_add (p:=q9) (q:=q10*a2) B8a B8b
 simp only [ratV] at K9
 unfold Cont
 simp+decide [mg_h3,loopsOf, Tryz.f155,mg_C3,C1,C1_,C1_e,C1_g,C2_,C2_n,C2_l,EL3,EG3,E3,EL4,EG4,E4,C5,C6,K7,K8,K9,U10,U11]
end
end
end
theorem mg_r3_9(C1:¬0<(l_3.length:Int))(C2:0<(l2_3.length:Int))(E3:l2_3[0]?=some (v12,q12))(B4a:H q12≤17179869184)(B4b:H a2≤17179869184)(K5:runL n 208 [.agg [.own 0 out_3.length,.lit (.bool (rawQ (a0.2+(a1.2*a2))).s),natA (rawQ (a0.2+(a1.2*a2))).l1,natA (rawQ (a0.2+(a1.2*a2))).l2],.lit (.int .i64 v12),ratV (q12*a2)] [.row 81 4 (out_3.map termC) 0]=some (.agg [.own 0 out_3.length,.lit (.bool (rawQ (a0.2+(a1.2*a2))).s),natA (rawQ (a0.2+(a1.2*a2))).l1,natA (rawQ (a0.2+(a1.2*a2))).l2],[(0,.row 81 4 (out_3.map termC) 0)]))(U6:0≤1∧1≤(l2_3.length:Int)):
  Cont 0 (exec Tryz.prog (tab (n+1)) 0 113 (livesOf 155) big mg_C3) (livesOf 155 3) (mg_h3 a0 a1 a2 l_3 l2_3 out_3) (mg_h3 a0 a1 a2 l_3 (l2_3.drop 1) out_3):=by
 have C1_:¬0<l_3.length:=by omega
 have C1_z:(l_3.length:Int)=0:=by omega
 have C1_e:((l_3.length:Int)==0)=true:=by rw [C1_z];simp
 have C1_g:((l_3.length:Int) !=0)=false:=by rw [C1_z];simp
 have C2_:0<l2_3.length:=by omega
 have C2_z:(l2_3.length:Int)≠0:=by omega
 have C2_e:((l2_3.length:Int)==0)=false:=by simpa using C2_z
 have C2_g:((l2_3.length:Int) !=0)=true:=by simpa using C2_z
 obtain ⟨EL3,EG3⟩:=List.getElem?_eq_some_iff.1 E3
 have K4:=r_mul (p:=q12) (q:=a2) B4a B4b
 simp only [ratV] at K5
 unfold Cont
 simp+decide [mg_h3,loopsOf, Tryz.f155,mg_C3,C1,C1_,C1_e,C1_g,C2,C2_,C2_e,C2_g,EL3,EG3,E3,K4,K5,U6]
theorem mg_r3_10(C1:¬0<(l_3.length:Int))(C2:0<(l2_3.length:Int))(E3:l2_3[0]?=some (v12,q12))(B4a:H q12≤17179869184)(B4b:H a2≤17179869184)(K5:runL n 208 [.agg [.own 0 out_3.length,.lit (.bool (rawQ (a0.2+(a1.2*a2))).s),natA (rawQ (a0.2+(a1.2*a2))).l1,natA (rawQ (a0.2+(a1.2*a2))).l2],.lit (.int .i64 v12),ratV (q12*a2)] [.row 81 4 (out_3.map termC) 0]=some (.agg [.own 4 R15.length,.lit (.bool (rawQ (a0.2+(a1.2*a2))).s),natA (rawQ (a0.2+(a1.2*a2))).l1,natA (rawQ (a0.2+(a1.2*a2))).l2],[(4,.row 81 4 (R15.map termC) 0)]))(U6:0≤1∧1≤(l2_3.length:Int)):
  Cont 0 (exec Tryz.prog (tab (n+1)) 0 113 (livesOf 155) big mg_C3) (livesOf 155 3) (mg_h3 a0 a1 a2 l_3 l2_3 out_3) (mg_h3 a0 a1 a2 l_3 (l2_3.drop 1) R15):=by
 have C1_:¬0<l_3.length:=by omega
 have C1_z:(l_3.length:Int)=0:=by omega
 have C1_e:((l_3.length:Int)==0)=true:=by rw [C1_z];simp
 have C1_g:((l_3.length:Int) !=0)=false:=by rw [C1_z];simp
 have C2_:0<l2_3.length:=by omega
 have C2_z:(l2_3.length:Int)≠0:=by omega
 have C2_e:((l2_3.length:Int)==0)=false:=by simpa using C2_z
 have C2_g:((l2_3.length:Int) !=0)=true:=by simpa using C2_z
 obtain ⟨EL3,EG3⟩:=List.getElem?_eq_some_iff.1 E3
 have K4:=r_mul (p:=q12) (q:=a2) B4a B4b
 simp only [ratV] at K5
 unfold Cont
 simp+decide [mg_h3,loopsOf, Tryz.f155,mg_C3,C1,C1_,C1_e,C1_g,C2,C2_,C2_e,C2_g,EL3,EG3,E3,K4,K5,U6]
theorem mg_x3_1(C1:¬0<(l_3.length:Int))(C2:¬0<(l2_3.length:Int)):
  Leave 0 (exec Tryz.prog (tab (n+1)) 0 113 (livesOf 155) big mg_C3) (livesOf 155 (outOf 3)) (mg_h3 a0 a1 a2 l_3 l2_3 out_3) (.exit 0) (mg_o3a a0 a1 a2 out_3):=by
 have C1_:¬0<l_3.length:=by omega
 have C1_z:(l_3.length:Int)=0:=by omega
 have C1_e:((l_3.length:Int)==0)=true:=by rw [C1_z];simp
 have C1_g:((l_3.length:Int) !=0)=false:=by rw [C1_z];simp
 have C2_:¬0<l2_3.length:=by omega
 have C2_z:(l2_3.length:Int)=0:=by omega
 have C2_e:((l2_3.length:Int)==0)=true:=by rw [C2_z];simp
 have C2_g:((l2_3.length:Int) !=0)=false:=by rw [C2_z];simp
 unfold Leave
 simp+decide [mg_h3,loopsOf, Tryz.f155,mg_o3a,mg_C3,C1,C1_,C1_e,C1_g,C2,C2_,C2_e,C2_g]
theorem mg_f1(B1a:H a1.2≤17179869184)(B1b:H a2≤17179869184)(B2a:H a0.2≤17179869184)(B2b:H (a1.2*a2)≤17179869184)(L3:loopG Tryz.prog (tab (n+1)) 0 113 (livesOf 155) 3 mg_C3 (mg_h3 a0 a1 a2 a0.1 a1.1 [])=some (.exit 0,mg_o3a a0 a1 a2 out_3)):
  run (n+1) 155 [formV a0,formV a1,ratV a2]=some (formV (out_3,a0.2+(a1.2*a2))):=by
 have K1:=r_mul (p:=a1.2) (q:=a2) B1a B1b
 have K2:=r_add (p:=a0.2) (q:=a1.2*a2) B2a B2b
 unfold run fnP
 simp+decide [Tryz.f155,K1,K2]
 rw [loopX_G (C':=mg_C3) (e:=(mg_h3 a0 a1 a2 a0.1 a1.1 [])) ?_ ?_,L3]
 rotate_left
 ·kernel_rfl
 ·simp+decide [mg_h3,K1,K2]
 simp+decide [mg_o3a,K1,K2]
end
theorem lad_f1{n:Nat}{a0:Form}{a1:Form}{r:Form}(K2:run (n+1) 155 [formV a0,formV a1,ratV (ofQ 1)]=some (formV r)):
  run (n+2) 223 [formV a0,formV a1]=some (formV r):=by
 have K1:=r_ofq (z:=1) (by omega) (by omega)
 simp only [ratV,formV] at K2
 unfold run fnP
 simp+decide [Tryz.f223,K1,K2]
theorem lsu_f1{n:Nat}{a0:Form}{a1:Form}{r:Form}(K2:run (n+1) 155 [formV a0,formV a1,ratV (ofQ (-1))]=some (formV r)):
  run (n+2) 92 [formV a0,formV a1]=some (formV r):=by
 have K1:=r_ofq (z:=(-1)) (by omega) (by omega)
 simp only [ratV,formV] at K2
 unfold run fnP
 simp+decide [Tryz.f92,K1,K2]
end
section
open Go.RowKit
attribute [local irreducible] run runL loopG exec
def mgK:List (Int × Rat)→List (Int × Rat)→Nat
 | [],m=>m.length
 | a::l,[]=>(a::l).length
 | a::l,b::m=>1+if a.1<b.1 then mgK l (b::m) else if b.1<a.1 then mgK (a::l) m else mgK l m
termination_by l m=>l.length+m.length
theorem mgK_nil(m:List (Int × Rat)):mgK [] m=m.length:=by rw [mgK]
theorem mgK_a(a:Int × Rat)(l:List (Int × Rat)):mgK (a::l) []=l.length+1:=by rw [mgK];rfl
theorem mgK_ab(a b:Int × Rat)(l m:List (Int × Rat)):mgK (a::l) (b::m)=1+if a.1<b.1 then mgK l (b::m) else if b.1<a.1 then mgK (a::l) m else mgK l m:=by rw [mgK]
theorem mgK_one(l:List (Int × Rat)):mgK l []=l.length:=by cases l;exact mgK_nil [];exact mgK_a _ _
theorem mgK_le:∀(k:Nat) (l m:List (Int × Rat)),l.length+m.length≤k→mgK l m≤l.length+m.length
 | k,[],m,h=>by rw [mgK_nil];simp
 | k,a::l,[],h=>by rw [mgK_a];simp
 | 0,a::l,b::m,h=>by simp at h
 | k+1,a::l,b::m,h=>by
   simp only [List.length_cons] at h
   have h1:=mgK_le k l (b::m) (by simp <;>omega)
   have h2:=mgK_le k (a::l) m (by simp <;>omega)
   have h3:=mgK_le k l m (by omega)
   simp only [List.length_cons] at h1 h2
   rw [mgK_ab]
   simp only [List.length_cons]
   split
   ·omega
   ·split <;>omega
structure MgS where
 l:List (Int × Rat)
 m:List (Int × Rat)
 out:List (Int × Rat)
theorem put_no{v:Int}{q:Rat}(h:q=0):put1 v q=[]:=if_pos h
theorem put_yes{v:Int}{q:Rat}(h:¬q=0):put1 v q=[(v,q)]:=if_neg h
theorem merge_c{n:Nat}{f g:Form}{c:Rat}{b:Nat}(hF:∀t∈f.1,H t.2≤b)(hG:∀t∈g.1,H t.2≤b)(hb:b≤1000000)(hc:H c≤1000000)(hk:H f.2≤1000000)(hk2:H g.2≤1000000)(hlf:f.1.length≤1000000)(hlg:g.1.length≤1000000):
  run (n+1) 155 [formV f,formV g,ratV c]=some (formV (mergeV f.1 g.1 c,f.2+g.2*c)):=by
 have hm:=H_mul g.2 c
 have ha:=H_add f.2 (g.2*c)
 have hM:=mgK_le _ f.1 g.1 (Nat.le_refl _)
 obtain ⟨b',hL,hI⟩:=loopG_R (O:=tab (n+1)) (P:= Tryz.prog) (m:=0) (N:=113) (lives:=livesOf 155) (r:=3) (C:=mg_C3) (exN:=.exit 0) (M:=mgK f.1 g.1) (enc:=fun i (s:MgS)=>mg_h3 f g c s.l s.m s.out) (out:=fun s=>mg_o3a f g c s.out)
  (fun i s=>s.out++mergeV s.l s.m c=mergeV f.1 g.1 c∧mgK s.l s.m+i=mgK f.1 g.1∧s.out.length≤i∧(∀t∈s.l,H t.2≤b)∧∀t∈s.m,H t.2≤b) ⟨f.1,g.1,[]⟩ ⟨rfl,rfl,by simp,hF,hG⟩ (by omega) (by simp)
  (fun i s hi hI=>by
   obtain ⟨l,m,out⟩:=s
   obtain ⟨i1,i2,i3,i4,i5⟩:=hI
   dsimp only at i1 i2 i3 i4 i5 ⊢
   have fin:∀(l' m':List (Int × Rat)) (v:Int) (q:Rat),mergeV l m c=put1 v q++mergeV l' m' c→mgK l m=1+mgK l' m'→(∀t∈l',H t.2≤b)→(∀t∈m',H t.2≤b)→∀(q':Rat),q'=q→
     (out++put1 v q')++mergeV l' m' c=mergeV f.1 g.1 c∧mgK l' m'+(i+1)=mgK f.1 g.1∧(out++put1 v q').length≤i+1∧(∀t∈l',H t.2≤b)∧∀t∈m',H t.2≤b:=fun l' m' v q h1 h2 h3 h4 q' hq=>by
    subst hq
    refine ⟨by rw [List.append_assoc,←h1];exact i1,by omega,?_,h3,h4⟩
    have:=put1_len v q'
    rw [List.length_append];omega
   match l,m with
   | [],[]=>rw [mgK_nil] at i2;simp at i2;omega
   | (v,q)::l,[]=>
     have e:=fin l [] v q (mergeV_a (v,q) l c) (by rw [mgK_a,mgK_one];omega) (fun t ht=>i4 t (by simp [ht])) i5 q rfl
     have hq:H q≤b:=i4 (v,q) (by simp)
     by_cases h0:q=0
     ·rw [put_no h0,List.append_nil] at e
      exact ⟨⟨l,[],out⟩,mg_r3_1 (l_3:=(v,q)::l) (by simp <;>omega) (by simp) rfl (pt_same (by omega) h0) ⟨by omega,by simp <;>omega⟩,e⟩
     ·rw [put_yes h0] at e
      exact ⟨⟨l,[],out++[(v,q)]⟩,mg_r3_2 (l_3:=(v,q)::l) (by simp <;>omega) (by simp) rfl (pt_new (by omega) h0 (by omega)) ⟨by omega,by simp <;>omega⟩,e⟩
   | [],(u,p)::m=>
     have e:=fin [] m u (p*c) (mergeV_b (u,p) m c) (by rw [mgK_nil,mgK_nil,List.length_cons];omega) i4 (fun t ht=>i5 t (by simp [ht])) (p*c) rfl
     have hp:H p≤b:=i5 (u,p) (by simp)
     have hpc:=H_mul p c
     by_cases h0:p*c=0
     ·rw [put_no h0,List.append_nil] at e
      exact ⟨⟨[],m,out⟩,mg_r3_9 (l2_3:=(u,p)::m) (by simp) (by simp <;>omega) rfl (by omega) (by omega) (pt_same (by omega) h0) ⟨by omega,by simp <;>omega⟩,e⟩
     ·rw [put_yes h0] at e
      exact ⟨⟨[],m,out++[(u,p*c)]⟩,mg_r3_10 (l2_3:=(u,p)::m) (by simp) (by simp <;>omega) rfl (by omega) (by omega) (pt_new (by omega) h0 (by omega)) ⟨by omega,by simp <;>omega⟩,e⟩
   | (v,q)::l,(u,p)::m=>
     have hq:H q≤b:=i4 (v,q) (by simp)
     have hp:H p≤b:=i5 (u,p) (by simp)
     have hpc:=H_mul p c
     have hqp:=H_add q (p*c)
     have hk:=mgK_ab (v,q) (u,p) l m
     dsimp only at hk
     by_cases c1:v<u
     ·rw [if_pos c1] at hk
      have e:=fin l ((u,p)::m) v q (mergeV_lt c1 l m c) hk (fun t ht=>i4 t (by simp [ht])) i5 q rfl
      by_cases h0:q=0
      ·rw [put_no h0,List.append_nil] at e
       exact ⟨⟨l,(u,p)::m,out⟩,mg_r3_3 (l_3:=(v,q)::l) (l2_3:=(u,p)::m) (by simp <;>omega) (by simp <;>omega) rfl rfl c1 (pt_same (by omega) h0) ⟨by omega,by simp <;>omega⟩,e⟩
      ·rw [put_yes h0] at e
       exact ⟨⟨l,(u,p)::m,out++[(v,q)]⟩,mg_r3_4 (l_3:=(v,q)::l) (l2_3:=(u,p)::m) (by simp <;>omega) (by simp <;>omega) rfl rfl c1 (pt_new (by omega) h0 (by omega)) ⟨by omega,by simp <;>omega⟩,e⟩
     ·rw [if_neg c1] at hk
      by_cases c2:u<v
      ·rw [if_pos c2] at hk
       have e:=fin ((v,q)::l) m u (p*c) (mergeV_gt c2 l m c) hk i4 (fun t ht=>i5 t (by simp [ht])) (p*c) rfl
       by_cases h0:p*c=0
       ·rw [put_no h0,List.append_nil] at e
        exact ⟨⟨(v,q)::l,m,out⟩,mg_r3_5 (l_3:=(v,q)::l) (l2_3:=(u,p)::m) (by simp <;>omega) (by simp <;>omega) rfl rfl c1 c2 (by omega) (by omega) (pt_same (by omega) h0) ⟨by omega,by simp <;>omega⟩,e⟩
       ·rw [put_yes h0] at e
        exact ⟨⟨(v,q)::l,m,out++[(u,p*c)]⟩,mg_r3_6 (l_3:=(v,q)::l) (l2_3:=(u,p)::m) (by simp <;>omega) (by simp <;>omega) rfl rfl c1 c2 (by omega) (by omega) (pt_new (by omega) h0 (by omega)) ⟨by omega,by simp <;>omega⟩,e⟩
      ·rw [if_neg c2] at hk
       have huv:v=u:=by omega
       have e:=fin l m v (q+p*c) (mergeV_eq huv l m c) hk (fun t ht=>i4 t (by simp [ht])) (fun t ht=>i5 t (by simp [ht])) (q+p*c) rfl
       by_cases h0:q+p*c=0
       ·rw [put_no h0,List.append_nil] at e
        exact ⟨⟨l,m,out⟩,mg_r3_7 (l_3:=(v,q)::l) (l2_3:=(u,p)::m) (by simp <;>omega) (by simp <;>omega) rfl rfl c1 c2 (by omega) (by omega) (by omega) (by omega) (pt_same (by omega) h0) ⟨by omega,by simp <;>omega⟩ ⟨by omega,by simp <;>omega⟩,e⟩
       ·rw [put_yes h0] at e
        exact ⟨⟨l,m,out++[(v,q+p*c)]⟩,mg_r3_8 (l_3:=(v,q)::l) (l2_3:=(u,p)::m) (by simp <;>omega) (by simp <;>omega) rfl rfl c1 c2 (by omega) (by omega) (by omega) (by omega) (pt_new (by omega) h0 (by omega)) ⟨by omega,by simp <;>omega⟩ ⟨by omega,by simp <;>omega⟩,e⟩)
  (fun s hI=>by
   obtain ⟨l,m,out⟩:=s
   obtain ⟨_,i2,_⟩:=hI
   dsimp only at i2 ⊢
   have h0:l=[]∧m=[]:=by
    match l,m with
    | [],[]=>exact ⟨rfl,rfl⟩
    | a::l,[]=>rw [mgK_a] at i2;omega
    | [],b::m=>rw [mgK_nil] at i2;simp at i2
    | a::l,b::m=>rw [mgK_ab] at i2;omega
   obtain ⟨rfl,rfl⟩:=h0
   exact mg_x3_1 (by simp) (by simp))
 obtain ⟨l,m,out⟩:=b'
 obtain ⟨i1,i2,_⟩:=hI
 dsimp only at i1 i2 hL
 have h0:l=[]∧m=[]:=by
  match l,m with
  | [],[]=>exact ⟨rfl,rfl⟩
  | a::l,[]=>rw [mgK_a] at i2;omega
  | [],b::m=>rw [mgK_nil] at i2;simp at i2
  | a::l,b::m=>rw [mgK_ab] at i2;omega
 obtain ⟨rfl,rfl⟩:=h0
 rw [mergeV_nil,List.append_nil] at i1
 subst i1
 exact mg_f1 (by omega) (by omega) (by omega) (by omega) hL
theorem padd_c{n:Nat}{f g:Form}{b:Nat}(hF:∀t∈f.1,H t.2≤b)(hG:∀t∈g.1,H t.2≤b)(hb:b≤1000000)(hk:H f.2≤1000000)(hk2:H g.2≤1000000)(hlf:f.1.length≤1000000)(hlg:g.1.length≤1000000):
  run (n+2) 223 [formV f,formV g]=some (formV (mergeV f.1 g.1 1,f.2+g.2)):=by
 have e:ofQ 1=1:=by decide+kernel
 have h:=lad_f1 (n:=n) (merge_c (n:=n) (c:=ofQ 1) hF hG hb (by rw [e];decide) hk hk2 hlf hlg)
 rw [e,Rat.mul_one] at h
 exact h
theorem psub_c{n:Nat}{f g:Form}{b:Nat}(hF:∀t∈f.1,H t.2≤b)(hG:∀t∈g.1,H t.2≤b)(hb:b≤1000000)(hk:H f.2≤1000000)(hk2:H g.2≤1000000)(hlf:f.1.length≤1000000)(hlg:g.1.length≤1000000):
  run (n+2) 92 [formV f,formV g]=some (formV (mergeV f.1 g.1 (-1),f.2-g.2)):=by
 have e:ofQ (-1)=-1:=by decide+kernel
 have h:=lsu_f1 (n:=n) (merge_c (n:=n) (c:=ofQ (-1)) hF hG hb (by rw [e];decide) hk hk2 hlf hlg)
 have e2:f.2+g.2*(-1)=f.2-g.2:=by grind
 rw [e,e2] at h
 exact h
end
section
open Go.RowKit
theorem ptr_new{n:Nat}{v:Int}{c:Raw}(hR:RawB c)(h0:c.q≠0):
  runL n 208 [.agg [.nl 4,.lit (.bool false),.nl 1,.nl 1],.lit (.int .i64 v),.agg [.lit (.bool c.s),natA c.l1,natA c.l2]] []=some (.agg [.own 3 [(v,c.q)].length,.lit (.bool false),.nl 1,.nl 1],[(3,.row 81 4 ([(v,c.q)].map termC) 0)]):=by
 unfold runL fnL
 have hs:=rr_sign hR
 have hc:=rr_canon hR
 have e2:(sgR c.q==0)=false:=by simpa using fun h=>h0 (sgR_eq_zero.1 h)
 have e3:(sgR c.q !=0)=true:=by simpa using fun h=>h0 (sgR_eq_zero.1 h)
 have hr:∀b,b≤10000→roomy 1 b=true:=fun b hb=>roomy_s (by omega) hb
 simp+decide [Tryz.f208,hs,hc,e2,e3,hr]
theorem ptr_same{n:Nat}{v:Int}{c:Raw}(hR:RawB c)(h0:c.q=0):
  runL n 208 [.agg [.nl 4,.lit (.bool false),.nl 1,.nl 1],.lit (.int .i64 v),.agg [.lit (.bool c.s),natA c.l1,natA c.l2]] []=some (.agg [.nl 4,.lit (.bool false),.nl 1,.nl 1],[]):=by
 unfold runL fnL
 have hs:=rr_sign hR
 have e2:(sgR c.q==0)=true:=by rw [sgR_eq_zero.2 h0];rfl
 have e3:(sgR c.q !=0)=false:=by rw [sgR_eq_zero.2 h0];rfl
 simp+decide [Tryz.f208,hs,e2,e3]
attribute [local irreducible] run runL loopG exec
def rdR(neg:Bool)(a:Nat)(d:Option Nat):Raw:=⟨neg,lmb a,match d with|none=>[]|some k=>lmb k⟩
theorem rdR_q(neg:Bool)(a:Nat)(d:Option Nat)(hd:∀k,d=some k→0<k):(rdR neg a d).q=qv neg a (d.getD 1):=by
 cases d with
 | none=>
   show sv neg (lmb a) []=mkRat (sgi neg a) 1
   unfold sv
   rw [val_lmb];rfl
 | some k=>
   have hk:=hd k rfl
   show sv neg (lmb a) (lmb k)=mkRat (sgi neg a) k
   unfold sv
   rw [val_lmb]
   have:dn (lmb k)=k:=by
    unfold dn
    rw [val_lmb,if_neg (by omega)]
   rw [this]
theorem rdR_b{neg:Bool}{a:Nat}{d:Option Nat}(ha:a<10 ^ 300)(hd:∀k,d=some k→k<10 ^ 300):RawB (rdR neg a d):=by
 have h1:=lmb_few ha (by omega)
 cases d with
 | none=>exact ⟨lim_lmb a,by show Lim [];exact lim_lmb 0,by show (lmb a).length≤_;omega,by show ([]:List Nat).length≤_;simp⟩
 | some k=>
   have h2:=lmb_few (hd k rfl) (by omega)
   exact ⟨lim_lmb a,lim_lmb k,by show (lmb a).length≤_;omega,by show (lmb k).length≤_;omega⟩
theorem qv_H{neg:Bool}{a d:Nat}(ha:a<10 ^ 300)(hd:d<10 ^ 300)(h0:0<d):H (qv neg a d)≤100:=by
 have h1:=lmb_few ha (by omega)
 have h2:=lmb_few hd (by omega)
 have h3:=H_mk (sgi neg a) h0
 rw [sgi_natAbs] at h3
 unfold qv
 omega
structure RdF (k:Nat) (f:Form):Prop where
 s:Srt f.1
 t:TmB (102*k) f.1
 c:H f.2≤1+102*k
 l:f.1.length≤k
theorem RdF.zero:RdF 0 ([],0):=⟨Srt.nil,fun t ht=>(by cases ht),by show H 0≤_;decide,by simp⟩
theorem RdF.con{k:Nat}{f:Form}{q:Rat}(h:RdF k f)(hq:H q≤100):RdF (k+1) (f.1,f.2+q):=by
 have h1:=h.c
 have h2:=H_add f.2 q
 have h3:=h.l
 exact ⟨h.s,h.t.mono (by omega),by dsimp only;omega,by dsimp only;omega⟩
theorem RdF.plus{k:Nat}{f:Form}{v:Int}{q:Rat}(h:RdF k f)(hq:H q≤100):RdF (k+1) (plusV false f.1 v q,f.2):=by
 have h1:=h.c
 have h3:=h.l
 have h4:=plusV_len false f.1 v q
 have h5:=TmB.plus (v:=v) (d:=false) hq h.t
 exact ⟨(plus_srt h.s).1,h5.mono (by omega),by dsimp only;omega,by dsimp only;omega⟩
theorem mrg_nil{F:List (Int × Rat)}(h:Srt F):mergeV F [] 1=F:=by rw [merge_add h Srt.nil];rfl
theorem mrg_one{F:List (Int × Rat)}{v:Int}{q:Rat}(h:Srt F)(h0:q≠0):mergeV F [(v,q)] 1=plusV false F v q:=by
 rw [merge_add h ⟨by simp,fun t ht=>by rw [List.mem_singleton.1 ht];exact h0⟩]
 have:sclV [(v,q)] 1=[(v,q)]:=by
  unfold sclV put1
  simp only [List.flatMap_cons,List.flatMap_nil,List.append_nil,Rat.mul_one]
  rw [if_neg h0]
 rw [this];rfl
theorem plus_zero{F:List (Int × Rat)}{v:Int}(h:Srt F):plusV false F v 0=F:=by
 obtain ⟨a,b,_⟩:=plus_srt (v:=v) (c:=0) h
 refine srt_ext a h fun u=>?_
 rw [b]
 split <;>grind
section
variable {n : Nat} {L l : List UInt8}
theorem addk_c{k:Nat}{f:Form}{q:Rat}(h:RdF k f)(hk:k≤1000)(hq:H q≤100):run (n+2) 223 [formV f,.agg [.sl 4 [],.lit (.bool (rawQ q).s),natA (rawQ q).l1,natA (rawQ q).l2]]=some (formV (f.1,f.2+q)):=by
 have h1:=h.c
 have h3:=h.l
 have R:=padd_c (n:=n) (f:=f) (g:=([],q)) (b:=102*k) (fun t ht=>(h.t t ht).2) (fun t ht=>(by cases ht)) (by omega) (by omega) (by dsimp only;omega) (by omega) (by simp)
 dsimp only at R
 rw [mrg_nil h.s] at R
 exact R
theorem addt_c{k:Nat}{f:Form}{v:Int}{q:Rat}(h:RdF k f)(hk:k≤1000)(hq:H q≤100)(h0:q≠0):run (n+2) 223 [formV f,.agg [.sl 4 ([(v,q)].map termC),.lit (.bool false),.sl 1 [],.sl 1 []]]=some (formV (plusV false f.1 v q,f.2)):=by
 have h1:=h.c
 have h3:=h.l
 have R:=padd_c (n:=n) (f:=f) (g:=([(v,q)],0)) (b:=102*k+100) (fun t ht=>by have:=(h.t t ht).2;omega) (fun t ht=>by rw [List.mem_singleton.1 ht];dsimp only;omega) (by omega) (by omega) (by show H 0≤1000000;decide) (by omega) (by simp)
 dsimp only at R
 rw [mrg_one h.s h0,Rat.add_zero] at R
 have e:formV ([(v,q)],0)=.agg [.sl 4 ([(v,q)].map termC),.lit (.bool false),.sl 1 [],.sl 1 []]:=by simp
 rw [e] at R
 exact R
theorem addz_c{k:Nat}{f:Form}(h:RdF k f)(hk:k≤1000):run (n+2) 223 [formV f,.agg [.sl 4 [],.lit (.bool false),.sl 1 [],.sl 1 []]]=some (formV f):=by
 have h1:=h.c
 have h3:=h.l
 have R:=padd_c (n:=n) (f:=f) (g:=([],0)) (b:=102*k) (fun t ht=>(h.t t ht).2) (fun t ht=>(by cases ht)) (by omega) (by omega) (by show H 0≤1000000;decide) (by omega) (by simp)
 dsimp only at R
 rw [mrg_nil h.s,Rat.add_zero] at R
 have e:formV ([],0)=.agg [.sl 4 [],.lit (.bool false),.sl 1 [],.sl 1 []]:=by simp
 rw [e] at R
 exact R
theorem var_n(hL:L.length≤1000)(h:120::l <:+L)(hn:nmP true 9 l=none):runL (n+9) 224 [.ptr 0 0] [pB L (120::l)]=some (.tup [.lit (.int .i64 0),.lit (.bool false)],[(0,pB L l)]):=by
 have K:=is_c (n:=n+5) hL h [120]
 rw [isIn_1,decide_eq_true rfl] at K
 obtain ⟨p1,p2⟩:=po_lt h
 have p3:=po_rg L (120::l)
 have N:=number_n (n:=n+4) hL (suf_tl h) (by omega) hn
 rw [pB,←p2] at N
 have A:(oAtoi) [.lit (.string (bs []))]=some (.tup [.lit (.int .i64 0),.any]):=by
  unfold oAtoi
  dsimp only
  rw [bs_data,if_pos (by rw [bs_size];simp)]
  rfl
 have R:=lvr_f2 (n:=n) (a0:=⟨bs L,po L (120::l)⟩) K rfl ⟨by omega,by omega⟩ N A
 dsimp only at R
 rw [p2] at R
 exact R
theorem var_s(hL:L.length≤1000)(h:120::l <:+L){d r:List UInt8}(hn:nmP true 9 l=some (d,r)):runL (n+9) 224 [.ptr 0 0] [pB L (120::l)]=some (.tup [.lit (.int .i64 (dgV d 0:Nat)),.lit (.bool true)],[(0,pB L r)]):=by
 have K:=is_c (n:=n+5) hL h [120]
 rw [isIn_1,decide_eq_true rfl] at K
 obtain ⟨p1,p2⟩:=po_lt h
 have p3:=po_rg L (120::l)
 obtain ⟨e1,e2,e3,e4⟩:=nmP_ok hn (by omega)
 have N:=number_s (n:=n+4) hL (suf_tl h) (by omega) (by omega) hn
 rw [show pB L l=.box 201 [.lit (.string (bs L)),.lit (.int .i64 (po L (120::l)+1))] false from by rw [p2];rfl] at N
 have A:(oAtoi) [.lit (.string (bs d))]=some (.tup [.lit (.int .i64 (dgV d 0:Nat)),.lit .nilIface]):=by
  unfold oAtoi
  dsimp only
  rw [bs_data,if_pos (by rw [bs_size];omega),atoi_d e2 e4]
  rfl
 exact lvr_f2 (n:=n) (a0:=⟨bs L,po L (120::l)⟩) K rfl ⟨by omega,by omega⟩ N A
theorem var_x(hL:L.length≤1000)(h:l <:+L)(hx:isIn [120] l=false):runL (n+9) 224 [.ptr 0 0] [pB L l]=some (.tup [.lit (.int .i64 0),.lit (.bool false)],[(0,pB L l)]):=by
 have K:=is_c (n:=n+5) hL h [120]
 rw [hx] at K
 exact lvr_f1 (n:=n) (a0:=⟨bs L,po L l⟩) K rfl
end
end
section
open Go.RowKit
attribute [local irreducible] run runL loopG exec
theorem dgV_le:∀(d:List UInt8) (n:Nat),n≤dgV d n
 | [],n=>Nat.le_refl _
 | c::d,n=>by
   have:=dgV_le d (n*10+(c.toNat-48))
   show n≤dgV d (n*10+(c.toNat-48))
   omega
theorem nmP_pos{most:Nat}{l d r:List UInt8}(h:nmP false most l=some (d,r))(hm:0<most):0<dgV d 0:=by
 cases l with
 | nil=>cases h
 | cons c l=>
   rw [nmP] at h
   split at h
   ·rename_i hd
    split at h
    ·cases h
    ·rename_i h2
     have e:=Option.some.inj h
     obtain ⟨m,rfl⟩:∃m,most=m+1:=⟨most-1,by omega⟩
     rw [dgP,if_pos hd] at e
     have e1:=(Prod.mk.inj e).1
     rw [←e1]
     have hc:=isD_n hd
     have h3:c.toNat≠48:=fun e=>h2 (u8n.2 e)
     have:=dgV_le (dgP m l).1 (0*10+(c.toNat-48))
     show 0<dgV (dgP m l).1 (0*10+(c.toNat-48))
     omega
   ·cases h
theorem nmP_small{zero:Bool}{most:Nat}{l d r:List UInt8}(h:nmP zero most l=some (d,r))(h0:0<most)(hm:most≤200):dgV d 0<10 ^ 300:=by
 obtain ⟨e1,e2,e3,e4⟩:=nmP_ok h h0
 have:=dgV_lt d 0 0 e2 (by decide)
 exact Nat.lt_of_lt_of_le this (Nat.pow_le_pow_right (by omega) (by omega))
theorem isIn_t{d:UInt8}{l:List UInt8}(h:isIn [d] l=true):∃r,l=d::r:=by
 cases l with
 | nil=>cases h
 | cons c r=>
   rw [isIn_1] at h
   exact ⟨r,by rw [of_decide_eq_true h]⟩
theorem isIn_f{d c:UInt8}{r:List UInt8}(h:isIn [d] (c::r)=false):c≠d:=by
 rw [isIn_1] at h
 exact of_decide_eq_false h
section
variable {n k : Nat} {L l : List UInt8} {f : Form} {neg : Bool}
theorem va_part{N m:Nat}{q:Rat}{c:Raw}{v:Int}(hf:RdF k f)(hk:k≤1000)(hR:RawB c)(hc:c.q=q)(hq:H q≤100){P:Prop}(h0:runL N 208 [.agg [.nl 4,.lit (.bool false),.nl 1,.nl 1],.lit (.int .i64 v),.agg [.lit (.bool c.s),natA c.l1,natA c.l2]] []=some (.agg [.nl 4,.lit (.bool false),.nl 1,.nl 1],[])→run (m+2) 223 [formV f,.agg [.sl 4 [],.lit (.bool false),.sl 1 [],.sl 1 []]]=some (formV (plusV false f.1 v q,f.2))→P)(h1:∀R:List (Int × Rat),runL N 208 [.agg [.nl 4,.lit (.bool false),.nl 1,.nl 1],.lit (.int .i64 v),.agg [.lit (.bool c.s),natA c.l1,natA c.l2]] []=some (.agg [.own 3 R.length,.lit (.bool false),.nl 1,.nl 1],[(3,.row 81 4 (R.map termC) 0)])→run (m+2) 223 [formV f,.agg [.sl 4 (R.map termC),.lit (.bool false),.sl 1 [],.sl 1 []]]=some (formV (plusV false f.1 v q,f.2))→P):P:=by
 by_cases h:q=0
 ·refine h0 (ptr_same hR (hc.trans h)) ?_
  rw [h,plus_zero hf.s]
  exact addz_c hf hk
 ·have hn:c.q≠0:=by rw [hc];exact h
  have T:=ptr_new (n:=N) (v:=v) hR hn
  rw [hc] at T
  exact h1 [(v,q)] T (addt_c hf hk hq h)
def PaR(n k:Nat)(L:List UInt8)(f:Form)(neg:Bool)(l:List UInt8):Except (List UInt8) (Form × List UInt8)→Prop
 | .error r=>r <:+l∧runL (n+10) 177 [.ptr 0 0,formV f,.lit (.bool neg)] [pB L l]=some (.tup [formV f,.lit (.bool false)],[(0,pB L r)])
 | .ok p=>p.2 <:+l∧RdF (k+1) p.1∧runL (n+10) 177 [.ptr 0 0,formV f,.lit (.bool neg)] [pB L l]=some (.tup [formV p.1,.lit (.bool true)],[(0,pB L p.2)])
theorem k_one:(oU fun k=>natA (lmb k)) [.lit (.int .u64 1)]=some (natA (lmb 1)):=oU_k (by omega) (by omega)
theorem pB_sc{c:UInt8}(h:c::l <:+L):pB L l=.box 201 [.lit (.string (bs L)),.lit (.int .i64 (po L (c::l)+1))] false:=by
 rw [(po_lt h).2];rfl
theorem po_in(hL:L.length≤1000){c:UInt8}(h:c::l <:+L):InI (po L (c::l)+1):=by
 have:=po_rg L (c::l)
 exact ⟨by omega,by omega⟩
theorem pa_x(hL:L.length≤1000)(h:120::l <:+L)(hf:RdF k f)(hk:k≤1000):PaR n k L f neg (120::l) (vaL f (qv neg 1 1) l):=by
 have K2:=is_c (n:=n+6) hL h [120]
 rw [isIn_1,decide_eq_true rfl] at K2
 unfold vaL
 rw [nm_P]
 cases e:nmP true 9 l with
 | none=>exact ⟨List.suffix_cons _ _,lpa_f11 (n:=n) (a0:=⟨bs L,po L (120::l)⟩) k_one K2 rfl (var_n (n:=n) hL h e) rfl⟩
 | some p=>
   obtain ⟨d,r⟩:=p
   obtain ⟨e1,e2,e3,e4⟩:=nmP_ok e (by omega)
   have hq:qv neg 1 1=(rdR neg 1 none).q:=(rdR_q neg 1 none (fun _ h=>(by cases h))).symm
   have hH:H (qv neg 1 1)≤100:=qv_H (by decide+kernel) (by decide+kernel) (by omega)
   have hR:RawB (rdR neg 1 none):=rdR_b (by decide+kernel) (fun _ h=>(by cases h))
   refine ⟨⟨120::d,by rw [e1];rfl⟩,hf.plus hH,?_⟩
   have K4:=var_s (n:=n) hL h e
   exact va_part (N:=n+9) (m:=n+7) hf hk hR hq.symm hH
    (fun a b=>lpa_f12 (n:=n) (a0:=⟨bs L,po L (120::l)⟩) k_one K2 rfl K4 rfl a b)
    (fun R a b=>lpa_f13 (n:=n) (a0:=⟨bs L,po L (120::l)⟩) k_one K2 rfl K4 rfl a b)
theorem pa_n{d r:List UInt8}(hL:L.length≤1000)(h:l <:+L)(hx:isIn [120] l=false)(hn:nmP true 200 l=some (d,r))(hs:isIn [47] (skL r)=false)(hf:RdF k f)(hk:k≤1000):
  PaR n k L f neg l (afL f (qv neg (dgV d 0) 1) (skL r)):=by
 obtain ⟨e1,e2,e3,e4⟩:=nmP_ok hn (by omega)
 have hr:r <:+l:=⟨d,e1.symm⟩
 have hrL:=hr.trans h
 have hsk:=(skL_suf r).trans hrL
 have K2:=is_c (n:=n+6) hL h [120]
 rw [hx] at K2
 have K4:=number_s (n:=n+5) (most:=200) hL h (by omega) (by omega) hn
 have K6:=natOf_c (n:=n+7) e2 (by omega)
 have K7:=blank_c (n:=n+9) hL hrL
 have K8:=is_c (n:=n+6) hL hsk [47]
 rw [hs] at K8
 have K10:=is_c (n:=n+6) hL hsk [42]
 have ha:=nmP_small hn (by omega) (by omega)
 have hq:qv neg (dgV d 0) 1=(rdR neg (dgV d 0) none).q:=(rdR_q neg (dgV d 0) none (fun _ h=>(by cases h))).symm
 have hH:H (qv neg (dgV d 0) 1)≤100:=qv_H ha (by decide+kernel) (by omega)
 have hR:RawB (rdR neg (dgV d 0) none):=rdR_b ha (fun _ h=>(by cases h))
 cases c:isIn [42] (skL r) with
 | false=>
   rw [c] at K10
   have e:afL f (qv neg (dgV d 0) 1) (skL r)=.ok ((f.1,f.2+qv neg (dgV d 0) 1),skL r):=by
    cases e:skL r with
    | nil=>rfl
    | cons x y=>rw [e] at c;rw [afL,if_neg (isIn_f c)]
   rw [e]
   refine ⟨(skL_suf r).trans hr,hf.con hH,?_⟩
   have A:=addk_c (n:=n+7) (q:=(rdR neg (dgV d 0) none).q) hf hk (by rw [←hq];exact hH)
   rw [hq]
   exact lpa_f7 (n:=n) (a0:=⟨bs L,po L l⟩) k_one K2 rfl K4 rfl K6 K7 K8 rfl K10 rfl hR A
 | true=>
   rw [c] at K10
   obtain ⟨r2,er⟩:=isIn_t c
   rw [er] at hsk K7 K8 K10 ⊢
   rw [afL,if_pos rfl]
   have h2:=suf_tl hsk
   have hl2:r2 <:+l:=(suf_tl (er▸skL_suf r)).trans hr
   have W:=po_in hL hsk
   have K13:=blank_c (n:=n+9) hL h2
   rw [pB_sc hsk] at K13
   have h3:=(skL_suf r2).trans h2
   have hl3:=(skL_suf r2).trans hl2
   cases e:skL r2 with
   | nil=>
     rw [e] at K13 h3 hl3
     exact ⟨hl3,lpa_f8 (n:=n) (a0:=⟨bs L,po L l⟩) k_one K2 rfl K4 rfl K6 K7 K8 rfl K10 rfl W K13 (var_x (n:=n) hL h3 rfl) rfl⟩
   | cons x y=>
     rw [e] at K13 h3 hl3
     dsimp only
     by_cases hx2:x=120
     ·rw [if_pos hx2]
      subst hx2
      unfold vaL
      rw [nm_P]
      cases e5:nmP true 9 y with
      | none=>exact ⟨suf_tl hl3,lpa_f8 (n:=n) (a0:=⟨bs L,po L l⟩) k_one K2 rfl K4 rfl K6 K7 K8 rfl K10 rfl W K13 (var_n (n:=n) hL h3 e5) rfl⟩
      | some p=>
        obtain ⟨d5,r5⟩:=p
        obtain ⟨f1,f2,f3,f4⟩:=nmP_ok e5 (by omega)
        refine ⟨(List.IsSuffix.trans ⟨d5,f1.symm⟩ (suf_tl hl3)),hf.plus hH,?_⟩
        have K14:=var_s (n:=n) hL h3 e5
        exact va_part (N:=n+9) (m:=n+7) hf hk hR hq.symm hH
         (fun a b=>lpa_f9 (n:=n) (a0:=⟨bs L,po L l⟩) k_one K2 rfl K4 rfl K6 K7 K8 rfl K10 rfl W K13 K14 rfl a b)
         (fun R a b=>lpa_f10 (n:=n) (a0:=⟨bs L,po L l⟩) k_one K2 rfl K4 rfl K6 K7 K8 rfl K10 rfl W K13 K14 rfl a b)
     ·rw [if_neg hx2]
      have hv:isIn [120] (x::y)=false:=by rw [isIn_1];exact decide_eq_false hx2
      exact ⟨hl3,lpa_f8 (n:=n) (a0:=⟨bs L,po L l⟩) k_one K2 rfl K4 rfl K6 K7 K8 rfl K10 rfl W K13 (var_x (n:=n) hL h3 hv) rfl⟩
theorem pa_d{d r r1:List UInt8}(hL:L.length≤1000)(h:l <:+L)(hx:isIn [120] l=false)(hn:nmP true 200 l=some (d,r))(hs:skL r=47::r1)(hf:RdF k f)(hk:k≤1000):
  PaR n k L f neg l (deL f neg (dgV d 0) (47::r1)):=by
 obtain ⟨e1,e2,e3,e4⟩:=nmP_ok hn (by omega)
 have hr:r <:+l:=⟨d,e1.symm⟩
 have hrL:=hr.trans h
 have hsk:=(skL_suf r).trans hrL
 have hskl:=(skL_suf r).trans hr
 have K2:=is_c (n:=n+6) hL h [120]
 rw [hx] at K2
 have K4:=number_s (n:=n+5) (most:=200) hL h (by omega) (by omega) hn
 have K6:=natOf_c (n:=n+7) e2 (by omega)
 have K7:=blank_c (n:=n+9) hL hrL
 rw [hs] at hsk K7 hskl
 have K8:=is_c (n:=n+6) hL hsk [47]
 rw [isIn_1,decide_eq_true rfl] at K8
 have W:=po_in hL hsk
 have h1:=suf_tl hsk
 have hl1:=suf_tl hskl
 have K11:=blank_c (n:=n+9) hL h1
 rw [pB_sc hsk] at K11
 have h2:=(skL_suf r1).trans h1
 have hl2:=(skL_suf r1).trans hl1
 have ha:=nmP_small hn (by omega) (by omega)
 rw [deL,if_pos rfl,nm_P]
 cases e6:nmP false 200 (skL r1) with
 | none=>exact ⟨hl2,lpa_f2 (n:=n) (a0:=⟨bs L,po L l⟩) k_one K2 rfl K4 rfl K6 K7 K8 rfl W K11 (number_n (n:=n+5) (most:=200) hL h2 (by omega) e6) rfl⟩
 | some p=>
   obtain ⟨d2,r3⟩:=p
   show PaR n k L f neg l (afL f (qv neg (dgV d 0) (dgV d2 0)) (skL r3))
   obtain ⟨f1,f2,f3,f4⟩:=nmP_ok e6 (by omega)
   have h3:r3 <:+L:=List.IsSuffix.trans ⟨d2,f1.symm⟩ h2
   have hl3:r3 <:+l:=List.IsSuffix.trans ⟨d2,f1.symm⟩ hl2
   have K12:=number_s (n:=n+5) (most:=200) hL h2 (by omega) (by omega) e6
   have K14:=natOf_c (n:=n+7) f2 (by omega)
   have K15:=blank_c (n:=n+9) hL h3
   have h4:=(skL_suf r3).trans h3
   have hl4:=(skL_suf r3).trans hl3
   have K16:=is_c (n:=n+6) hL h4 [42]
   have hb:=nmP_small e6 (by omega) (by omega)
   have hb0:=nmP_pos e6 (by omega)
   have hq:qv neg (dgV d 0) (dgV d2 0)=(rdR neg (dgV d 0) (some (dgV d2 0))).q:=(rdR_q neg (dgV d 0) (some (dgV d2 0)) (fun _ h=>(by cases h;exact hb0))).symm
   have hH:H (qv neg (dgV d 0) (dgV d2 0))≤100:=qv_H ha hb hb0
   have hR:RawB (rdR neg (dgV d 0) (some (dgV d2 0))):=rdR_b ha (fun _ h=>(by cases h;exact hb))
   cases c:isIn [42] (skL r3) with
   | false=>
     rw [c] at K16
     have e:afL f (qv neg (dgV d 0) (dgV d2 0)) (skL r3)=.ok ((f.1,f.2+qv neg (dgV d 0) (dgV d2 0)),skL r3):=by
      cases e:skL r3 with
      | nil=>rfl
      | cons x y=>rw [e] at c;rw [afL,if_neg (isIn_f c)]
     rw [e]
     refine ⟨hl4,hf.con hH,?_⟩
     have A:=addk_c (n:=n+7) (q:=(rdR neg (dgV d 0) (some (dgV d2 0))).q) hf hk (by rw [←hq];exact hH)
     rw [hq]
     exact lpa_f3 (n:=n) (a0:=⟨bs L,po L l⟩) k_one K2 rfl K4 rfl K6 K7 K8 rfl W K11 K12 rfl K14 K15 K16 rfl hR A
   | true=>
     rw [c] at K16
     obtain ⟨r4,er⟩:=isIn_t c
     rw [er] at h4 hl4 K15 K16 ⊢
     rw [afL,if_pos rfl]
     have h5:=suf_tl h4
     have hl5:=suf_tl hl4
     have W2:=po_in hL h4
     have K19:=blank_c (n:=n+9) hL h5
     rw [pB_sc h4] at K19
     have h6:=(skL_suf r4).trans h5
     have hl6:=(skL_suf r4).trans hl5
     cases e:skL r4 with
     | nil=>
       rw [e] at K19 h6 hl6
       exact ⟨hl6,lpa_f4 (n:=n) (a0:=⟨bs L,po L l⟩) k_one K2 rfl K4 rfl K6 K7 K8 rfl W K11 K12 rfl K14 K15 K16 rfl W2 K19 (var_x (n:=n) hL h6 rfl) rfl⟩
     | cons x y=>
       rw [e] at K19 h6 hl6
       dsimp only
       by_cases hx2:x=120
       ·rw [if_pos hx2]
        subst hx2
        unfold vaL
        rw [nm_P]
        cases e5:nmP true 9 y with
        | none=>exact ⟨suf_tl hl6,lpa_f4 (n:=n) (a0:=⟨bs L,po L l⟩) k_one K2 rfl K4 rfl K6 K7 K8 rfl W K11 K12 rfl K14 K15 K16 rfl W2 K19 (var_n (n:=n) hL h6 e5) rfl⟩
        | some p=>
          obtain ⟨d5,r5⟩:=p
          obtain ⟨g1,g2,g3,g4⟩:=nmP_ok e5 (by omega)
          refine ⟨(List.IsSuffix.trans ⟨d5,g1.symm⟩ (suf_tl hl6)),hf.plus hH,?_⟩
          have K20:=var_s (n:=n) hL h6 e5
          exact va_part (N:=n+9) (m:=n+7) hf hk hR hq.symm hH
           (fun a b=>lpa_f5 (n:=n) (a0:=⟨bs L,po L l⟩) k_one K2 rfl K4 rfl K6 K7 K8 rfl W K11 K12 rfl K14 K15 K16 rfl W2 K19 K20 rfl a b)
           (fun R a b=>lpa_f6 (n:=n) (a0:=⟨bs L,po L l⟩) k_one K2 rfl K4 rfl K6 K7 K8 rfl W K11 K12 rfl K14 K15 K16 rfl W2 K19 K20 rfl a b)
       ·rw [if_neg hx2]
        have hv:isIn [120] (x::y)=false:=by rw [isIn_1];exact decide_eq_false hx2
        exact ⟨hl6,lpa_f4 (n:=n) (a0:=⟨bs L,po L l⟩) k_one K2 rfl K4 rfl K6 K7 K8 rfl W K11 K12 rfl K14 K15 K16 rfl W2 K19 (var_x (n:=n) hL h6 hv) rfl⟩
theorem part_c(hL:L.length≤1000)(h:l <:+L)(hf:RdF k f)(hk:k≤1000):PaR n k L f neg l (paL f neg l):=by
 have nu:isIn [120] l=false→PaR n k L f neg l (nuL f neg l):=fun hx=>by
  unfold nuL
  rw [nm_P]
  cases e:nmP true 200 l with
  | none=>
    have K2:=is_c (n:=n+6) hL h [120]
    rw [hx] at K2
    exact ⟨List.suffix_refl _,lpa_f1 (n:=n) (a0:=⟨bs L,po L l⟩) k_one K2 rfl (number_n (n:=n+5) (most:=200) hL h (by omega) e) rfl⟩
  | some p=>
    obtain ⟨d,r⟩:=p
    show PaR n k L f neg l (deL f neg (dgV d 0) (skL r))
    cases c:isIn [47] (skL r) with
    | true=>
      obtain ⟨r1,er⟩:=isIn_t c
      rw [er]
      exact pa_d hL h hx e er hf hk
    | false=>
      have T:=pa_n (neg:=neg) (n:=n) hL h hx e c hf hk
      cases e2:skL r with
      | nil=>rw [e2] at T;exact T
      | cons x y=>
        rw [e2] at T c
        rw [deL,if_neg (isIn_f c)]
        exact T
 cases l with
 | nil=>exact nu rfl
 | cons c r=>
   rw [paL]
   by_cases hc:c=120
   ·rw [if_pos hc]
    subst hc
    exact pa_x hL h hf hk
   ·rw [if_neg hc]
    exact nu (by rw [isIn_1];exact decide_eq_false hc)
end
end
end Go.Proofs.YtnegdhjdienjlaaGreatDoor
