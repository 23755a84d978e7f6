import Derived.Test.YtnegdhjdienjlaaGreatDoorGA16
import Derived.Test.YtnegdhjdienjlaaGreatDoorGA15
import Derived.Lib.ItoaNum
import Derived.Lib.Repeat
import Derived.Lib.Join
set_option linter.all false
set_option maxHeartbeats 6400000
set_option maxRecDepth 100000
namespace Go.Proofs.YtnegdhjdienjlaaGreatDoor
section
open Go.RowKit
theorem ba_loop(a:ByteArray):∀(k i:Nat) (r:List UInt8),k+i=a.size→ByteArray.toList.loop a i r=r.reverse++a.data.toList.drop i
 | 0,i,r,h=>by
   rw [ByteArray.toList.loop,if_neg (by omega),List.drop_eq_nil_of_le (by have e:a.data.toList.length=a.size:=Array.length_toList;omega),List.append_nil]
 | k+1,i,r,h=>by
   have hi:i<a.data.toList.length:=by have e:a.data.toList.length=a.size:=Array.length_toList;omega
   rw [ByteArray.toList.loop,if_pos (by omega),ba_loop a k (i+1) _ (by omega),List.drop_eq_getElem_cons hi]
   have e:a.get! i=a.data.toList[i]:=by
    unfold ByteArray.get!
    rw [Array.getElem_toList]
    exact getElem!_pos a.data i (by simpa using hi)
   rw [e]
   simp
theorem ba_toList(a:ByteArray):a.toList=a.data.toList:=by
 unfold ByteArray.toList
 rw [ba_loop a a.size 0 [] (by omega)]
 simp
theorem ba_ext{a b:ByteArray}(h:a.data.toList=b.data.toList):a=b:=by
 obtain ⟨x⟩:=a
 obtain ⟨y⟩:=b
 congr 1
 exact Array.toList_inj.1 h
theorem ba_inj{a b:ByteArray}(h:a.toList=b.toList):a=b:=ba_ext (by rw [←ba_toList,←ba_toList,h])
def bs(l:List UInt8):ByteArray:=⟨l.toArray⟩
theorem bs_data(l:List UInt8):(bs l).data.toList=l:=by simp [bs]
theorem bs_size(l:List UInt8):(bs l).size=l.length:=by
 show (bs l).data.size=_
 simp [bs]
theorem bs_inj{l m:List UInt8}(h:bs l=bs m):l=m:=by
 have:=congrArg (fun a:ByteArray=>a.data.toList) h
 simpa [bs] using this
theorem bs_self(a:ByteArray):bs a.data.toList=a:=ba_ext (bs_data _)
def byL(s:ByteArray):List Int:=s.data.toList.map fun b=>(b.toNat:Int)
theorem strEls_by(s:ByteArray):strEls s=(byL s).map intU8C:=by
 unfold strEls byL
 rw [List.map_map]
 rfl
end
section
open Go.RowKit
noncomputable def fpa2_C15:Code:=(loopsOf (bodyOf Tryz.f23)).getD 0 .skip
def fpa2_h15(a0:ByteArray)(sub:ByteArray)(bh:Int)(i_15:Int)(i2_15:Nat)(out_15:List Form):St:=
 ⟨[(0,.lit (.string a0)),(2,.ptr 0 0),(5,.ptr 1 0),(6,.lit (.string sub)),(7,.lit (.int .i64 bh)),(11,.lit (.int .i64 i_15)),(12,.lit (.int .i64 (i2_15:Int)))],
  [(0,some (.box 39 [.lit (.int .i64 0),.lit (.int .i64 0),.lit (.bool false),.nl 1,.nl 1,.nl 4] false)),
   (1,some (.box 39 [.lit (.int .i64 2),.lit (.int .i64 0),.lit (.bool false),.nl 1,.nl 1,.own 2 out_15.length] false)),
   (2,some (.row 79 4 (out_15.map formC) 0))],3⟩
def fpa2_o15a(a0:ByteArray)(r19:Int)(bh:Int)(out_15:List Form):St:=
 ⟨[(0,.lit (.string a0)),(2,.ptr 0 0),(3,.lit (.int .i64 r19)),(4,.lit (.int .i64 4)),(5,.ptr 1 0),(7,.lit (.int .i64 bh))],
  [(0,some (.box 39 [.lit (.int .i64 0),.lit (.int .i64 0),.lit (.bool false),.nl 1,.nl 1,.nl 4] false)),
   (1,some (.box 39 [.lit (.int .i64 2),.lit (.int .i64 0),.lit (.bool false),.nl 1,.nl 1,.own 2 out_15.length] false)),
   (2,some (.row 79 4 (out_15.map formC) 0))],3⟩
def fpa2_o15b(a0:ByteArray)(r22:Int)(bh:Int)(out_15:List Form):St:=
 ⟨[(0,.lit (.string a0)),(2,.ptr 0 0),(3,.lit (.int .i64 r22)),(4,.lit (.int .i64 4)),(5,.ptr 1 0),(7,.lit (.int .i64 bh))],
  [(0,some (.box 39 [.lit (.int .i64 0),.lit (.int .i64 0),.lit (.bool false),.nl 1,.nl 1,.nl 4] false)),
   (1,some (.box 39 [.lit (.int .i64 2),.lit (.int .i64 0),.lit (.bool false),.nl 1,.nl 1,.own 2 out_15.length] false)),
   (2,some (.row 79 4 (out_15.map formC) 0))],3⟩
def fpa2_o15c(a0:ByteArray)(bh:Int)(out_15:List Form):St:=
 ⟨[(0,.lit (.string a0)),(2,.ptr 0 0),(3,.any),(4,.any),(5,.ptr 1 0),(7,.lit (.int .i64 bh))],
  [(0,some (.box 39 [.lit (.int .i64 0),.lit (.int .i64 0),.lit (.bool false),.nl 1,.nl 1,.nl 4] false)),
   (1,some (.box 39 [.lit (.int .i64 2),.lit (.int .i64 0),.lit (.bool false),.nl 1,.nl 1,.own 2 out_15.length] false)),
   (2,some (.row 79 4 (out_15.map formC) 0))],3⟩
section
variable {r : Int} {i_15 : Int} {b3 : UInt8} {out_15 : List Form} {n : Nat} {sub : ByteArray} {a0 : ByteArray} {i2_15 : Nat} {r18 : Form} {r19 : Int} {sub7 : ByteArray} {r20 : Bool} {r23 : Bool} {r22 : Int} {r21 : Form} {sub8 : ByteArray} {r3 : Bool} {r5 : Bool} {r2 : ByteArray} {sub2 : ByteArray} {r4 : Int} {r25 : Bool} {r24 : Form} {sub9 : ByteArray} {r26 : Bool} {sub10 : ByteArray} {r27 : Bool} {sub11 : ByteArray} {r29 : Form} {r30 : Bool} {sub12 : ByteArray} {r31 : Bool} {r32 : Bool} {r37 : Bool} {r36 : Int} {r34 : ByteArray} {r35 : Bool} {sub13 : ByteArray} {r38 : Bool} {r43 : Bool}
section
variable(C1:(i2_15:Int)≤(sub.size:Int))
include C1
theorem fpa2_r15_1(C2:(i2_15:Int)<(sub.size:Int))(E3:sub[i2_15]?=some b3)(C4:¬(b3.toNat:Int)=59)(W5:InI ((i2_15:Int)+1)):
  Cont 0 (exec Tryz.prog (tab (n+8)) 0 111 (livesOf 23) big fpa2_C15) (livesOf 23 15) (fpa2_h15 a0 sub r i_15 i2_15 out_15) (fpa2_h15 a0 sub r i_15 (i2_15+1) out_15):=by
 have C1_:i2_15≤sub.size:=by omega
 have C2_:i2_15<sub.size:=by omega
 have C4_:((b3.toNat:Int)==59)=false:=by simpa using C4
 have C4_n:((b3.toNat:Int) !=59)=true:=by simpa using C4
 have W5_:IntKind.i64.wrap ((i2_15:Int)+1)=(i2_15:Int)+1:=wr64 W5.1 W5.2
 have EG3:∀h,(sub)[i2_15]'h=b3:=fun h=>Option.some.inj ((getElem?_pos (sub) (i2_15) h).symm.trans E3)
 unfold Cont
 simp+decide [EG3,fpa2_h15,loopsOf, Tryz.f23,fpa2_C15,C1,C1_,C2,C2_,E3,C4_,C4_n,W5_]
theorem fpa2_r15_2(C2:(i2_15:Int)<(sub.size:Int))(E3:sub[i2_15]?=some b3)(C4:(b3.toNat:Int)=59)(U5:0≤i_15∧i_15≤(i2_15:Int)∧(i2_15:Int)≤(sub.size:Int))(D5:sub7=sub.extract i_15.toNat i2_15)(K6:run (n+7) 66 [.lit (.string sub7),.lit (.int .i64 i_15)]=some (.tup [formV r18,.lit (.int .i64 r19),.lit (.bool r20)]))(C7:r20=true)(M8:out_15.length+1≤100000000)(W9:InI ((i2_15:Int)+1)):
  Cont 0 (exec Tryz.prog (tab (n+8)) 0 111 (livesOf 23) big fpa2_C15) (livesOf 23 15) (fpa2_h15 a0 sub r i_15 i2_15 out_15) (fpa2_h15 a0 sub r ((i2_15:Int)+1) (i2_15+1) (out_15++[r18])):=by
 have C1_:i2_15≤sub.size:=by omega
 have C2_:i2_15<sub.size:=by omega
 have C4_:((b3.toNat:Int)==59)=true:=by rw [C4];simp
 have C4_n:((b3.toNat:Int) !=59)=false:=by rw [C4];simp
 have D5_:=D5.symm
 simp only [formV] at K6
 have M8_:∀b,b≤10000→roomy (out_15.length+1) b=true:=fun b hb=>roomy_s M8 hb
 have W9_:IntKind.i64.wrap ((i2_15:Int)+1)=(i2_15:Int)+1:=wr64 W9.1 W9.2
 have EG3:∀h,(sub)[i2_15]'h=b3:=fun h=>Option.some.inj ((getElem?_pos (sub) (i2_15) h).symm.trans E3)
 rw [C7] at K6
 unfold Cont
 simp+decide [EG3,fpa2_h15,loopsOf, Tryz.f23,fpa2_C15,C1,C1_,C2,C2_,E3,C4_,C4_n,U5,D5_,K6,C7,M8_,W9_]
theorem fpa2_r15_3(C2:¬(i2_15:Int)<(sub.size:Int))(U3:0≤i_15∧i_15≤(i2_15:Int)∧(i2_15:Int)≤(sub.size:Int))(D3:sub8=sub.extract i_15.toNat i2_15)(K4:run (n+7) 66 [.lit (.string sub8),.lit (.int .i64 i_15)]=some (.tup [formV r21,.lit (.int .i64 r22),.lit (.bool r23)]))(C5:r23=true)(M6:out_15.length+1≤100000000)(W7:InI ((i2_15:Int)+1)):
  Cont 0 (exec Tryz.prog (tab (n+8)) 0 111 (livesOf 23) big fpa2_C15) (livesOf 23 15) (fpa2_h15 a0 sub r i_15 i2_15 out_15) (fpa2_h15 a0 sub r ((i2_15:Int)+1) (i2_15+1) (out_15++[r21])):=by
 have C1_:i2_15≤sub.size:=by omega
 have C2_:¬i2_15<sub.size:=by omega
 have D3_:=D3.symm
 simp only [formV] at K4
 have M6_:∀b,b≤10000→roomy (out_15.length+1) b=true:=fun b hb=>roomy_s M6 hb
 have W7_:IntKind.i64.wrap ((i2_15:Int)+1)=(i2_15:Int)+1:=wr64 W7.1 W7.2
 rw [C5] at K4
 unfold Cont
 simp+decide [fpa2_h15,loopsOf, Tryz.f23,fpa2_C15,C1,C1_,C2,C2_,U3,D3_,K4,C5,M6_,W7_]
theorem fpa2_x15_1(C2:(i2_15:Int)<(sub.size:Int))(E3:sub[i2_15]?=some b3)(C4:(b3.toNat:Int)=59)(U5:0≤i_15∧i_15≤(i2_15:Int)∧(i2_15:Int)≤(sub.size:Int))(D5:sub7=sub.extract i_15.toNat i2_15)(K6:run (n+7) 66 [.lit (.string sub7),.lit (.int .i64 i_15)]=some (.tup [formV r18,.lit (.int .i64 r19),.lit (.bool r20)]))(C7:r20=false):
  Leave 0 (exec Tryz.prog (tab (n+8)) 0 111 (livesOf 23) big fpa2_C15) (livesOf 23 (outOf 15)) (fpa2_h15 a0 sub r i_15 i2_15 out_15) (.ret) (fpa2_o15a a0 r19 r out_15):=by
 have C1_:i2_15≤sub.size:=by omega
 have C2_:i2_15<sub.size:=by omega
 have C4_:((b3.toNat:Int)==59)=true:=by rw [C4];simp
 have C4_n:((b3.toNat:Int) !=59)=false:=by rw [C4];simp
 have D5_:=D5.symm
 simp only [formV] at K6
 have EG3:∀h,(sub)[i2_15]'h=b3:=fun h=>Option.some.inj ((getElem?_pos (sub) (i2_15) h).symm.trans E3)
 rw [C7] at K6
 unfold Leave
 simp+decide [EG3,fpa2_h15,loopsOf, Tryz.f23,fpa2_o15a,fpa2_C15,C1,C1_,C2,C2_,E3,C4_,C4_n,U5,D5_,K6,C7]
theorem fpa2_x15_2(C2:¬(i2_15:Int)<(sub.size:Int))(U3:0≤i_15∧i_15≤(i2_15:Int)∧(i2_15:Int)≤(sub.size:Int))(D3:sub8=sub.extract i_15.toNat i2_15)(K4:run (n+7) 66 [.lit (.string sub8),.lit (.int .i64 i_15)]=some (.tup [formV r21,.lit (.int .i64 r22),.lit (.bool r23)]))(C5:r23=false):
  Leave 0 (exec Tryz.prog (tab (n+8)) 0 111 (livesOf 23) big fpa2_C15) (livesOf 23 (outOf 15)) (fpa2_h15 a0 sub r i_15 i2_15 out_15) (.ret) (fpa2_o15b a0 r22 r out_15):=by
 have C1_:i2_15≤sub.size:=by omega
 have C2_:¬i2_15<sub.size:=by omega
 have D3_:=D3.symm
 simp only [formV] at K4
 rw [C5] at K4
 unfold Leave
 simp+decide [fpa2_h15,loopsOf, Tryz.f23,fpa2_o15b,fpa2_C15,C1,C1_,C2,C2_,U3,D3_,K4,C5]
end
theorem fpa2_x15_3(C1:¬(i2_15:Int)≤(sub.size:Int)):
  Leave 0 (exec Tryz.prog (tab (n+8)) 0 111 (livesOf 23) big fpa2_C15) (livesOf 23 (outOf 15)) (fpa2_h15 a0 sub r i_15 i2_15 out_15) (.exit 0) (fpa2_o15c a0 r out_15):=by
 have C1_:¬i2_15≤sub.size:=by omega
 unfold Leave
 simp+decide [fpa2_h15,loopsOf, Tryz.f23,fpa2_o15c,fpa2_C15,C1,C1_]
section
variable(K1:(oLastIndex) [.lit (.string a0),.lit (.string (⟨#[109,97,114,103,105,110]⟩:ByteArray))]=some (.lit (.int .i64 r)))
include K1
section
variable(C2:0≤r)(U3:0≤0∧0≤r∧r≤(a0.size:Int))(D3:sub=a0.extract 0 r.toNat)(W4:InI (r+6))(K5:run (n+7) 64 [.lit (.string sub)]=some (.lit (.string r2)))(K6:(oHasPrefix) [.lit (.string r2),.lit (.string (⟨#[116,111,112]⟩:ByteArray))]=some (.lit (.bool r3)))
include C2 U3 D3 W4 K5 K6
section
variable(C7:r3=true)(U8:0≤3∧3≤(r2.size:Int)∧(r2.size:Int)≤(r2.size:Int))(D8:sub2=r2.extract 3 r2.size)(K9:run (n+7) 65 [.lit (.string sub2)]=some (.tup [.lit (.int .i64 r4),.lit (.bool r5)]))
include C7 U8 D8 K9
theorem fpa2_f1(C10:r5=false):
  run (n+8) 23 [.lit (.string a0)]=some (.tup [.agg [.lit (.int .i64 0),.lit (.int .i64 0),.lit (.bool false),.sl 1 [],.sl 1 [],.sl 4 []],.lit (.int .i64 0),.lit (.int .i64 4)]):=by
 have D3_:=D3.symm
 have W4_:IntKind.i64.wrap (r+6)=r+6:=wr64 W4.1 W4.2
 have D8_:=D8.symm
 rw [C7] at K6
 rw [C10] at K9
 unfold run fnP
 simp+decide [Tryz.f23,K1,C2,U3,D3_,W4_,K5,K6,C7,U8,D8_,K9,C10]
section
variable(C10:r5=true)(C11:0≤r+6)(U12:0≤r+6∧r+6≤(a0.size:Int)∧(a0.size:Int)≤(a0.size:Int))(D12:sub9=a0.extract ((r+6).toNat) a0.size)(K13:run (n+7) 67 [.lit (.string sub9)]=some (.tup [formV r24,.lit (.bool r25)]))
include C10 C11 U12 D12 K13
theorem fpa2_f2(C14:r25=false):
  run (n+8) 23 [.lit (.string a0)]=some (.tup [.agg [.lit (.int .i64 0),.lit (.int .i64 0),.lit (.bool false),.sl 1 [],.sl 1 [],.sl 4 []],.lit (.int .i64 (r+6)),.lit (.int .i64 4)]):=by
 have D3_:=D3.symm
 have W4_:IntKind.i64.wrap (r+6)=r+6:=wr64 W4.1 W4.2
 have D8_:=D8.symm
 have D12_:=D12.symm
 simp only [formV] at K13
 rw [C7] at K6
 rw [C10] at K9
 rw [C14] at K13
 unfold run fnP
 simp+decide [Tryz.f23,K1,C2,U3,D3_,W4_,K5,K6,C7,U8,D8_,K9,C10,C11,U12,D12_,K13,C14]
section
variable(C14:r25=true)(U15:0≤r+6∧r+6≤(a0.size:Int)∧(a0.size:Int)≤(a0.size:Int))(D15:sub10=a0.extract ((r+6).toNat) a0.size)(K16:(oContains) [.lit (.string sub10),.lit (.string (⟨#[121]⟩:ByteArray))]=some (.lit (.bool r26)))
include C14 U15 D15 K16
theorem fpa2_f3(C17:r26=true):
  run (n+8) 23 [.lit (.string a0)]=some (.tup [.agg [.lit (.int .i64 0),.lit (.int .i64 0),.lit (.bool false),.sl 1 [],.sl 1 [],.sl 4 []],.lit (.int .i64 (r+6)),.lit (.int .i64 4)]):=by
 obtain rfl:sub10=sub9:=D15.trans D12.symm
 have D3_:=D3.symm
 have W4_:IntKind.i64.wrap (r+6)=r+6:=wr64 W4.1 W4.2
 have D8_:=D8.symm
 have D12_:=D12.symm
 simp only [formV] at K13
 have D15_:=D15.symm
 rw [C7] at K6
 rw [C10] at K9
 rw [C14] at K13
 rw [C17] at K16
 unfold run fnP
 simp+decide [Tryz.f23,K1,C2,U3,D3_,W4_,K5,K6,C7,U8,D8_,K9,C10,C11,U12,D12_,K13,C14,U15,D15_,K16,C17]
section
variable(C17:r26=false)(K18:run (n+7) 20 [.agg [.lit (.int .i64 1),.lit (.int .i64 r4),.lit (.bool (rawQ r24.2).s),natA (rawQ r24.2).l1,natA (rawQ r24.2).l2,.sl 4 []],.lit (.int .i64 256)]=some (.lit (.bool r27)))
include C17 K18
theorem fpa2_f4(C19:r27=false):
  run (n+8) 23 [.lit (.string a0)]=some (.tup [.agg [.lit (.int .i64 0),.lit (.int .i64 0),.lit (.bool false),.sl 1 [],.sl 1 [],.sl 4 []],.lit (.int .i64 0),.lit (.int .i64 1)]):=by
 obtain rfl:sub10=sub9:=D15.trans D12.symm
 have D3_:=D3.symm
 have W4_:IntKind.i64.wrap (r+6)=r+6:=wr64 W4.1 W4.2
 have D8_:=D8.symm
 have D12_:=D12.symm
 simp only [formV] at K13
 have D15_:=D15.symm
 rw [C7] at K6
 rw [C10] at K9
 rw [C14] at K13
 rw [C17] at K16
 rw [C19] at K18
 unfold run fnP
 simp+decide [Tryz.f23,K1,C2,U3,D3_,W4_,K5,K6,C7,U8,D8_,K9,C10,C11,U12,D12_,K13,C14,U15,D15_,K16,C17,K18,C19]
theorem fpa2_f5(C19:r27=true):
  run (n+8) 23 [.lit (.string a0)]=some (.tup [.agg [.lit (.int .i64 1),.lit (.int .i64 r4),.lit (.bool (rawQ r24.2).s),natA (rawQ r24.2).l1,natA (rawQ r24.2).l2,.sl 4 []],.lit (.int .i64 0),.lit (.int .i64 0)]):=by
 obtain rfl:sub10=sub9:=D15.trans D12.symm
 have D3_:=D3.symm
 have W4_:IntKind.i64.wrap (r+6)=r+6:=wr64 W4.1 W4.2
 have D8_:=D8.symm
 have D12_:=D12.symm
 simp only [formV] at K13
 have D15_:=D15.symm
 rw [C7] at K6
 rw [C10] at K9
 rw [C14] at K13
 rw [C17] at K16
 rw [C19] at K18
 unfold run fnP
 simp+decide [Tryz.f23,K1,C2,U3,D3_,W4_,K5,K6,C7,U8,D8_,K9,C10,C11,U12,D12_,K13,C14,U15,D15_,K16,C17,K18,C19]
end
end
end
end
theorem fpa2_f8(C7:r3=false)(L8:loopG Tryz.prog (tab (n+8)) 0 111 (livesOf 23) 15 fpa2_C15 (fpa2_h15 a0 sub (r+6) 0 0 [])=some (.ret,fpa2_o15a a0 r19 (r+6) out_15)):
  run (n+8) 23 [.lit (.string a0)]=some (.tup [.agg [.lit (.int .i64 0),.lit (.int .i64 0),.lit (.bool false),.sl 1 [],.sl 1 [],.sl 4 []],.lit (.int .i64 r19),.lit (.int .i64 4)]):=by
 have D3_:=D3.symm
 have W4_:IntKind.i64.wrap (r+6)=r+6:=wr64 W4.1 W4.2
 rw [C7] at K6
 unfold run fnP
 simp+decide [Tryz.f23,K1,C2,U3,D3_,W4_,K5,K6,C7]
 rw [loopX_G (C':=fpa2_C15) (e:=(fpa2_h15 a0 sub (r+6) 0 0 [])) ?_ ?_,L8]
 rotate_left
 ·kernel_rfl
 ·simp+decide [fpa2_h15,K1,C2,U3,D3_,W4_,K5,K6,C7]
 simp+decide [fpa2_o15a,K1,C2,U3,D3_,W4_,K5,K6,C7]
theorem fpa2_f9(C7:r3=false)(L8:loopG Tryz.prog (tab (n+8)) 0 111 (livesOf 23) 15 fpa2_C15 (fpa2_h15 a0 sub (r+6) 0 0 [])=some (.ret,fpa2_o15b a0 r22 (r+6) out_15)):
  run (n+8) 23 [.lit (.string a0)]=some (.tup [.agg [.lit (.int .i64 0),.lit (.int .i64 0),.lit (.bool false),.sl 1 [],.sl 1 [],.sl 4 []],.lit (.int .i64 r22),.lit (.int .i64 4)]):=by
 have D3_:=D3.symm
 have W4_:IntKind.i64.wrap (r+6)=r+6:=wr64 W4.1 W4.2
 rw [C7] at K6
 unfold run fnP
 simp+decide [Tryz.f23,K1,C2,U3,D3_,W4_,K5,K6,C7]
 rw [loopX_G (C':=fpa2_C15) (e:=(fpa2_h15 a0 sub (r+6) 0 0 [])) ?_ ?_,L8]
 rotate_left
 ·kernel_rfl
 ·simp+decide [fpa2_h15,K1,C2,U3,D3_,W4_,K5,K6,C7]
 simp+decide [fpa2_o15b,K1,C2,U3,D3_,W4_,K5,K6,C7]
section
variable(C7:r3=false)(L8:loopG Tryz.prog (tab (n+8)) 0 111 (livesOf 23) 15 fpa2_C15 (fpa2_h15 a0 sub (r+6) 0 0 [])=some (.exit 0,fpa2_o15c a0 (r+6) out_15))(C9:0≤r+6)(U10:0≤r+6∧r+6≤(a0.size:Int)∧(a0.size:Int)≤(a0.size:Int))(D10:sub11=a0.extract ((r+6).toNat) a0.size)(K11:run (n+7) 67 [.lit (.string sub11)]=some (.tup [formV r29,.lit (.bool r30)]))
include C7 L8 C9 U10 D10 K11
theorem fpa2_f10(C12:r30=false):
  run (n+8) 23 [.lit (.string a0)]=some (.tup [.agg [.lit (.int .i64 0),.lit (.int .i64 0),.lit (.bool false),.sl 1 [],.sl 1 [],.sl 4 []],.lit (.int .i64 (r+6)),.lit (.int .i64 4)]):=by
 have D3_:=D3.symm
 have W4_:IntKind.i64.wrap (r+6)=r+6:=wr64 W4.1 W4.2
 have D10_:=D10.symm
 simp only [formV] at K11
 rw [C7] at K6
 rw [C12] at K11
 unfold run fnP
 simp+decide [Tryz.f23,K1,C2,U3,D3_,W4_,K5,K6,C7,C9,U10,D10_,K11,C12]
 rw [loopX_G (C':=fpa2_C15) (e:=(fpa2_h15 a0 sub (r+6) 0 0 [])) ?_ ?_,L8]
 rotate_left
 ·kernel_rfl
 ·simp+decide [fpa2_h15,K1,C2,U3,D3_,W4_,K5,K6,C7,C9,U10,D10_,K11,C12]
 simp+decide [fpa2_o15c,K1,C2,U3,D3_,W4_,K5,K6,C7,C9,U10,D10_,K11,C12]
section
variable(C12:r30=true)(U13:0≤r+6∧r+6≤(a0.size:Int)∧(a0.size:Int)≤(a0.size:Int))(D13:sub12=a0.extract ((r+6).toNat) a0.size)(K14:(oContains) [.lit (.string sub12),.lit (.string (⟨#[121]⟩:ByteArray))]=some (.lit (.bool r31)))
include C12 U13 D13 K14
theorem fpa2_f11(C15:r31=true):
  run (n+8) 23 [.lit (.string a0)]=some (.tup [.agg [.lit (.int .i64 0),.lit (.int .i64 0),.lit (.bool false),.sl 1 [],.sl 1 [],.sl 4 []],.lit (.int .i64 (r+6)),.lit (.int .i64 4)]):=by
 obtain rfl:sub12=sub11:=D13.trans D10.symm
 have D3_:=D3.symm
 have W4_:IntKind.i64.wrap (r+6)=r+6:=wr64 W4.1 W4.2
 have D10_:=D10.symm
 simp only [formV] at K11
 have D13_:=D13.symm
 rw [C7] at K6
 rw [C12] at K11
 rw [C15] at K14
 unfold run fnP
 simp+decide [Tryz.f23,K1,C2,U3,D3_,W4_,K5,K6,C7,C9,U10,D10_,K11,C12,U13,D13_,K14,C15]
 rw [loopX_G (C':=fpa2_C15) (e:=(fpa2_h15 a0 sub (r+6) 0 0 [])) ?_ ?_,L8]
 rotate_left
 ·kernel_rfl
 ·simp+decide [fpa2_h15,K1,C2,U3,D3_,W4_,K5,K6,C7,C9,U10,D10_,K11,C12,U13,D13_,K14,C15]
 simp+decide [fpa2_o15c,K1,C2,U3,D3_,W4_,K5,K6,C7,C9,U10,D10_,K11,C12,U13,D13_,K14,C15]
section
variable(C15:r31=false)(K16:run (n+7) 20 [.agg [.lit (.int .i64 2),.lit (.int .i64 0),.lit (.bool (rawQ r29.2).s),natA (rawQ r29.2).l1,natA (rawQ r29.2).l2,.sl 4 (out_15.map formC)],.lit (.int .i64 256)]=some (.lit (.bool r32)))
include C15 K16
theorem fpa2_f12(C17:r32=false):
  run (n+8) 23 [.lit (.string a0)]=some (.tup [.agg [.lit (.int .i64 0),.lit (.int .i64 0),.lit (.bool false),.sl 1 [],.sl 1 [],.sl 4 []],.lit (.int .i64 0),.lit (.int .i64 1)]):=by
 obtain rfl:sub12=sub11:=D13.trans D10.symm
 have D3_:=D3.symm
 have W4_:IntKind.i64.wrap (r+6)=r+6:=wr64 W4.1 W4.2
 have D10_:=D10.symm
 simp only [formV] at K11
 have D13_:=D13.symm
 rw [C7] at K6
 rw [C12] at K11
 rw [C15] at K14
 rw [C17] at K16
 unfold run fnP
 simp+decide [Tryz.f23,K1,C2,U3,D3_,W4_,K5,K6,C7,C9,U10,D10_,K11,C12,U13,D13_,K14,C15,K16,C17]
 rw [loopX_G (C':=fpa2_C15) (e:=(fpa2_h15 a0 sub (r+6) 0 0 [])) ?_ ?_,L8]
 rotate_left
 ·kernel_rfl
 ·simp+decide [fpa2_h15,K1,C2,U3,D3_,W4_,K5,K6,C7,C9,U10,D10_,K11,C12,U13,D13_,K14,C15,K16,C17]
 simp+decide [fpa2_o15c,K1,C2,U3,D3_,W4_,K5,K6,C7,C9,U10,D10_,K11,C12,U13,D13_,K14,C15,K16,C17]
theorem fpa2_f13(C17:r32=true):
  run (n+8) 23 [.lit (.string a0)]=some (.tup [.agg [.lit (.int .i64 2),.lit (.int .i64 0),.lit (.bool (rawQ r29.2).s),natA (rawQ r29.2).l1,natA (rawQ r29.2).l2,.sl 4 (out_15.map formC)],.lit (.int .i64 0),.lit (.int .i64 0)]):=by
 obtain rfl:sub12=sub11:=D13.trans D10.symm
 have D3_:=D3.symm
 have W4_:IntKind.i64.wrap (r+6)=r+6:=wr64 W4.1 W4.2
 have D10_:=D10.symm
 simp only [formV] at K11
 have D13_:=D13.symm
 rw [C7] at K6
 rw [C12] at K11
 rw [C15] at K14
 rw [C17] at K16
 unfold run fnP
 simp+decide [Tryz.f23,K1,C2,U3,D3_,W4_,K5,K6,C7,C9,U10,D10_,K11,C12,U13,D13_,K14,C15,K16,C17]
 rw [loopX_G (C':=fpa2_C15) (e:=(fpa2_h15 a0 sub (r+6) 0 0 [])) ?_ ?_,L8]
 rotate_left
 ·kernel_rfl
 ·simp+decide [fpa2_h15,K1,C2,U3,D3_,W4_,K5,K6,C7,C9,U10,D10_,K11,C12,U13,D13_,K14,C15,K16,C17]
 simp+decide [fpa2_o15c,K1,C2,U3,D3_,W4_,K5,K6,C7,C9,U10,D10_,K11,C12,U13,D13_,K14,C15,K16,C17]
end
end
end
end
section
variable(C2:¬0≤r)(K3:run (n+7) 64 [.lit (.string a0)]=some (.lit (.string r34)))(K4:(oHasPrefix) [.lit (.string r34),.lit (.string (⟨#[116,111,112]⟩:ByteArray))]=some (.lit (.bool r35)))
include C2 K3 K4
section
variable(C5:r35=true)(U6:0≤3∧3≤(r34.size:Int)∧(r34.size:Int)≤(r34.size:Int))(D6:sub13=r34.extract 3 r34.size)(K7:run (n+7) 65 [.lit (.string sub13)]=some (.tup [.lit (.int .i64 r36),.lit (.bool r37)]))
include C5 U6 D6 K7
theorem fpa2_f16(C8:r37=false):
  run (n+8) 23 [.lit (.string a0)]=some (.tup [.agg [.lit (.int .i64 0),.lit (.int .i64 0),.lit (.bool false),.sl 1 [],.sl 1 [],.sl 4 []],.lit (.int .i64 0),.lit (.int .i64 4)]):=by
 have D6_:=D6.symm
 rw [C5] at K4
 rw [C8] at K7
 unfold run fnP
 simp+decide [Tryz.f23,K1,C2,K3,K4,C5,U6,D6_,K7,C8]
section
variable(C8:r37=true)(K9:run (n+7) 20 [.agg [.lit (.int .i64 1),.lit (.int .i64 r36),.lit (.bool false),.sl 1 [],.sl 1 [],.sl 4 []],.lit (.int .i64 256)]=some (.lit (.bool r38)))
include C8 K9
theorem fpa2_f17(C10:r38=false):
  run (n+8) 23 [.lit (.string a0)]=some (.tup [.agg [.lit (.int .i64 0),.lit (.int .i64 0),.lit (.bool false),.sl 1 [],.sl 1 [],.sl 4 []],.lit (.int .i64 0),.lit (.int .i64 1)]):=by
 have D6_:=D6.symm
 rw [C5] at K4
 rw [C8] at K7
 rw [C10] at K9
 unfold run fnP
 simp+decide [Tryz.f23,K1,C2,K3,K4,C5,U6,D6_,K7,C8,K9,C10]
theorem fpa2_f18(C10:r38=true):
  run (n+8) 23 [.lit (.string a0)]=some (.tup [.agg [.lit (.int .i64 1),.lit (.int .i64 r36),.lit (.bool false),.sl 1 [],.sl 1 [],.sl 4 []],.lit (.int .i64 0),.lit (.int .i64 0)]):=by
 have D6_:=D6.symm
 rw [C5] at K4
 rw [C8] at K7
 rw [C10] at K9
 unfold run fnP
 simp+decide [Tryz.f23,K1,C2,K3,K4,C5,U6,D6_,K7,C8,K9,C10]
end
end
theorem fpa2_f19(C5:r35=false)(L6:loopG Tryz.prog (tab (n+8)) 0 111 (livesOf 23) 15 fpa2_C15 (fpa2_h15 a0 a0 r 0 0 [])=some (.ret,fpa2_o15a a0 r19 r out_15)):
  run (n+8) 23 [.lit (.string a0)]=some (.tup [.agg [.lit (.int .i64 0),.lit (.int .i64 0),.lit (.bool false),.sl 1 [],.sl 1 [],.sl 4 []],.lit (.int .i64 r19),.lit (.int .i64 4)]):=by
 rw [C5] at K4
 unfold run fnP
 simp+decide [Tryz.f23,K1,C2,K3,K4,C5]
 rw [loopX_G (C':=fpa2_C15) (e:=(fpa2_h15 a0 a0 r 0 0 [])) ?_ ?_,L6]
 rotate_left
 ·kernel_rfl
 ·simp+decide [fpa2_h15,K1,C2,K3,K4,C5]
 simp+decide [fpa2_o15a,K1,C2,K3,K4,C5]
theorem fpa2_f20(C5:r35=false)(L6:loopG Tryz.prog (tab (n+8)) 0 111 (livesOf 23) 15 fpa2_C15 (fpa2_h15 a0 a0 r 0 0 [])=some (.ret,fpa2_o15b a0 r22 r out_15)):
  run (n+8) 23 [.lit (.string a0)]=some (.tup [.agg [.lit (.int .i64 0),.lit (.int .i64 0),.lit (.bool false),.sl 1 [],.sl 1 [],.sl 4 []],.lit (.int .i64 r22),.lit (.int .i64 4)]):=by
 rw [C5] at K4
 unfold run fnP
 simp+decide [Tryz.f23,K1,C2,K3,K4,C5]
 rw [loopX_G (C':=fpa2_C15) (e:=(fpa2_h15 a0 a0 r 0 0 [])) ?_ ?_,L6]
 rotate_left
 ·kernel_rfl
 ·simp+decide [fpa2_h15,K1,C2,K3,K4,C5]
 simp+decide [fpa2_o15b,K1,C2,K3,K4,C5]
section
variable(C5:r35=false)(L6:loopG Tryz.prog (tab (n+8)) 0 111 (livesOf 23) 15 fpa2_C15 (fpa2_h15 a0 a0 r 0 0 [])=some (.exit 0,fpa2_o15c a0 r out_15))(C7:¬0≤r)(K8:run (n+7) 20 [.agg [.lit (.int .i64 2),.lit (.int .i64 0),.lit (.bool false),.sl 1 [],.sl 1 [],.sl 4 (out_15.map formC)],.lit (.int .i64 256)]=some (.lit (.bool r43)))
include C5 L6 C7 K8
theorem fpa2_f25(C9:r43=false):
  run (n+8) 23 [.lit (.string a0)]=some (.tup [.agg [.lit (.int .i64 0),.lit (.int .i64 0),.lit (.bool false),.sl 1 [],.sl 1 [],.sl 4 []],.lit (.int .i64 0),.lit (.int .i64 1)]):=by
 rw [C5] at K4
 rw [C9] at K8
 unfold run fnP
 simp+decide [Tryz.f23,K1,C2,K3,K4,C5,C7,K8,C9]
 rw [loopX_G (C':=fpa2_C15) (e:=(fpa2_h15 a0 a0 r 0 0 [])) ?_ ?_,L6]
 rotate_left
 ·kernel_rfl
 ·simp+decide [fpa2_h15,K1,C2,K3,K4,C5,C7,K8,C9]
 simp+decide [fpa2_o15c,K1,C2,K3,K4,C5,C7,K8,C9]
theorem fpa2_f26(C9:r43=true):
  run (n+8) 23 [.lit (.string a0)]=some (.tup [.agg [.lit (.int .i64 2),.lit (.int .i64 0),.lit (.bool false),.sl 1 [],.sl 1 [],.sl 4 (out_15.map formC)],.lit (.int .i64 0),.lit (.int .i64 0)]):=by
 rw [C5] at K4
 rw [C9] at K8
 unfold run fnP
 simp+decide [Tryz.f23,K1,C2,K3,K4,C5,C7,K8,C9]
 rw [loopX_G (C':=fpa2_C15) (e:=(fpa2_h15 a0 a0 r 0 0 [])) ?_ ?_,L6]
 rotate_left
 ·kernel_rfl
 ·simp+decide [fpa2_h15,K1,C2,K3,K4,C5,C7,K8,C9]
 simp+decide [fpa2_o15c,K1,C2,K3,K4,C5,C7,K8,C9]
end
end
end
end
end
section
open Go.RowKit
section
variable {a0 : ByteArray} {n : Nat} {r : Bool} {r3 : Form} {r5 : Int} {r2 : ByteArray} {r4 : Int}
theorem cfm_f1(K1:(oContains) [.lit (.string a0),.lit (.string (⟨#[120]⟩:ByteArray))]=some (.lit (.bool r)))(C2:r=true):
  run (n+12) 61 [.lit (.string a0)]=some (.tup [.agg [.sl 4 [],.lit (.bool false),.sl 1 [],.sl 1 []],.lit (.bool false)]):=by
 rw [C2] at K1
 unfold run fnP
 simp+decide [Tryz.f61,K1,C2]
theorem cfm_f2(K1:(oContains) [.lit (.string a0),.lit (.string (⟨#[120]⟩:ByteArray))]=some (.lit (.bool r)))(C2:r=false)(K3:(oReplaceAll) [.lit (.string a0),.lit (.string (⟨#[121]⟩:ByteArray)),.lit (.string (⟨#[120]⟩:ByteArray))]=some (.lit (.string r2)))(K4:run (n+11) 124 [.lit (.string r2)]=some (.tup [formV r3,.lit (.int .i64 r4),.lit (.int .i64 r5)])):
  run (n+12) 61 [.lit (.string a0)]=some (.tup [formV r3,.lit (.bool (r5==0))]):=by
 simp only [formV] at K4
 rw [C2] at K1
 unfold run fnP
 simp+decide [Tryz.f61,K1,C2,K3,K4]
end
section
variable {a0 : ByteArray} {n : Nat} {r : Bool} {r3 : Form} {r5 : Int} {r2 : ByteArray} {r4 : Int}
theorem ffm_f1(K1:(oContains) [.lit (.string a0),.lit (.string (⟨#[120]⟩:ByteArray))]=some (.lit (.bool r)))(C2:r=true):
  run (n+6) 67 [.lit (.string a0)]=some (.tup [.agg [.sl 4 [],.lit (.bool false),.sl 1 [],.sl 1 []],.lit (.bool false)]):=by
 rw [C2] at K1
 unfold run fnP
 simp+decide [Tryz.f67,K1,C2]
theorem ffm_f2(K1:(oContains) [.lit (.string a0),.lit (.string (⟨#[120]⟩:ByteArray))]=some (.lit (.bool r)))(C2:r=false)(K3:(oSwap) [.lit (.string a0),.lit (.int .u8 121),.lit (.int .u8 120)]=some (.lit (.string r2)))(K4:run (n+5) 128 [.lit (.string r2)]=some (.tup [formV r3,.lit (.int .i64 r4),.lit (.int .i64 r5)])):
  run (n+6) 67 [.lit (.string a0)]=some (.tup [formV r3,.lit (.bool (r5==0))]):=by
 simp only [formV] at K4
 rw [C2] at K1
 unfold run fnP
 simp+decide [Tryz.f67,K1,C2,K3,K4]
end
section
variable {a0 : ByteArray} {n : Nat} {r2 : Int} {r : Int}
section
variable(K1:(oIndex) [.lit (.string a0),.lit (.string (⟨#[62,61]⟩:ByteArray))]=some (.lit (.int .i64 r)))(K2:(oIndex) [.lit (.string a0),.lit (.string (⟨#[60,61]⟩:ByteArray))]=some (.lit (.int .i64 r2)))
include K1 K2
theorem csp_f1(C3:r<0):
  run (n+4) 123 [.lit (.string a0)]=some (.lit (.int .i64 r2)):=by
 unfold run fnP
 simp+decide [Tryz.f123,K1,K2,C3]
theorem csp_f2(C3:¬r<0)(C4:0≤r2)(C5:r2<r):
  run (n+4) 123 [.lit (.string a0)]=some (.lit (.int .i64 r2)):=by
 unfold run fnP
 simp+decide [Tryz.f123,K1,K2,C3,C4,C5]
theorem csp_f3(C3:¬r<0)(C4:0≤r2)(C5:¬r2<r):
  run (n+4) 123 [.lit (.string a0)]=some (.lit (.int .i64 r)):=by
 unfold run fnP
 simp+decide [Tryz.f123,K1,K2,C3,C4,C5]
theorem csp_f4(C3:¬r<0)(C4:¬0≤r2):
  run (n+4) 123 [.lit (.string a0)]=some (.lit (.int .i64 r)):=by
 unfold run fnP
 simp+decide [Tryz.f123,K1,K2,C3,C4]
end
end
noncomputable def ftr_C1:Code:=(loopsOf (bodyOf Tryz.f64)).getD 0 .skip
noncomputable def ftr_C3:Code:=(loopsOf (bodyOf Tryz.f64)).getD 1 .skip
def ftr_h1(str_1:ByteArray):St:=
 ⟨[(0,.lit (.string str_1))],
  [],0⟩
def ftr_h3(str_3:ByteArray):St:=
 ⟨[(0,.lit (.string str_3))],
  [],0⟩
def ftr_o1a(str_1:ByteArray):St:=
 ⟨[(0,.lit (.string str_1))],
  [],0⟩
def ftr_o3a(str_3:ByteArray):St:=
 ⟨[(0,.lit (.string str_3))],
  [],0⟩
section
variable {sub3 : ByteArray} {str_1 : ByteArray} {b3 : UInt8} {n : Nat} {b6 : UInt8} {str_3 : ByteArray} {sub6 : ByteArray} {a0 : ByteArray}
theorem ftr_r1_1(C1:0<(str_1.size:Int))(E2:str_1[0]?=some b3)(C3:(b3.toNat:Int)=32)(U4:0≤1∧1≤(str_1.size:Int)∧(str_1.size:Int)≤(str_1.size:Int))(D4:sub3=str_1.extract 1 str_1.size):
  Cont 0 (exec Tryz.prog (tab n) 0 30 (livesOf 64) big ftr_C1) (livesOf 64 1) (ftr_h1 str_1) (ftr_h1 sub3):=by
 have C1_:0<str_1.size:=by omega
 have C1_z:(str_1.size:Int)≠0:=by omega
 have C1_e:((str_1.size:Int)==0)=false:=by simpa using C1_z
 have C1_g:((str_1.size:Int) !=0)=true:=by simpa using C1_z
 have C3_:((b3.toNat:Int)==32)=true:=by rw [C3];simp
 have C3_n:((b3.toNat:Int) !=32)=false:=by rw [C3];simp
 have D4_:=D4.symm
 have EG2:∀h,(str_1)[0]'h=b3:=fun h=>Option.some.inj ((getElem?_pos (str_1) (0) h).symm.trans E2)
 unfold Cont
 simp+decide [EG2,ftr_h1,loopsOf, Tryz.f64,ftr_C1,C1,C1_,C1_e,C1_g,E2,C3_,C3_n,U4,D4_]
theorem ftr_x1_1(C1:0<(str_1.size:Int))(E2:str_1[0]?=some b3)(C3:¬(b3.toNat:Int)=32):
  Leave 0 (exec Tryz.prog (tab n) 0 30 (livesOf 64) big ftr_C1) (livesOf 64 (outOf 1)) (ftr_h1 str_1) (.exit 0) (ftr_o1a str_1):=by
 have C1_:0<str_1.size:=by omega
 have C1_z:(str_1.size:Int)≠0:=by omega
 have C1_e:((str_1.size:Int)==0)=false:=by simpa using C1_z
 have C1_g:((str_1.size:Int) !=0)=true:=by simpa using C1_z
 have C3_:((b3.toNat:Int)==32)=false:=by simpa using C3
 have C3_n:((b3.toNat:Int) !=32)=true:=by simpa using C3
 have EG2:∀h,(str_1)[0]'h=b3:=fun h=>Option.some.inj ((getElem?_pos (str_1) (0) h).symm.trans E2)
 unfold Leave
 simp+decide [EG2,ftr_h1,loopsOf, Tryz.f64,ftr_o1a,ftr_C1,C1,C1_,C1_e,C1_g,E2,C3_,C3_n]
theorem ftr_x1_2(C1:¬0<(str_1.size:Int)):
  Leave 0 (exec Tryz.prog (tab n) 0 30 (livesOf 64) big ftr_C1) (livesOf 64 (outOf 1)) (ftr_h1 str_1) (.exit 0) (ftr_o1a str_1):=by
 have C1_:¬0<str_1.size:=by omega
 have C1_z:(str_1.size:Int)=0:=by omega
 have C1_e:((str_1.size:Int)==0)=true:=by rw [C1_z];simp
 have C1_g:((str_1.size:Int) !=0)=false:=by rw [C1_z];simp
 unfold Leave
 simp+decide [ftr_h1,loopsOf, Tryz.f64,ftr_o1a,ftr_C1,C1,C1_,C1_e,C1_g]
section
variable(C1:0<(str_3.size:Int))(W2:InI ((str_3.size:Int)-1))(E3:str_3[str_3.size-1]?=some b6)(Z3:1≤str_3.size)
include C1 W2 E3 Z3
theorem ftr_r3_1(C4:(b6.toNat:Int)=32)(U6:0≤0∧0≤(str_3.size:Int)-1∧(str_3.size:Int)-1≤(str_3.size:Int))(D6:sub6=str_3.extract 0 (str_3.size-1)):
  Cont 0 (exec Tryz.prog (tab n) 0 30 (livesOf 64) big ftr_C3) (livesOf 64 3) (ftr_h3 str_3) (ftr_h3 sub6):=by
 have C1_:0<str_3.size:=by omega
 have C1_z:(str_3.size:Int)≠0:=by omega
 have C1_e:((str_3.size:Int)==0)=false:=by simpa using C1_z
 have C1_g:((str_3.size:Int) !=0)=true:=by simpa using C1_z
 have W2_:IntKind.i64.wrap ((str_3.size:Int)-1)=(str_3.size:Int)-1:=wr64 W2.1 W2.2
 have Z3_0:(1:Int)≤(str_3.size:Int):=by omega
 have Z3_1:0≤(str_3.size:Int)-1:=by omega
 have C4_:((b6.toNat:Int)==32)=true:=by rw [C4];simp
 have C4_n:((b6.toNat:Int) !=32)=false:=by rw [C4];simp
 have D6_:=D6.symm
 have EG3:∀h,(str_3)[str_3.size-1]'h=b6:=fun h=>Option.some.inj ((getElem?_pos (str_3) (str_3.size-1) h).symm.trans E3)
 unfold Cont
 simp+decide [EG3,ftr_h3,loopsOf, Tryz.f64,ftr_C3,C1,C1_,C1_e,C1_g,W2_,E3,Z3,Z3_0,Z3_1,C4_,C4_n,U6,D6_]
theorem ftr_x3_1(C4:¬(b6.toNat:Int)=32):
  Leave 0 (exec Tryz.prog (tab n) 0 30 (livesOf 64) big ftr_C3) (livesOf 64 (outOf 3)) (ftr_h3 str_3) (.exit 2) (ftr_o3a str_3):=by
 have C1_:0<str_3.size:=by omega
 have C1_z:(str_3.size:Int)≠0:=by omega
 have C1_e:((str_3.size:Int)==0)=false:=by simpa using C1_z
 have C1_g:((str_3.size:Int) !=0)=true:=by simpa using C1_z
 have W2_:IntKind.i64.wrap ((str_3.size:Int)-1)=(str_3.size:Int)-1:=wr64 W2.1 W2.2
 have Z3_0:(1:Int)≤(str_3.size:Int):=by omega
 have Z3_1:0≤(str_3.size:Int)-1:=by omega
 have C4_:((b6.toNat:Int)==32)=false:=by simpa using C4
 have C4_n:((b6.toNat:Int) !=32)=true:=by simpa using C4
 have EG3:∀h,(str_3)[str_3.size-1]'h=b6:=fun h=>Option.some.inj ((getElem?_pos (str_3) (str_3.size-1) h).symm.trans E3)
 unfold Leave
 simp+decide [EG3,ftr_h3,loopsOf, Tryz.f64,ftr_o3a,ftr_C3,C1,C1_,C1_e,C1_g,W2_,E3,Z3,Z3_0,Z3_1,C4_,C4_n]
end
theorem ftr_x3_2(C1:¬0<(str_3.size:Int)):
  Leave 0 (exec Tryz.prog (tab n) 0 30 (livesOf 64) big ftr_C3) (livesOf 64 (outOf 3)) (ftr_h3 str_3) (.exit 2) (ftr_o3a str_3):=by
 have C1_:¬0<str_3.size:=by omega
 have C1_z:(str_3.size:Int)=0:=by omega
 have C1_e:((str_3.size:Int)==0)=true:=by rw [C1_z];simp
 have C1_g:((str_3.size:Int) !=0)=false:=by rw [C1_z];simp
 unfold Leave
 simp+decide [ftr_h3,loopsOf, Tryz.f64,ftr_o3a,ftr_C3,C1,C1_,C1_e,C1_g]
theorem ftr_f1(L1:loopG Tryz.prog (tab n) 0 30 (livesOf 64) 1 ftr_C1 (ftr_h1 a0)=some (.exit 0,ftr_o1a str_1))(L2:loopG Tryz.prog (tab n) 0 30 (livesOf 64) 3 ftr_C3 (ftr_h3 str_1)=some (.exit 2,ftr_o3a str_3)):
  run n 64 [.lit (.string a0)]=some (.lit (.string str_3)):=by
 unfold run fnP
 simp+decide [Tryz.f64]
 rw [loopX_G (C':=ftr_C1) (e:=(ftr_h1 a0)) ?_ ?_,L1]
 rotate_left
 ·kernel_rfl
 ·simp+decide [ftr_h1]
 simp+decide [ftr_o1a]
 rw [loopX_G (C':=ftr_C3) (e:=(ftr_h3 str_1)) ?_ ?_,L2]
 rotate_left
 ·kernel_rfl
 ·simp+decide [ftr_h3]
 simp+decide [ftr_o3a]
end
section
variable {r3 : ByteArray} {r : ByteArray} {r2 : ByteArray} {r4 : Bool} {n : Nat} {a0 : ByteArray} {b : UInt8} {r5 : ByteArray} {r6 : Int} {r7 : AV} {r9 : AV} {r8 : Int}
section
variable(K1:(oTrimLeft) [.lit (.string a0),.lit (.string (⟨#[32]⟩:ByteArray))]=some (.lit (.string r)))(K2:(oTrimPrefix) [.lit (.string r),.lit (.string (⟨#[116,111,112]⟩:ByteArray))]=some (.lit (.string r2)))(K3:(oTrim) [.lit (.string r2),.lit (.string (⟨#[32]⟩:ByteArray))]=some (.lit (.string r3)))(K4:(oHasPrefix) [.lit (.string r2),.lit (.string (⟨#[32]⟩:ByteArray))]=some (.lit (.bool r4)))
include K1 K2 K3 K4
theorem ctg_f1(C5:r4=false):
  run (n+9) 59 [.lit (.string a0)]=some (.tup [.lit (.int .i64 0),.lit (.bool false)]):=by
 rw [C5] at K4
 unfold run fnP
 simp+decide [Tryz.f59,K1,K2,K3,K4,C5]
theorem ctg_f2(C5:r4=true)(C6:r3=(⟨#[]⟩:ByteArray)):
  run (n+9) 59 [.lit (.string a0)]=some (.tup [.lit (.int .i64 0),.lit (.bool false)]):=by
 have C6_:(r3.toList==(⟨#[]⟩:ByteArray).toList)=true:=by rw [C6];simp
 have C6_n:(r3.toList !=(⟨#[]⟩:ByteArray).toList)=false:=by rw [bne,C6_];rfl
 have C6_i:r3.toList.isEmpty=true:=by rw [C6,ba_toList] <;>rfl
 rw [C5] at K4
 unfold run fnP
 simp+decide [Tryz.f59,K1,K2,K3,K4,C5,C6_,C6_n,C6_i]
section
variable(C5:r4=true)(C6:¬r3=(⟨#[]⟩:ByteArray))
include C5 C6
theorem ctg_f3(C7:9<(r3.size:Int)):
  run (n+9) 59 [.lit (.string a0)]=some (.tup [.lit (.int .i64 0),.lit (.bool false)]):=by
 have C6_:(r3.toList==(⟨#[]⟩:ByteArray).toList)=false:=by rw [beq_eq_false_iff_ne];exact fun h=>C6 (ba_inj h)
 have C6_n:(r3.toList !=(⟨#[]⟩:ByteArray).toList)=true:=by rw [bne,C6_];rfl
 have C6_i:r3.toList.isEmpty=false:=by rcases he:r3.toList.isEmpty with _|_;rfl;exact absurd (ba_inj (by rw [List.isEmpty_iff.1 he,ba_toList] <;>rfl)) C6
 have C7_:9<r3.size:=by omega
 rw [C5] at K4
 unfold run fnP
 simp+decide [Tryz.f59,K1,K2,K3,K4,C5,C6_,C6_n,C6_i,C7,C7_]
section
variable(C7:¬9<(r3.size:Int))(E8:r3[0]?=some b)
include C7 E8
theorem ctg_f4(C9:(b.toNat:Int)=48)(C10:1<(r3.size:Int)):
  run (n+9) 59 [.lit (.string a0)]=some (.tup [.lit (.int .i64 0),.lit (.bool false)]):=by
 have C6_:(r3.toList==(⟨#[]⟩:ByteArray).toList)=false:=by rw [beq_eq_false_iff_ne];exact fun h=>C6 (ba_inj h)
 have C6_n:(r3.toList !=(⟨#[]⟩:ByteArray).toList)=true:=by rw [bne,C6_];rfl
 have C6_i:r3.toList.isEmpty=false:=by rcases he:r3.toList.isEmpty with _|_;rfl;exact absurd (ba_inj (by rw [List.isEmpty_iff.1 he,ba_toList] <;>rfl)) C6
 have C7_:¬9<r3.size:=by omega
 have C9_:((b.toNat:Int)==48)=true:=by rw [C9];simp
 have C9_n:((b.toNat:Int) !=48)=false:=by rw [C9];simp
 have C10_:1<r3.size:=by omega
 rw [C5] at K4
 have EG8:∀h,(r3)[0]'h=b:=fun h=>Option.some.inj ((getElem?_pos (r3) (0) h).symm.trans E8)
 unfold run fnP
 simp+decide [EG8, Tryz.f59,K1,K2,K3,K4,C5,C6_,C6_n,C6_i,C7,C7_,E8,C9_,C9_n,C10,C10_]
section
variable(C9:(b.toNat:Int)=48)(C10:¬1<(r3.size:Int))(K11:(oTrim) [.lit (.string r3),.lit (.string (⟨#[48,49,50,51,52,53,54,55,56,57]⟩:ByteArray))]=some (.lit (.string r5)))
include C9 C10 K11
theorem ctg_f5(C12:¬r5=(⟨#[]⟩:ByteArray)):
  run (n+9) 59 [.lit (.string a0)]=some (.tup [.lit (.int .i64 0),.lit (.bool false)]):=by
 have C6_:(r3.toList==(⟨#[]⟩:ByteArray).toList)=false:=by rw [beq_eq_false_iff_ne];exact fun h=>C6 (ba_inj h)
 have C6_n:(r3.toList !=(⟨#[]⟩:ByteArray).toList)=true:=by rw [bne,C6_];rfl
 have C6_i:r3.toList.isEmpty=false:=by rcases he:r3.toList.isEmpty with _|_;rfl;exact absurd (ba_inj (by rw [List.isEmpty_iff.1 he,ba_toList] <;>rfl)) C6
 have C7_:¬9<r3.size:=by omega
 have C9_:((b.toNat:Int)==48)=true:=by rw [C9];simp
 have C9_n:((b.toNat:Int) !=48)=false:=by rw [C9];simp
 have C10_:¬1<r3.size:=by omega
 have C12_:(r5.toList==(⟨#[]⟩:ByteArray).toList)=false:=by rw [beq_eq_false_iff_ne];exact fun h=>C12 (ba_inj h)
 have C12_n:(r5.toList !=(⟨#[]⟩:ByteArray).toList)=true:=by rw [bne,C12_];rfl
 have C12_i:r5.toList.isEmpty=false:=by rcases he:r5.toList.isEmpty with _|_;rfl;exact absurd (ba_inj (by rw [List.isEmpty_iff.1 he,ba_toList] <;>rfl)) C12
 rw [C5] at K4
 have EG8:∀h,(r3)[0]'h=b:=fun h=>Option.some.inj ((getElem?_pos (r3) (0) h).symm.trans E8)
 unfold run fnP
 simp+decide [EG8, Tryz.f59,K1,K2,K3,K4,C5,C6_,C6_n,C6_i,C7,C7_,E8,C9_,C9_n,C10,C10_,K11,C12_,C12_n,C12_i]
theorem ctg_f6(C12:r5=(⟨#[]⟩:ByteArray))(K13:(oAtoi) [.lit (.string r3)]=some (.tup [.lit (.int .i64 r6),r7]))(A14:r7=AV.lit Value.nilIface):
  run (n+9) 59 [.lit (.string a0)]=some (.tup [.lit (.int .i64 r6),.lit (.bool true)]):=by
 have C6_:(r3.toList==(⟨#[]⟩:ByteArray).toList)=false:=by rw [beq_eq_false_iff_ne];exact fun h=>C6 (ba_inj h)
 have C6_n:(r3.toList !=(⟨#[]⟩:ByteArray).toList)=true:=by rw [bne,C6_];rfl
 have C6_i:r3.toList.isEmpty=false:=by rcases he:r3.toList.isEmpty with _|_;rfl;exact absurd (ba_inj (by rw [List.isEmpty_iff.1 he,ba_toList] <;>rfl)) C6
 have C7_:¬9<r3.size:=by omega
 have C9_:((b.toNat:Int)==48)=true:=by rw [C9];simp
 have C9_n:((b.toNat:Int) !=48)=false:=by rw [C9];simp
 have C10_:¬1<r3.size:=by omega
 have C12_:(r5.toList==(⟨#[]⟩:ByteArray).toList)=true:=by rw [C12];simp
 have C12_n:(r5.toList !=(⟨#[]⟩:ByteArray).toList)=false:=by rw [bne,C12_];rfl
 have C12_i:r5.toList.isEmpty=true:=by rw [C12,ba_toList] <;>rfl
 rw [C5] at K4
 have EG8:∀h,(r3)[0]'h=b:=fun h=>Option.some.inj ((getElem?_pos (r3) (0) h).symm.trans E8)
 unfold run fnP
 simp+decide [EG8, Tryz.f59,K1,K2,K3,K4,C5,C6_,C6_n,C6_i,C7,C7_,E8,C9_,C9_n,C10,C10_,K11,C12_,C12_n,C12_i,K13,A14]
end
section
variable(C9:¬(b.toNat:Int)=48)(K10:(oTrim) [.lit (.string r3),.lit (.string (⟨#[48,49,50,51,52,53,54,55,56,57]⟩:ByteArray))]=some (.lit (.string r5)))
include C9 K10
theorem ctg_f7(C11:¬r5=(⟨#[]⟩:ByteArray)):
  run (n+9) 59 [.lit (.string a0)]=some (.tup [.lit (.int .i64 0),.lit (.bool false)]):=by
 have C6_:(r3.toList==(⟨#[]⟩:ByteArray).toList)=false:=by rw [beq_eq_false_iff_ne];exact fun h=>C6 (ba_inj h)
 have C6_n:(r3.toList !=(⟨#[]⟩:ByteArray).toList)=true:=by rw [bne,C6_];rfl
 have C6_i:r3.toList.isEmpty=false:=by rcases he:r3.toList.isEmpty with _|_;rfl;exact absurd (ba_inj (by rw [List.isEmpty_iff.1 he,ba_toList] <;>rfl)) C6
 have C7_:¬9<r3.size:=by omega
 have C9_:((b.toNat:Int)==48)=false:=by simpa using C9
 have C9_n:((b.toNat:Int) !=48)=true:=by simpa using C9
 have C11_:(r5.toList==(⟨#[]⟩:ByteArray).toList)=false:=by rw [beq_eq_false_iff_ne];exact fun h=>C11 (ba_inj h)
 have C11_n:(r5.toList !=(⟨#[]⟩:ByteArray).toList)=true:=by rw [bne,C11_];rfl
 have C11_i:r5.toList.isEmpty=false:=by rcases he:r5.toList.isEmpty with _|_;rfl;exact absurd (ba_inj (by rw [List.isEmpty_iff.1 he,ba_toList] <;>rfl)) C11
 rw [C5] at K4
 have EG8:∀h,(r3)[0]'h=b:=fun h=>Option.some.inj ((getElem?_pos (r3) (0) h).symm.trans E8)
 unfold run fnP
 simp+decide [EG8, Tryz.f59,K1,K2,K3,K4,C5,C6_,C6_n,C6_i,C7,C7_,E8,C9_,C9_n,K10,C11_,C11_n,C11_i]
theorem ctg_f8(C11:r5=(⟨#[]⟩:ByteArray))(K12:(oAtoi) [.lit (.string r3)]=some (.tup [.lit (.int .i64 r8),r9]))(A13:r9=AV.lit Value.nilIface):
  run (n+9) 59 [.lit (.string a0)]=some (.tup [.lit (.int .i64 r8),.lit (.bool true)]):=by
 have C6_:(r3.toList==(⟨#[]⟩:ByteArray).toList)=false:=by rw [beq_eq_false_iff_ne];exact fun h=>C6 (ba_inj h)
 have C6_n:(r3.toList !=(⟨#[]⟩:ByteArray).toList)=true:=by rw [bne,C6_];rfl
 have C6_i:r3.toList.isEmpty=false:=by rcases he:r3.toList.isEmpty with _|_;rfl;exact absurd (ba_inj (by rw [List.isEmpty_iff.1 he,ba_toList] <;>rfl)) C6
 have C7_:¬9<r3.size:=by omega
 have C9_:((b.toNat:Int)==48)=false:=by simpa using C9
 have C9_n:((b.toNat:Int) !=48)=true:=by simpa using C9
 have C11_:(r5.toList==(⟨#[]⟩:ByteArray).toList)=true:=by rw [C11];simp
 have C11_n:(r5.toList !=(⟨#[]⟩:ByteArray).toList)=false:=by rw [bne,C11_];rfl
 have C11_i:r5.toList.isEmpty=true:=by rw [C11,ba_toList] <;>rfl
 rw [C5] at K4
 have EG8:∀h,(r3)[0]'h=b:=fun h=>Option.some.inj ((getElem?_pos (r3) (0) h).symm.trans E8)
 unfold run fnP
 simp+decide [EG8, Tryz.f59,K1,K2,K3,K4,C5,C6_,C6_n,C6_i,C7,C7_,E8,C9_,C9_n,K10,C11_,C11_n,C11_i,K12,A13]
end
end
end
end
end
noncomputable def ftg_C8:Code:=(loopsOf (bodyOf Tryz.f65)).getD 0 .skip
def ftg_h8(r:ByteArray)(i_8:Int)(i2_8:Nat):St:=
 ⟨[(0,.lit (.string r)),(4,.lit (.int .i64 i_8)),(5,.lit (.int .i64 (i2_8:Int)))],
  [],0⟩
def ftg_o8a(i_8:Int):St:=
 ⟨[(2,.lit (.int .i64 0)),(3,.lit (.bool false)),(4,.lit (.int .i64 i_8))],
  [],0⟩
def ftg_o8b(i_8:Int):St:=
 ⟨[(2,.any),(3,.any),(4,.lit (.int .i64 i_8))],
  [],0⟩
section
variable {r : ByteArray} {i_8 : Int} {i2_8 : Nat} {n : Nat} {b5 : UInt8} {a0 : ByteArray} {b : UInt8} {b2 : UInt8}
section
variable(C1:(i2_8:Int)<(r.size:Int))(E2:r[i2_8]?=some b5)
include C1 E2
theorem ftg_r8_1(C3:¬(b5.toNat:Int)<48)(C4:¬57<(b5.toNat:Int))(W5:InI (10*i_8))(W6:IntKind.u8.wrap ((b5.toNat:Int)-48)=(b5.toNat:Int)-48)(W8:InI ((10*i_8)+((b5.toNat:Int)-48)))(W9:InI ((i2_8:Int)+1)):
  Cont 0 (exec Tryz.prog (tab (n+1)) 0 59 (livesOf 65) big ftg_C8) (livesOf 65 8) (ftg_h8 r i_8 i2_8) (ftg_h8 r ((10*i_8)+((b5.toNat:Int)-48)) (i2_8+1)):=by
 have C1_:i2_8<r.size:=by omega
 have C3_:¬b5.toNat<48:=by omega
 have C4_:¬57<b5.toNat:=by omega
 have W5_:IntKind.i64.wrap (10*i_8)=10*i_8:=wr64 W5.1 W5.2
 have W8_:IntKind.i64.wrap ((10*i_8)+((b5.toNat:Int)-48))=(10*i_8)+((b5.toNat:Int)-48):=wr64 W8.1 W8.2
 have W9_:IntKind.i64.wrap ((i2_8:Int)+1)=(i2_8:Int)+1:=wr64 W9.1 W9.2
 have EG2:∀h,(r)[i2_8]'h=b5:=fun h=>Option.some.inj ((getElem?_pos (r) (i2_8) h).symm.trans E2)
 have W99:IntKind.i64.wrap ((b5.toNat:Int)-48)=(b5.toNat:Int)-48:=by have:=b5.toNat_lt;exact wr64 (by omega) (by omega)
 unfold Cont
 simp+decide [W99,EG2,ftg_h8,loopsOf, Tryz.f65,ftg_C8,C1,C1_,E2,C3,C3_,C4,C4_,W5_,W6,W8_,W9_]
theorem ftg_x8_1(C3:(b5.toNat:Int)<48):
  Leave 0 (exec Tryz.prog (tab (n+1)) 0 59 (livesOf 65) big ftg_C8) (livesOf 65 (outOf 8)) (ftg_h8 r i_8 i2_8) (.ret) (ftg_o8a i_8):=by
 have C1_:i2_8<r.size:=by omega
 have C3_:b5.toNat<48:=by omega
 have EG2:∀h,(r)[i2_8]'h=b5:=fun h=>Option.some.inj ((getElem?_pos (r) (i2_8) h).symm.trans E2)
 unfold Leave
 simp+decide [EG2,ftg_h8,loopsOf, Tryz.f65,ftg_o8a,ftg_C8,C1,C1_,E2,C3,C3_]
theorem ftg_x8_2(C3:¬(b5.toNat:Int)<48)(C4:57<(b5.toNat:Int)):
  Leave 0 (exec Tryz.prog (tab (n+1)) 0 59 (livesOf 65) big ftg_C8) (livesOf 65 (outOf 8)) (ftg_h8 r i_8 i2_8) (.ret) (ftg_o8a i_8):=by
 have C1_:i2_8<r.size:=by omega
 have C3_:¬b5.toNat<48:=by omega
 have C4_:57<b5.toNat:=by omega
 have EG2:∀h,(r)[i2_8]'h=b5:=fun h=>Option.some.inj ((getElem?_pos (r) (i2_8) h).symm.trans E2)
 unfold Leave
 simp+decide [EG2,ftg_h8,loopsOf, Tryz.f65,ftg_o8a,ftg_C8,C1,C1_,E2,C3,C3_,C4,C4_]
end
theorem ftg_x8_3(C1:¬(i2_8:Int)<(r.size:Int)):
  Leave 0 (exec Tryz.prog (tab (n+1)) 0 59 (livesOf 65) big ftg_C8) (livesOf 65 (outOf 8)) (ftg_h8 r i_8 i2_8) (.exit 0) (ftg_o8b i_8):=by
 have C1_:¬i2_8<r.size:=by omega
 unfold Leave
 simp+decide [ftg_h8,loopsOf, Tryz.f65,ftg_o8b,ftg_C8,C1,C1_]
theorem ftg_f1(C1:(a0.size:Int)=0):
  run (n+1) 65 [.lit (.string a0)]=some (.tup [.lit (.int .i64 0),.lit (.bool false)]):=by
 have C1_:((a0.size:Int)==0)=true:=by rw [C1];simp
 have C1_n:((a0.size:Int) !=0)=false:=by rw [C1];simp
 have C1_l:¬0<(a0.size:Int):=by omega
 unfold run fnP
 simp+decide [Tryz.f65,C1_,C1_n,C1_l]
section
variable(C1:¬(a0.size:Int)=0)(E2:a0[0]?=some b)
include C1 E2
theorem ftg_f2(C3:¬(b.toNat:Int)=32):
  run (n+1) 65 [.lit (.string a0)]=some (.tup [.lit (.int .i64 0),.lit (.bool false)]):=by
 have C1_:((a0.size:Int)==0)=false:=by simpa using C1
 have C1_n:((a0.size:Int) !=0)=true:=by simpa using C1
 have C1_l:0<(a0.size:Int):=by omega
 have C3_:((b.toNat:Int)==32)=false:=by simpa using C3
 have C3_n:((b.toNat:Int) !=32)=true:=by simpa using C3
 have EG2:∀h,(a0)[0]'h=b:=fun h=>Option.some.inj ((getElem?_pos (a0) (0) h).symm.trans E2)
 unfold run fnP
 simp+decide [EG2, Tryz.f65,C1_,C1_n,C1_l,E2,C3_,C3_n]
section
variable(C3:(b.toNat:Int)=32)(K4:run n 64 [.lit (.string a0)]=some (.lit (.string r)))
include C3 K4
theorem ftg_f3(C5:(r.size:Int)=0):
  run (n+1) 65 [.lit (.string a0)]=some (.tup [.lit (.int .i64 0),.lit (.bool false)]):=by
 have C1_:((a0.size:Int)==0)=false:=by simpa using C1
 have C1_n:((a0.size:Int) !=0)=true:=by simpa using C1
 have C1_l:0<(a0.size:Int):=by omega
 have C3_:((b.toNat:Int)==32)=true:=by rw [C3];simp
 have C3_n:((b.toNat:Int) !=32)=false:=by rw [C3];simp
 have C5_:((r.size:Int)==0)=true:=by rw [C5];simp
 have C5_n:((r.size:Int) !=0)=false:=by rw [C5];simp
 have C5_l:¬0<(r.size:Int):=by omega
 have EG2:∀h,(a0)[0]'h=b:=fun h=>Option.some.inj ((getElem?_pos (a0) (0) h).symm.trans E2)
 unfold run fnP
 simp+decide [EG2, Tryz.f65,C1_,C1_n,C1_l,E2,C3_,C3_n,K4,C5_,C5_n,C5_l]
section
variable(C5:¬(r.size:Int)=0)
include C5
theorem ftg_f4(C6:9<(r.size:Int)):
  run (n+1) 65 [.lit (.string a0)]=some (.tup [.lit (.int .i64 0),.lit (.bool false)]):=by
 have C1_:((a0.size:Int)==0)=false:=by simpa using C1
 have C1_n:((a0.size:Int) !=0)=true:=by simpa using C1
 have C1_l:0<(a0.size:Int):=by omega
 have C3_:((b.toNat:Int)==32)=true:=by rw [C3];simp
 have C3_n:((b.toNat:Int) !=32)=false:=by rw [C3];simp
 have C5_:((r.size:Int)==0)=false:=by simpa using C5
 have C5_n:((r.size:Int) !=0)=true:=by simpa using C5
 have C5_l:0<(r.size:Int):=by omega
 have C6_:9<r.size:=by omega
 have EG2:∀h,(a0)[0]'h=b:=fun h=>Option.some.inj ((getElem?_pos (a0) (0) h).symm.trans E2)
 unfold run fnP
 simp+decide [EG2, Tryz.f65,C1_,C1_n,C1_l,E2,C3_,C3_n,K4,C5_,C5_n,C5_l,C6,C6_]
section
variable(C6:¬9<(r.size:Int))(E7:r[0]?=some b2)
include C6 E7
theorem ftg_f5(C8:(b2.toNat:Int)=48)(C9:1<(r.size:Int)):
  run (n+1) 65 [.lit (.string a0)]=some (.tup [.lit (.int .i64 0),.lit (.bool false)]):=by
 have C1_:((a0.size:Int)==0)=false:=by simpa using C1
 have C1_n:((a0.size:Int) !=0)=true:=by simpa using C1
 have C1_l:0<(a0.size:Int):=by omega
 have C3_:((b.toNat:Int)==32)=true:=by rw [C3];simp
 have C3_n:((b.toNat:Int) !=32)=false:=by rw [C3];simp
 have C5_:((r.size:Int)==0)=false:=by simpa using C5
 have C5_n:((r.size:Int) !=0)=true:=by simpa using C5
 have C5_l:0<(r.size:Int):=by omega
 have C6_:¬9<r.size:=by omega
 have C8_:((b2.toNat:Int)==48)=true:=by rw [C8];simp
 have C8_n:((b2.toNat:Int) !=48)=false:=by rw [C8];simp
 have C9_:1<r.size:=by omega
 have EG2:∀h,(a0)[0]'h=b:=fun h=>Option.some.inj ((getElem?_pos (a0) (0) h).symm.trans E2)
 have EG7:∀h,(r)[0]'h=b2:=fun h=>Option.some.inj ((getElem?_pos (r) (0) h).symm.trans E7)
 unfold run fnP
 simp+decide [EG2,EG7, Tryz.f65,C1_,C1_n,C1_l,E2,C3_,C3_n,K4,C5_,C5_n,C5_l,C6,C6_,E7,C8_,C8_n,C9,C9_]
theorem ftg_f6(C8:(b2.toNat:Int)=48)(C9:¬1<(r.size:Int))(L10:loopG Tryz.prog (tab (n+1)) 0 59 (livesOf 65) 8 ftg_C8 (ftg_h8 r 0 0)=some (.ret,ftg_o8a i_8)):
  run (n+1) 65 [.lit (.string a0)]=some (.tup [.lit (.int .i64 0),.lit (.bool false)]):=by
 have C1_:((a0.size:Int)==0)=false:=by simpa using C1
 have C1_n:((a0.size:Int) !=0)=true:=by simpa using C1
 have C1_l:0<(a0.size:Int):=by omega
 have C3_:((b.toNat:Int)==32)=true:=by rw [C3];simp
 have C3_n:((b.toNat:Int) !=32)=false:=by rw [C3];simp
 have C5_:((r.size:Int)==0)=false:=by simpa using C5
 have C5_n:((r.size:Int) !=0)=true:=by simpa using C5
 have C5_l:0<(r.size:Int):=by omega
 have C6_:¬9<r.size:=by omega
 have C8_:((b2.toNat:Int)==48)=true:=by rw [C8];simp
 have C8_n:((b2.toNat:Int) !=48)=false:=by rw [C8];simp
 have C9_:¬1<r.size:=by omega
 have EG2:∀h,(a0)[0]'h=b:=fun h=>Option.some.inj ((getElem?_pos (a0) (0) h).symm.trans E2)
 have EG7:∀h,(r)[0]'h=b2:=fun h=>Option.some.inj ((getElem?_pos (r) (0) h).symm.trans E7)
 unfold run fnP
 simp+decide [EG2,EG7, Tryz.f65,C1_,C1_n,C1_l,E2,C3_,C3_n,K4,C5_,C5_n,C5_l,C6,C6_,E7,C8_,C8_n,C9,C9_]
 rw [loopX_G (C':=ftg_C8) (e:=(ftg_h8 r 0 0)) ?_ ?_,L10]
 rotate_left
 ·kernel_rfl
 ·simp+decide [EG2,EG7,ftg_h8,C1_,C1_n,C1_l,E2,C3_,C3_n,K4,C5_,C5_n,C5_l,C6,C6_,E7,C8_,C8_n,C9,C9_]
 simp+decide [EG2,EG7,ftg_o8a,C1_,C1_n,C1_l,E2,C3_,C3_n,K4,C5_,C5_n,C5_l,C6,C6_,E7,C8_,C8_n,C9,C9_]
theorem ftg_f7(C8:(b2.toNat:Int)=48)(C9:¬1<(r.size:Int))(L10:loopG Tryz.prog (tab (n+1)) 0 59 (livesOf 65) 8 ftg_C8 (ftg_h8 r 0 0)=some (.exit 0,ftg_o8b i_8)):
  run (n+1) 65 [.lit (.string a0)]=some (.tup [.lit (.int .i64 i_8),.lit (.bool true)]):=by
 have C1_:((a0.size:Int)==0)=false:=by simpa using C1
 have C1_n:((a0.size:Int) !=0)=true:=by simpa using C1
 have C1_l:0<(a0.size:Int):=by omega
 have C3_:((b.toNat:Int)==32)=true:=by rw [C3];simp
 have C3_n:((b.toNat:Int) !=32)=false:=by rw [C3];simp
 have C5_:((r.size:Int)==0)=false:=by simpa using C5
 have C5_n:((r.size:Int) !=0)=true:=by simpa using C5
 have C5_l:0<(r.size:Int):=by omega
 have C6_:¬9<r.size:=by omega
 have C8_:((b2.toNat:Int)==48)=true:=by rw [C8];simp
 have C8_n:((b2.toNat:Int) !=48)=false:=by rw [C8];simp
 have C9_:¬1<r.size:=by omega
 have EG2:∀h,(a0)[0]'h=b:=fun h=>Option.some.inj ((getElem?_pos (a0) (0) h).symm.trans E2)
 have EG7:∀h,(r)[0]'h=b2:=fun h=>Option.some.inj ((getElem?_pos (r) (0) h).symm.trans E7)
 unfold run fnP
 simp+decide [EG2,EG7, Tryz.f65,C1_,C1_n,C1_l,E2,C3_,C3_n,K4,C5_,C5_n,C5_l,C6,C6_,E7,C8_,C8_n,C9,C9_]
 rw [loopX_G (C':=ftg_C8) (e:=(ftg_h8 r 0 0)) ?_ ?_,L10]
 rotate_left
 ·kernel_rfl
 ·simp+decide [EG2,EG7,ftg_h8,C1_,C1_n,C1_l,E2,C3_,C3_n,K4,C5_,C5_n,C5_l,C6,C6_,E7,C8_,C8_n,C9,C9_]
 simp+decide [EG2,EG7,ftg_o8b,C1_,C1_n,C1_l,E2,C3_,C3_n,K4,C5_,C5_n,C5_l,C6,C6_,E7,C8_,C8_n,C9,C9_]
theorem ftg_f8(C8:¬(b2.toNat:Int)=48)(L9:loopG Tryz.prog (tab (n+1)) 0 59 (livesOf 65) 8 ftg_C8 (ftg_h8 r 0 0)=some (.ret,ftg_o8a i_8)):
  run (n+1) 65 [.lit (.string a0)]=some (.tup [.lit (.int .i64 0),.lit (.bool false)]):=by
 have C1_:((a0.size:Int)==0)=false:=by simpa using C1
 have C1_n:((a0.size:Int) !=0)=true:=by simpa using C1
 have C1_l:0<(a0.size:Int):=by omega
 have C3_:((b.toNat:Int)==32)=true:=by rw [C3];simp
 have C3_n:((b.toNat:Int) !=32)=false:=by rw [C3];simp
 have C5_:((r.size:Int)==0)=false:=by simpa using C5
 have C5_n:((r.size:Int) !=0)=true:=by simpa using C5
 have C5_l:0<(r.size:Int):=by omega
 have C6_:¬9<r.size:=by omega
 have C8_:((b2.toNat:Int)==48)=false:=by simpa using C8
 have C8_n:((b2.toNat:Int) !=48)=true:=by simpa using C8
 have EG2:∀h,(a0)[0]'h=b:=fun h=>Option.some.inj ((getElem?_pos (a0) (0) h).symm.trans E2)
 have EG7:∀h,(r)[0]'h=b2:=fun h=>Option.some.inj ((getElem?_pos (r) (0) h).symm.trans E7)
 unfold run fnP
 simp+decide [EG2,EG7, Tryz.f65,C1_,C1_n,C1_l,E2,C3_,C3_n,K4,C5_,C5_n,C5_l,C6,C6_,E7,C8_,C8_n]
 rw [loopX_G (C':=ftg_C8) (e:=(ftg_h8 r 0 0)) ?_ ?_,L9]
 rotate_left
 ·kernel_rfl
 ·simp+decide [EG2,EG7,ftg_h8,C1_,C1_n,C1_l,E2,C3_,C3_n,K4,C5_,C5_n,C5_l,C6,C6_,E7,C8_,C8_n]
 simp+decide [EG2,EG7,ftg_o8a,C1_,C1_n,C1_l,E2,C3_,C3_n,K4,C5_,C5_n,C5_l,C6,C6_,E7,C8_,C8_n]
theorem ftg_f9(C8:¬(b2.toNat:Int)=48)(L9:loopG Tryz.prog (tab (n+1)) 0 59 (livesOf 65) 8 ftg_C8 (ftg_h8 r 0 0)=some (.exit 0,ftg_o8b i_8)):
  run (n+1) 65 [.lit (.string a0)]=some (.tup [.lit (.int .i64 i_8),.lit (.bool true)]):=by
 have C1_:((a0.size:Int)==0)=false:=by simpa using C1
 have C1_n:((a0.size:Int) !=0)=true:=by simpa using C1
 have C1_l:0<(a0.size:Int):=by omega
 have C3_:((b.toNat:Int)==32)=true:=by rw [C3];simp
 have C3_n:((b.toNat:Int) !=32)=false:=by rw [C3];simp
 have C5_:((r.size:Int)==0)=false:=by simpa using C5
 have C5_n:((r.size:Int) !=0)=true:=by simpa using C5
 have C5_l:0<(r.size:Int):=by omega
 have C6_:¬9<r.size:=by omega
 have C8_:((b2.toNat:Int)==48)=false:=by simpa using C8
 have C8_n:((b2.toNat:Int) !=48)=true:=by simpa using C8
 have EG2:∀h,(a0)[0]'h=b:=fun h=>Option.some.inj ((getElem?_pos (a0) (0) h).symm.trans E2)
 have EG7:∀h,(r)[0]'h=b2:=fun h=>Option.some.inj ((getElem?_pos (r) (0) h).symm.trans E7)
 unfold run fnP
 simp+decide [EG2,EG7, Tryz.f65,C1_,C1_n,C1_l,E2,C3_,C3_n,K4,C5_,C5_n,C5_l,C6,C6_,E7,C8_,C8_n]
 rw [loopX_G (C':=ftg_C8) (e:=(ftg_h8 r 0 0)) ?_ ?_,L9]
 rotate_left
 ·kernel_rfl
 ·simp+decide [EG2,EG7,ftg_h8,C1_,C1_n,C1_l,E2,C3_,C3_n,K4,C5_,C5_n,C5_l,C6,C6_,E7,C8_,C8_n]
 simp+decide [EG2,EG7,ftg_o8b,C1_,C1_n,C1_l,E2,C3_,C3_n,K4,C5_,C5_n,C5_l,C6,C6_,E7,C8_,C8_n]
end
end
end
end
end
end
section
open Go.RowKit Go.Lib
def swp(a b x:UInt8):UInt8:=if x=a then b else x
theorem index_eq(c:UInt8)(l:List UInt8):index (c::l) [c]=0:=by simp [index]
theorem index_ne{b c:UInt8}(h:b≠c)(l:List UInt8):index (b::l) [c]=if index l [c]==-1 then -1 else index l [c]+1:=by
 rw [index,if_neg]
 simp [Ne.symm h]
theorem index_mem(c:UInt8):∀(l:List UInt8),0≤index l [c]↔c∈l
 | []=>by simp [index]
 | b::l=>by
   by_cases h:b=c
   ·subst h;simp [index_eq]
   ·rw [index_ne h,List.mem_cons,←index_mem c l]
    have hg:=index_ge l [c]
    by_cases h9:index l [c]=-1
    ·rw [h9];simp;exact fun e=>h e.symm
    ·rw [if_neg (by simpa using h9)]
     constructor
     ·intro _;exact .inr (by omega)
     ·intro _;omega
theorem repK(a b:UInt8):∀(s:List UInt8),replaceK [a] [b] (s.count a) s=s.map (swp a b)
 | []=>by simp [replaceK]
 | x::l=>by
   have ih:=repK a b l
   by_cases h:x=a
   ·subst h
    rw [List.count_cons_self,replaceK_hit [x] [b] _ _ 0 (index_eq x l)]
    simp only [List.take_zero,List.nil_append,List.length_singleton,Nat.zero_add,List.drop_succ_cons,List.drop_zero,List.singleton_append,List.map_cons]
    rw [ih]
    simp [swp]
   ·rw [List.count_cons_of_ne h,List.map_cons,←ih]
    have e:swp a b x=x:=if_neg h
    rw [e]
    cases hk:l.count a with
    | zero=>simp [replaceK]
    | succ k=>
      obtain ⟨i,hi⟩:=index_of_count (s:=l) (old:=[a]) (by rw [count_one];omega)
      rw [replaceK_hit [a] [b] k l i hi,replaceK_hit [a] [b] k (x::l) (i+1) (by
       rw [index_ne h,hi,if_neg (by simp)];rfl)]
      simp only [List.take_succ_cons,List.length_singleton,List.cons_append,List.drop_succ_cons]
theorem repAll{a b:UInt8}(h:a≠b)(s:List UInt8):replaceAll s [a] [b]=s.map (swp a b):=by
 unfold replaceAll replace replaceNum
 rw [if_neg (by simpa using h),if_pos (.inl (by decide)),count_one,repK]
theorem countB_small(s:ByteArray)(c:UInt8):countB s ⟨#[c]⟩≤s.size:=countB_le ⟨#[c]⟩ (Nat.le_refl 1) s.size s (Nat.le_refl _)
theorem rep_c{a b:UInt8}(h:a≠b){L:List UInt8}(hL:L.length≤100000):oReplaceAll [.lit (.string (bs L)),.lit (.string ⟨#[a]⟩),.lit (.string ⟨#[b]⟩)]=some (.lit (.string (bs (L.map (swp a b))))):=by
 have h1:=countB_small (bs L) a
 rw [bs_size] at h1
 unfold oReplaceAll
 dsimp only
 have e1:(⟨#[a]⟩:ByteArray).size=1:=rfl
 have e2:(⟨#[b]⟩:ByteArray).size=1:=rfl
 rw [if_pos (by rw [bs_size,e1,e2];omega)]
 have e3:replaceAll (bs L).data.toList (⟨#[a]⟩:ByteArray).data.toList (⟨#[b]⟩:ByteArray).data.toList=L.map (swp a b):=by
  rw [bs_data];exact repAll h L
 rw [e3];rfl
theorem swB_c(a b:UInt8)(L:List UInt8):swB (a.toNat:Int) (b.toNat:Int) (bs L)=bs (L.map (swp a b)):=by
 unfold swB bs
 congr 2
 rw [show (⟨L.toArray⟩:ByteArray).data.toList=L by simp]
 apply List.map_congr_left
 intro x _
 unfold swp
 by_cases h:x=a
 ·subst h
  rw [if_pos rfl,if_pos rfl]
  simp
 ·rw [if_neg h,if_neg (fun e=>h (UInt8.toNat_inj.1 (by omega)))]
theorem swap_c{a b:UInt8}{L:List UInt8}(hL:L.length≤100000):oSwap [.lit (.string (bs L)),.lit (.int .u8 (a.toNat:Int)),.lit (.int .u8 (b.toNat:Int))]=some (.lit (.string (bs (L.map (swp a b))))):=by
 unfold oSwap
 dsimp only
 have h1:b.toNat<256:=b.toNat_lt
 rw [if_pos (by rw [bs_size];omega),swB_c]
theorem contains_c{c:UInt8}{L:List UInt8}(hL:L.length≤100000):oContains [.lit (.string (bs L)),.lit (.string ⟨#[c]⟩)]=some (.lit (.bool (decide (c∈L)))):=by
 unfold oContains
 dsimp only
 rw [if_pos (by rw [bs_size];omega),bs_data]
 have e:contains L (⟨#[c]⟩:ByteArray).data.toList=decide (c∈L):=by
  show decide (0≤index L [c])=_
  exact decide_eq_decide.2 (index_mem c L)
 rw [e]
def Cmp(L:List UInt8)(i:Nat):Prop:=L[i+1]?=some 61∧(L[i]?=some 60∨L[i]?=some 62)
theorem occ2(L:List UInt8)(c:UInt8)(i:Nat):occAt L [c,61] i=true↔L[i]?=some c∧L[i+1]?=some 61:=by
 unfold occAt
 have e0:(L.drop i)[0]?=L[i]?:=by rw [List.getElem?_drop];rfl
 have e1:(L.drop i)[1]?=L[i+1]?:=by rw [List.getElem?_drop]
 rw [←e0,←e1]
 match L.drop i with
 | []=>simp
 | [x]=>simp
 | x::y::r=>
   have e3:List.isPrefixOf ([]:List UInt8) r=true:=by cases r <;>rfl
   simp only [List.isPrefixOf_cons₂,e3,Bool.and_true,Bool.and_eq_true,beq_iff_eq,List.getElem?_cons_zero,List.getElem?_cons_succ,Option.some.injEq]
   constructor
   ·rintro ⟨rfl,rfl⟩;exact ⟨rfl,rfl⟩
   ·rintro ⟨rfl,rfl⟩;exact ⟨rfl,rfl⟩
def spF(L:List UInt8):Int:=if index L [62,61]<0 then index L [60,61] else if 0≤index L [60,61]∧index L [60,61]<index L [62,61] then index L [60,61] else index L [62,61]
theorem sp_spec(L:List UInt8):(spF L=-1∧∀j,¬Cmp L j)∨∃i:Nat,spF L=(i:Int)∧Cmp L i∧∀j,j<i→¬Cmp L j:=by
 have room:∀j c,L.length<j→¬(L[j]?=some c):=fun j c h e=>by rw [List.getElem?_eq_none (by omega)] at e;cases e
 have no:∀{c j},occAt L [c,61] j=false→¬(L[j]?=some c∧L[j+1]?=some 61):=fun h h2=>by rw [(occ2 L _ _).2 h2] at h;cases h
 unfold spF
 rcases index_spec L [62,61] with ⟨a1,a2⟩|⟨a,a1,a2,a3,a4⟩ <;>rcases index_spec L [60,61] with ⟨b1,b2⟩|⟨b,b1,b2,b3,b4⟩
 ·refine .inl ⟨by rw [a1,b1];rfl,fun j h=>?_⟩
  by_cases hj:j≤L.length
  ·rcases h.2 with h2|h2
   ·exact no (b2 j hj) ⟨h2,h.1⟩
   ·exact no (a2 j hj) ⟨h2,h.1⟩
  ·rcases h.2 with h2|h2 <;>exact room j _ (by omega) h2
 ·refine .inr ⟨b,by rw [a1,b1];rfl,⟨((occ2 L _ _).1 b3).2,.inl ((occ2 L _ _).1 b3).1⟩,fun j hj h=>?_⟩
  rcases h.2 with h2|h2
  ·exact no (b4 j hj) ⟨h2,h.1⟩
  ·exact no (a2 j (by omega)) ⟨h2,h.1⟩
 ·refine .inr ⟨a,by rw [a1,b1,if_neg (by omega),if_neg (by omega)],⟨((occ2 L _ _).1 a3).2,.inr ((occ2 L _ _).1 a3).1⟩,fun j hj h=>?_⟩
  rcases h.2 with h2|h2
  ·exact no (b2 j (by omega)) ⟨h2,h.1⟩
  ·exact no (a4 j hj) ⟨h2,h.1⟩
 ·by_cases hlt:b<a
  ·refine .inr ⟨b,by rw [a1,b1,if_neg (by omega),if_pos ⟨by omega,by omega⟩],⟨((occ2 L _ _).1 b3).2,.inl ((occ2 L _ _).1 b3).1⟩,fun j hj h=>?_⟩
   rcases h.2 with h2|h2
   ·exact no (b4 j hj) ⟨h2,h.1⟩
   ·exact no (a4 j (by omega)) ⟨h2,h.1⟩
  ·refine .inr ⟨a,by rw [a1,b1,if_neg (by omega),if_neg (by omega)],⟨((occ2 L _ _).1 a3).2,.inr ((occ2 L _ _).1 a3).1⟩,fun j hj h=>?_⟩
   rcases h.2 with h2|h2
   ·exact no (b4 j (by omega)) ⟨h2,h.1⟩
   ·exact no (a4 j hj) ⟨h2,h.1⟩
theorem sp_uniq{L:List UInt8}{i:Nat}(h:Cmp L i)(h2:∀j,j<i→¬Cmp L j):spF L=(i:Int):=by
 rcases sp_spec L with ⟨_,h3⟩|⟨k,h3,h4,h5⟩
 ·exact absurd h (h3 i)
 ·rcases Nat.lt_trichotomy i k with h6|h6|h6
  ·exact absurd h (h5 i h6)
  ·rw [h3,h6]
  ·exact absurd h4 (h2 k h6)
theorem sp_none{L:List UInt8}(h:∀j,¬Cmp L j):spF L=-1:=by
 rcases sp_spec L with ⟨h3,_⟩|⟨k,_,h4,_⟩
 ·exact h3
 ·exact absurd h4 (h k)
end
section
open Go.RowKit
open Lib (decDigits)
end
end Go.Proofs.YtnegdhjdienjlaaGreatDoor
