import Derived.Test.YtnegdhjdienjlaaGreatDoorGQ20
import Derived.Test.YtnegdhjdienjlaaGreatDoorGQ21
set_option linter.all false
set_option maxHeartbeats 6400000
set_option maxRecDepth 100000
namespace Go.Proofs.YtnegdhjdienjlaaGreatDoor
section
open Go.RowKit
noncomputable def f4p_C3:Code:=(loopsOf (bodyOf Tryz.f88)).getD 0 .skip
def f4p_h3(a0:Int)(nat_3:List Nat)(i_3:Nat):St:=
 ⟨[(0,.lit (.int .i64 a0)),(3,natA nat_3),(4,.lit (.int .i64 (i_3:Int)))],
  [],0⟩
def f4p_o3a(nat_3:List Nat):St:=
 ⟨[(3,natA nat_3)],
  [],0⟩
section
variable {r6 : List Nat} {r7 : List Nat} {a0 : Int} {n : Nat} {i_3 : Nat} {nat_3 : List Nat} {r : List Nat}
theorem f4p_r3_1(C1:(i_3:Int)<a0)(K2:(oU fun k=>natA (lmb k)) [.lit (.int .u64 10)]=some (natA r6))(K3:(oN2 fun x y=>natA (lmb (val x*val y))) [natA nat_3,natA r6]=some (natA r7))(W4:InI ((i_3:Int)+1)):
  Cont 0 (exec Tryz.prog (tab (n+2)) 0 15 (livesOf 88) big f4p_C3) (livesOf 88 3) (f4p_h3 a0 nat_3 i_3) (f4p_h3 a0 r7 (i_3+1)):=by
 have W4_:IntKind.i64.wrap ((i_3:Int)+1)=(i_3:Int)+1:=wr64 W4.1 W4.2
 unfold Cont
 simp+decide [f4p_h3,loopsOf, Tryz.f88,f4p_C3,C1,K2,K3,W4_]
theorem f4p_x3_1(C1:¬(i_3:Int)<a0):
  Leave 0 (exec Tryz.prog (tab (n+2)) 0 15 (livesOf 88) big f4p_C3) (livesOf 88 (outOf 3)) (f4p_h3 a0 nat_3 i_3) (.exit 0) (f4p_o3a nat_3):=by
 unfold Leave
 simp+decide [f4p_h3,loopsOf, Tryz.f88,f4p_o3a,f4p_C3,C1]
theorem f4p_f1(K1:(oU fun k=>natA (lmb k)) [.lit (.int .u64 1)]=some (natA r))(L2:loopG Tryz.prog (tab (n+2)) 0 15 (livesOf 88) 3 f4p_C3 (f4p_h3 a0 r 0)=some (.exit 0,f4p_o3a nat_3)):
  run (n+2) 88 [.lit (.int .i64 a0)]=some (natA nat_3):=by
 unfold run fnP
 simp+decide [Tryz.f88,K1]
 rw [loopX_G (C':=f4p_C3) (e:=(f4p_h3 a0 r 0)) ?_ ?_,L2]
 rotate_left
 ·kernel_rfl
 ·simp+decide [f4p_h3,K1]
 simp+decide [f4p_o3a,K1]
end
noncomputable def f4d_C2:Code:=(loopsOf (bodyOf Tryz.f87)).getD 0 .skip
def f4d_h2(a0:ByteArray)(i_2:Int)(i2_2:Int)(nat_2:List Nat):St:=
 ⟨[(0,.lit (.string a0)),(1,.lit (.int .i64 i_2)),(2,.lit (.int .i64 i2_2)),(9,natA nat_2)],
  [],0⟩
def f4d_o2b(i_2:Int)(i2_2:Int)(nat_2:List Nat):St:=
 ⟨[(1,.lit (.int .i64 i_2)),(2,.lit (.int .i64 i2_2)),(6,.any),(7,.any),(8,.any),(9,natA nat_2)],
  [],0⟩
section
variable {i2_2 : Int} {r12 : List Nat} {r9 : List Nat} {a0 : ByteArray} {nat_2 : List Nat} {n : Nat} {b3 : UInt8} {r10 : List Nat} {r11 : List Nat} {i_2 : Int} {a1 : Int} {a2 : Int}
section
variable(C1:i_2<(a0.size:Int))(E2:a0[i_2.toNat]?=some b3)(Z2:0≤i_2)
include C1 E2 Z2
theorem f4d_r2_1(C3:48≤(b3.toNat:Int))(C4:(b3.toNat:Int)≤57)(C5:¬i2_2=4000)(K6:(oU fun k=>natA (lmb k)) [.lit (.int .u64 10)]=some (natA r9))(K7:(oN2 fun x y=>natA (lmb (val x*val y))) [natA nat_2,natA r9]=some (natA r10))(W8:IntKind.u8.wrap ((b3.toNat:Int)-48)=(b3.toNat:Int)-48)(W9:IntKind.u64.wrap ((b3.toNat:Int)-48)=(b3.toNat:Int)-48)(K10:(oU fun k=>natA (lmb k)) [.lit (.int .u64 ((b3.toNat:Int)-48))]=some (natA r11))(K11:(oN2 fun x y=>natA (lmb (val x+val y))) [natA r10,natA r11]=some (natA r12))(W12:InI (i_2+1))(W13:InI (i2_2+1)):
  Cont 0 (exec Tryz.prog (tab (n+2)) 0 49 (livesOf 87) big f4d_C2) (livesOf 87 2) (f4d_h2 a0 i_2 i2_2 nat_2) (f4d_h2 a0 (i_2+1) (i2_2+1) r12):=by
 have C3_:48≤b3.toNat:=by omega
 have C4_:b3.toNat≤57:=by omega
 have C5_:(i2_2==4000)=false:=by simpa using C5
 have C5_n:(i2_2 !=4000)=true:=by simpa using C5
 have W12_:IntKind.i64.wrap (i_2+1)=i_2+1:=wr64 W12.1 W12.2
 have W13_:IntKind.i64.wrap (i2_2+1)=i2_2+1:=wr64 W13.1 W13.2
 have EG2:∀h,(a0)[i_2.toNat]'h=b3:=fun h=>Option.some.inj ((getElem?_pos (a0) (i_2.toNat) h).symm.trans E2)
 have W99:IntKind.i64.wrap ((b3.toNat:Int)-48)=(b3.toNat:Int)-48:=by have:=b3.toNat_lt;exact wr64 (by omega) (by omega)
 unfold Cont
 simp+decide [W99,EG2,f4d_h2,loopsOf, Tryz.f87,f4d_C2,C1,E2,Z2,C3,C3_,C4,C4_,C5_,C5_n,K6,K7,W8,W9,K10,K11,W12_,W13_]
theorem f4d_x2_2(C3:48≤(b3.toNat:Int))(C4:¬(b3.toNat:Int)≤57):
  Leave 0 (exec Tryz.prog (tab (n+2)) 0 49 (livesOf 87) big f4d_C2) (livesOf 87 (outOf 2)) (f4d_h2 a0 i_2 i2_2 nat_2) (.exit 0) (f4d_o2b i_2 i2_2 nat_2):=by
 have C3_:48≤b3.toNat:=by omega
 have C4_:¬b3.toNat≤57:=by omega
 have EG2:∀h,(a0)[i_2.toNat]'h=b3:=fun h=>Option.some.inj ((getElem?_pos (a0) (i_2.toNat) h).symm.trans E2)
 unfold Leave
 simp+decide [EG2,f4d_h2,loopsOf, Tryz.f87,f4d_o2b,f4d_C2,C1,E2,Z2,C3,C3_,C4,C4_]
theorem f4d_x2_3(C3:¬48≤(b3.toNat:Int)):
  Leave 0 (exec Tryz.prog (tab (n+2)) 0 49 (livesOf 87) big f4d_C2) (livesOf 87 (outOf 2)) (f4d_h2 a0 i_2 i2_2 nat_2) (.exit 0) (f4d_o2b i_2 i2_2 nat_2):=by
 have C3_:¬48≤b3.toNat:=by omega
 have EG2:∀h,(a0)[i_2.toNat]'h=b3:=fun h=>Option.some.inj ((getElem?_pos (a0) (i_2.toNat) h).symm.trans E2)
 unfold Leave
 simp+decide [EG2,f4d_h2,loopsOf, Tryz.f87,f4d_o2b,f4d_C2,C1,E2,Z2,C3,C3_]
end
theorem f4d_x2_4(C1:¬i_2<(a0.size:Int)):
  Leave 0 (exec Tryz.prog (tab (n+2)) 0 49 (livesOf 87) big f4d_C2) (livesOf 87 (outOf 2)) (f4d_h2 a0 i_2 i2_2 nat_2) (.exit 0) (f4d_o2b i_2 i2_2 nat_2):=by
 unfold Leave
 simp+decide [f4d_h2,loopsOf, Tryz.f87,f4d_o2b,f4d_C2,C1]
theorem f4d_f2(L1:loopG Tryz.prog (tab (n+2)) 0 49 (livesOf 87) 2 f4d_C2 (f4d_h2 a0 a1 a2 [])=some (.exit 0,f4d_o2b i_2 i2_2 nat_2)):
  run (n+2) 87 [.lit (.string a0),.lit (.int .i64 a1),.lit (.int .i64 a2)]=some (.tup [natA nat_2,.lit (.int .i64 i_2),.lit (.int .i64 i2_2)]):=by
 unfold run fnP
 simp+decide [Tryz.f87]
 rw [loopX_G (C':=f4d_C2) (e:=(f4d_h2 a0 a1 a2 [])) ?_ ?_,L1]
 rotate_left
 ·kernel_rfl
 ·simp+decide [f4d_h2];rfl
 simp+decide [f4d_o2b]
end
noncomputable def f4D_C2:Code:=(loopsOf (bodyOf Tryz.f80)).getD 0 .skip
def f4D_h2(nat_2:List Nat)(str_2:ByteArray):St:=
 ⟨[(0,natA nat_2),(3,.lit (.string str_2))],
  [],0⟩
def f4D_o2a(str_2:ByteArray):St:=
 ⟨[(3,.lit (.string str_2))],
  [],0⟩
section
variable {sub3 : ByteArray} {r13 : List Nat} {nat_2 : List Nat} {r18 : Bool} {cat3 : ByteArray} {n : Nat} {str_2 : ByteArray} {r14 : List Nat} {r15 : List Nat} {r17 : Int} {r16 : Int} {a0 : List Nat}
theorem f4D_r2_1(C1:0<(nat_2.length:Int))(K2:(oU fun k=>natA (lmb k)) [.lit (.int .u64 10)]=some (natA r13))(K3:(oND fun x y=>.tup [natA (lmb (val x / val y)),natA (lmb (val x % val y)),.lit (.int .i64 0)]) [natA nat_2,natA r13]=some (.tup [natA r14,natA r15,.lit (.int .i64 r16)]))(K4:(oN1 u64N fun x=>.tup [.lit (.int .u64 (val x:Nat)),.lit (.bool true)]) [natA r15]=some (.tup [.lit (.int .u64 r17),.lit (.bool r18)]))(W5:IntKind.u64.wrap (r17+1)=r17+1)(U6:0≤r17∧r17≤r17+1∧r17+1≤((⟨#[48,49,50,51,52,53,54,55,56,57]⟩:ByteArray).size:Int))(D6:sub3=(⟨#[48,49,50,51,52,53,54,55,56,57]⟩:ByteArray).extract r17.toNat ((r17+1).toNat))(S7:sub3.size+str_2.size≤9000000000000000000)(D7:cat3=sub3++str_2):
  Cont 0 (exec Tryz.prog (tab (n+4)) 0 34 (livesOf 80) big f4D_C2) (livesOf 80 2) (f4D_h2 nat_2 str_2) (f4D_h2 r14 cat3):=by
 have C1_:0<nat_2.length:=by omega
 have C1_z:(nat_2.length:Int)≠0:=by omega
 have C1_e:((nat_2.length:Int)==0)=false:=by simpa using C1_z
 have C1_g:((nat_2.length:Int) !=0)=true:=by simpa using C1_z
 have D6_:=D6.symm
 have S7_r:=cat_r S7 D7
 have S7_q:=cat_q S7 D7
 unfold Cont
 simp+decide [f4D_h2,loopsOf, Tryz.f80,f4D_C2,C1,C1_,C1_e,C1_g,K2,K3,K4,W5,U6,D6_,↓S7_r,S7_q]
theorem f4D_x2_1(C1:¬0<(nat_2.length:Int)):
  Leave 0 (exec Tryz.prog (tab (n+4)) 0 34 (livesOf 80) big f4D_C2) (livesOf 80 (outOf 2)) (f4D_h2 nat_2 str_2) (.exit 0) (f4D_o2a str_2):=by
 have C1_:¬0<nat_2.length:=by omega
 have C1_z:(nat_2.length:Int)=0:=by omega
 have C1_e:((nat_2.length:Int)==0)=true:=by rw [C1_z];simp
 have C1_g:((nat_2.length:Int) !=0)=false:=by rw [C1_z];simp
 unfold Leave
 simp+decide [f4D_h2,loopsOf, Tryz.f80,f4D_o2a,f4D_C2,C1,C1_,C1_e,C1_g]
section
variable(L1:loopG Tryz.prog (tab (n+4)) 0 34 (livesOf 80) 2 f4D_C2 (f4D_h2 a0 (⟨#[]⟩:ByteArray))=some (.exit 0,f4D_o2a str_2))
include L1
theorem f4D_f1(C2:str_2=(⟨#[]⟩:ByteArray)):
  run (n+4) 80 [natA a0]=some (.lit (.string (⟨#[48]⟩:ByteArray))):=by
 have C2_:(str_2.toList==(⟨#[]⟩:ByteArray).toList)=true:=by rw [C2];simp
 have C2_n:(str_2.toList !=(⟨#[]⟩:ByteArray).toList)=false:=by rw [bne,C2_];rfl
 have C2_i:str_2.toList.isEmpty=true:=by rw [C2,ba_toList] <;>rfl
 unfold run fnP
 simp+decide [Tryz.f80,C2_,C2_n,C2_i]
 rw [loopX_G (C':=f4D_C2) (e:=(f4D_h2 a0 (⟨#[]⟩:ByteArray))) ?_ ?_,L1]
 rotate_left
 ·kernel_rfl
 ·simp+decide [f4D_h2,C2_,C2_n,C2_i]
 simp+decide [f4D_o2a,C2_,C2_n,C2_i]
theorem f4D_f2(C2:¬str_2=(⟨#[]⟩:ByteArray)):
  run (n+4) 80 [natA a0]=some (.lit (.string str_2)):=by
 have C2_:(str_2.toList==(⟨#[]⟩:ByteArray).toList)=false:=by rw [beq_eq_false_iff_ne];exact fun h=>C2 (ba_inj h)
 have C2_n:(str_2.toList !=(⟨#[]⟩:ByteArray).toList)=true:=by rw [bne,C2_];rfl
 have C2_i:str_2.toList.isEmpty=false:=by rcases he:str_2.toList.isEmpty with _|_;rfl;exact absurd (ba_inj (by rw [List.isEmpty_iff.1 he,ba_toList] <;>rfl)) C2
 unfold run fnP
 simp+decide [Tryz.f80,C2_,C2_n,C2_i]
 rw [loopX_G (C':=f4D_C2) (e:=(f4D_h2 a0 (⟨#[]⟩:ByteArray))) ?_ ?_,L1]
 rotate_left
 ·kernel_rfl
 ·simp+decide [f4D_h2,C2_,C2_n,C2_i]
 simp+decide [f4D_o2a,C2_,C2_n,C2_i]
end
end
section
variable {r : ByteArray} {a0 : Rat} {cat : ByteArray} {cat3 : ByteArray} {n : Nat} {cat2 : ByteArray} {r2 : ByteArray} {cat4 : ByteArray} {cat5 : ByteArray} {r3 : ByteArray}
section
variable(K1:run (n+4) 80 [natA (rawQ a0).l1]=some (.lit (.string r)))
include K1
section
variable(C2:(rawQ a0).s=true)(S3:(⟨#[45]⟩:ByteArray).size+r.size≤9000000000000000000)(D3:cat=(⟨#[45]⟩:ByteArray)++r)
include C2 S3 D3
theorem f4T_f1(C4:0<((rawQ a0).l2.length:Int))(K5:run (n+4) 80 [natA (rawQ a0).l2]=some (.lit (.string r2)))(S6:(⟨#[47]⟩:ByteArray).size+r2.size≤9000000000000000000)(D6:cat2=(⟨#[47]⟩:ByteArray)++r2)(S7:cat.size+cat2.size≤9000000000000000000)(D7:cat3=cat++cat2):
  run (n+5) 33 [ratV a0]=some (.lit (.string cat3)):=by
 have S3_r:=cat_r S3 D3
 have S3_q:=cat_q S3 D3
 have C4_:0<(rawQ a0).l2.length:=by omega
 have C4_z:((rawQ a0).l2.length:Int)≠0:=by omega
 have C4_e:(((rawQ a0).l2.length:Int)==0)=false:=by simpa using C4_z
 have C4_g:(((rawQ a0).l2.length:Int) !=0)=true:=by simpa using C4_z
 have S6_r:=cat_r S6 D6
 have S6_q:=cat_q S6 D6
 have S7_r:=cat_r S7 D7
 have S7_q:=cat_q S7 D7
 unfold run fnP
 simp+decide [Tryz.f33,K1,C2,↓S3_r,S3_q,C4,C4_,C4_e,C4_g,K5,↓S6_r,S6_q,↓S7_r,S7_q]
theorem f4T_f2(C4:¬0<((rawQ a0).l2.length:Int)):
  run (n+5) 33 [ratV a0]=some (.lit (.string cat)):=by
 have S3_r:=cat_r S3 D3
 have S3_q:=cat_q S3 D3
 have C4_:¬0<(rawQ a0).l2.length:=by omega
 have C4_z:((rawQ a0).l2.length:Int)=0:=by omega
 have C4_e:(((rawQ a0).l2.length:Int)==0)=true:=by rw [C4_z];simp
 have C4_g:(((rawQ a0).l2.length:Int) !=0)=false:=by rw [C4_z];simp
 unfold run fnP
 simp+decide [Tryz.f33,K1,C2,↓S3_r,S3_q,C4,C4_,C4_e,C4_g]
end
theorem f4T_f3(C2:(rawQ a0).s=false)(C3:0<((rawQ a0).l2.length:Int))(K4:run (n+4) 80 [natA (rawQ a0).l2]=some (.lit (.string r3)))(S5:(⟨#[47]⟩:ByteArray).size+r3.size≤9000000000000000000)(D5:cat4=(⟨#[47]⟩:ByteArray)++r3)(S6:r.size+cat4.size≤9000000000000000000)(D6:cat5=r++cat4):
  run (n+5) 33 [ratV a0]=some (.lit (.string cat5)):=by
 have C3_:0<(rawQ a0).l2.length:=by omega
 have C3_z:((rawQ a0).l2.length:Int)≠0:=by omega
 have C3_e:(((rawQ a0).l2.length:Int)==0)=false:=by simpa using C3_z
 have C3_g:(((rawQ a0).l2.length:Int) !=0)=true:=by simpa using C3_z
 have S5_r:=cat_r S5 D5
 have S5_q:=cat_q S5 D5
 have S6_r:=cat_r S6 D6
 have S6_q:=cat_q S6 D6
 unfold run fnP
 simp+decide [Tryz.f33,K1,C2,C3,C3_,C3_e,C3_g,K4,↓S5_r,S5_q,↓S6_r,S6_q]
theorem f4T_f4(C2:(rawQ a0).s=false)(C3:¬0<((rawQ a0).l2.length:Int)):
  run (n+5) 33 [ratV a0]=some (.lit (.string r)):=by
 have C3_:¬0<(rawQ a0).l2.length:=by omega
 have C3_z:((rawQ a0).l2.length:Int)=0:=by omega
 have C3_e:(((rawQ a0).l2.length:Int)==0)=true:=by rw [C3_z];simp
 have C3_g:(((rawQ a0).l2.length:Int) !=0)=false:=by rw [C3_z];simp
 unfold run fnP
 simp+decide [Tryz.f33,K1,C2,C3,C3_,C3_e,C3_g]
end
end
end
end Go.Proofs.YtnegdhjdienjlaaGreatDoor
