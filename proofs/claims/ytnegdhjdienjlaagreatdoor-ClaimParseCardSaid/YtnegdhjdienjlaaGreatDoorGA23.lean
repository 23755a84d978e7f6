import Derived.Test.YtnegdhjdienjlaaGreatDoorGA16
import Derived.Test.YtnegdhjdienjlaaGreatDoorGA17
import Derived.Test.YtnegdhjdienjlaaGreatDoorGA20
import Derived.Test.YtnegdhjdienjlaaGreatDoorGA22
set_option exponentiation.threshold 400
set_option linter.all false
set_option maxHeartbeats 6400000
set_option maxRecDepth 100000
namespace Go.Proofs.YtnegdhjdienjlaaGreatDoor
section
open Go.RowKit
noncomputable def rdg_C8:Code:=(loopsOf (bodyOf Tryz.f233)).getD 0 .skip
def rdg_h8(a0:Treader)(m_8:Int)(nat_8:List Nat)(i_8:Nat)(i2_8:Int)(d_8:Bool):St:=
 ⟨[(0,.ptr 0 0),(2,.lit (.int .i64 m_8)),(7,natA nat_8),(8,.lit (.int .i64 (i_8:Int)))],
  [(0,some (.box 206 [.lit (.string a0.s),.lit (.int .i64 i2_8),.lit (.bool d_8)] false))],1⟩
def rdg_o8a(a0:Treader)(nat_8:List Nat)(z12:Int)(d14:Bool):St:=
 ⟨[(0,.ptr 0 0),(7,natA nat_8)],
  [(0,some (.box 206 [.lit (.string a0.s),.lit (.int .i64 z12),.lit (.bool d14)] false))],1⟩
def rdg_o8b(a0:Treader)(nat_8:List Nat)(z11:Int)(d13:Bool):St:=
 ⟨[(0,.ptr 0 0),(7,natA nat_8)],
  [(0,some (.box 206 [.lit (.string a0.s),.lit (.int .i64 z11),.lit (.bool d13)] false))],1⟩
section
variable {r18 : Int} {r15 : Int} {d14 : Bool} {nat_8 : List Nat} {z13 : Int} {i_8 : Nat} {r16 : Int} {d_8 : Bool} {m_8 : Int} {r19 : List Nat} {n : Nat} {i2_8 : Int} {r17 : List Nat} {z11 : Int} {d15 : Bool} {a0 : Treader} {z12 : Int} {d13 : Bool} {r : Int} {a1 : Bool} {a2 : Int} {z : Int} {d : Bool} {r2 : Int} {z2 : Int} {d2 : Bool} {d3 : Bool} {r3 : Int} {z3 : Int} {d17 : Bool} {z15 : Int} {d4 : Bool} {d16 : Bool} {r21 : Int} {r4 : Int} {z4 : Int} {z14 : Int} {r20 : Int} {z27 : Int} {r34 : Int} {d29 : Bool} {r28 : Int} {d30 : Bool} {r33 : Int} {z28 : Int} {z22 : Int} {d24 : Bool}
section
variable(K1:runL (n+1) 182 [.ptr 0 0] [.box 206 [.lit (.string a0.s),.lit (.int .i64 i2_8),.lit (.bool d_8)] false]=some (.lit (.int .u8 r15),[(0,.box 206 [.lit (.string a0.s),.lit (.int .i64 z11),.lit (.bool d13)] false)]))
include K1
section
variable(C2:48≤r15)(K3:runL (n+1) 182 [.ptr 0 0] [.box 206 [.lit (.string a0.s),.lit (.int .i64 z11),.lit (.bool d13)] false]=some (.lit (.int .u8 r16),[(0,.box 206 [.lit (.string a0.s),.lit (.int .i64 z12),.lit (.bool d14)] false)]))
include C2 K3
theorem rdg_r8_1(C4:r16≤57)(C5:(i_8:Int)<m_8)(K6:(oN2 fun x y=>natA (lmb (val x*val y))) [natA nat_8,.sl 1 [[.lit (.int .u32 10)]]]=some (natA r17))(K7:runL (n+1) 182 [.ptr 0 0] [.box 206 [.lit (.string a0.s),.lit (.int .i64 z12),.lit (.bool d14)] false]=some (.lit (.int .u8 r18),[(0,.box 206 [.lit (.string a0.s),.lit (.int .i64 z13),.lit (.bool d15)] false)]))(W8:IntKind.u8.wrap (r18-48)=r18-48)(W9:IntKind.u32.wrap (r18-48)=r18-48)(K10:(oN2 fun x y=>natA (lmb (val x+val y))) [natA r17,.sl 1 [[.lit (.int .u32 (r18-48))]]]=some (natA r19))(W11:InI (z13+1))(W12:InI ((i_8:Int)+1)):
  Cont 1 (exec Tryz.prog (tab (n+2)) 1 81 (livesOf 233) big rdg_C8) (livesOf 233 8) (rdg_h8 a0 m_8 nat_8 i_8 i2_8 d_8) (rdg_h8 a0 m_8 r19 (i_8+1) (z13+1) d15):=by
 have W11_:IntKind.i64.wrap (z13+1)=z13+1:=wr64 W11.1 W11.2
 have W12_:IntKind.i64.wrap ((i_8:Int)+1)=(i_8:Int)+1:=wr64 W12.1 W12.2
 unfold Cont
 simp+decide [rdg_h8,loopsOf, Tryz.f233,rdg_C8,K1,C2,K3,C4,C5,K6,K7,W8,W9,K10,W11_,W12_]
theorem rdg_x8_1(C4:r16≤57)(C5:¬(i_8:Int)<m_8):
  Leave 1 (exec Tryz.prog (tab (n+2)) 1 81 (livesOf 233) big rdg_C8) (livesOf 233 (outOf 8)) (rdg_h8 a0 m_8 nat_8 i_8 i2_8 d_8) (.exit 0) (rdg_o8a a0 nat_8 z12 d14):=by
 unfold Leave
 simp+decide [rdg_h8,loopsOf, Tryz.f233,rdg_o8a,rdg_C8,K1,C2,K3,C4,C5]
theorem rdg_x8_2(C4:¬r16≤57):
  Leave 1 (exec Tryz.prog (tab (n+2)) 1 81 (livesOf 233) big rdg_C8) (livesOf 233 (outOf 8)) (rdg_h8 a0 m_8 nat_8 i_8 i2_8 d_8) (.exit 0) (rdg_o8a a0 nat_8 z12 d14):=by
 unfold Leave
 simp+decide [rdg_h8,loopsOf, Tryz.f233,rdg_o8a,rdg_C8,K1,C2,K3,C4]
end
theorem rdg_x8_3(C2:¬48≤r15):
  Leave 1 (exec Tryz.prog (tab (n+2)) 1 81 (livesOf 233) big rdg_C8) (livesOf 233 (outOf 8)) (rdg_h8 a0 m_8 nat_8 i_8 i2_8 d_8) (.exit 0) (rdg_o8b a0 nat_8 z11 d13):=by
 unfold Leave
 simp+decide [rdg_h8,loopsOf, Tryz.f233,rdg_o8b,rdg_C8,K1,C2]
end
section
variable(C1:a0.bad=false)(K2:runL (n+1) 182 [.ptr 0 0] [.box 206 [.lit (.string a0.s),.lit (.int .i64 (a0.at_)),.lit (.bool a0.bad)] false]=some (.lit (.int .u8 r),[(0,.box 206 [.lit (.string a0.s),.lit (.int .i64 z),.lit (.bool d)] false)]))
include C1 K2
theorem rdg_f2(C3:r<48):
  runL (n+2) 233 [.ptr 0 0,.lit (.bool a1),.lit (.int .i64 a2)] [.box 206 [.lit (.string a0.s),.lit (.int .i64 (a0.at_)),.lit (.bool a0.bad)] false]=some (.sl 1 [],[(0,.box 206 [.lit (.string a0.s),.lit (.int .i64 z),.lit (.bool true)] false)]):=by
 rw [C1] at K2
 unfold runL fnL
 simp+decide [Tryz.f233,C1,K2,C3]
section
variable(C3:¬r<48)(K4:runL (n+1) 182 [.ptr 0 0] [.box 206 [.lit (.string a0.s),.lit (.int .i64 z),.lit (.bool d)] false]=some (.lit (.int .u8 r2),[(0,.box 206 [.lit (.string a0.s),.lit (.int .i64 z2),.lit (.bool d2)] false)]))
include C3 K4
theorem rdg_f3(C5:57<r2):
  runL (n+2) 233 [.ptr 0 0,.lit (.bool a1),.lit (.int .i64 a2)] [.box 206 [.lit (.string a0.s),.lit (.int .i64 (a0.at_)),.lit (.bool a0.bad)] false]=some (.sl 1 [],[(0,.box 206 [.lit (.string a0.s),.lit (.int .i64 z2),.lit (.bool true)] false)]):=by
 rw [C1] at K2
 unfold runL fnL
 simp+decide [Tryz.f233,C1,K2,C3,K4,C5]
section
variable(C5:¬57<r2)(K6:runL (n+1) 182 [.ptr 0 0] [.box 206 [.lit (.string a0.s),.lit (.int .i64 z2),.lit (.bool d2)] false]=some (.lit (.int .u8 r3),[(0,.box 206 [.lit (.string a0.s),.lit (.int .i64 z3),.lit (.bool d3)] false)]))
include C5 K6
theorem rdg_f4(C7:r3=48)(C8:a1=false):
  runL (n+2) 233 [.ptr 0 0,.lit (.bool a1),.lit (.int .i64 a2)] [.box 206 [.lit (.string a0.s),.lit (.int .i64 (a0.at_)),.lit (.bool a0.bad)] false]=some (.sl 1 [],[(0,.box 206 [.lit (.string a0.s),.lit (.int .i64 z3),.lit (.bool true)] false)]):=by
 have C7_:(r3==48)=true:=by rw [C7];simp
 have C7_n:(r3 !=48)=false:=by rw [C7];simp
 rw [C1] at K2
 unfold runL fnL
 simp+decide [Tryz.f233,C1,K2,C3,K4,C5,K6,C7_,C7_n,C8]
section
variable(C7:r3=48)(C8:a1=true)(K9:runL (n+1) 182 [.ptr 0 0] [.box 206 [.lit (.string a0.s),.lit (.int .i64 z3),.lit (.bool d3)] false]=some (.lit (.int .u8 r4),[(0,.box 206 [.lit (.string a0.s),.lit (.int .i64 z4),.lit (.bool d4)] false)]))(C10:r4=48)(L11:loopG Tryz.prog (tab (n+2)) 1 81 (livesOf 233) 8 rdg_C8 (rdg_h8 a0 1 [] 0 z4 d4)=some (.exit 0,rdg_o8a a0 nat_8 z12 d14))(K12:runL (n+1) 182 [.ptr 0 0] [.box 206 [.lit (.string a0.s),.lit (.int .i64 z12),.lit (.bool d14)] false]=some (.lit (.int .u8 r20),[(0,.box 206 [.lit (.string a0.s),.lit (.int .i64 z14),.lit (.bool d16)] false)]))
include C7 C8 K9 C10 L11 K12
section
variable(C13:48≤r20)(K14:runL (n+1) 182 [.ptr 0 0] [.box 206 [.lit (.string a0.s),.lit (.int .i64 z14),.lit (.bool d16)] false]=some (.lit (.int .u8 r21),[(0,.box 206 [.lit (.string a0.s),.lit (.int .i64 z15),.lit (.bool d17)] false)]))
include C13 K14
theorem rdg_f5(C15:r21≤57):
  runL (n+2) 233 [.ptr 0 0,.lit (.bool a1),.lit (.int .i64 a2)] [.box 206 [.lit (.string a0.s),.lit (.int .i64 (a0.at_)),.lit (.bool a0.bad)] false]=some (natA nat_8,[(0,.box 206 [.lit (.string a0.s),.lit (.int .i64 z15),.lit (.bool true)] false)]):=by
 have C7_:(r3==48)=true:=by rw [C7];simp
 have C7_n:(r3 !=48)=false:=by rw [C7];simp
 have C10_:(r4==48)=true:=by rw [C10];simp
 have C10_n:(r4 !=48)=false:=by rw [C10];simp
 rw [C1] at K2
 unfold runL fnL
 simp+decide [Tryz.f233,C1,K2,C3,K4,C5,K6,C7_,C7_n,C8,K9,C10_,C10_n,K12,C13,K14,C15]
 rw [loopX_G (C':=rdg_C8) (e:=(rdg_h8 a0 1 [] 0 z4 d4)) ?_ ?_,L11]
 rotate_left
 ·kernel_rfl
 ·simp+decide [rdg_h8,C1,K2,C3,K4,C5,K6,C7_,C7_n,C8,K9,C10_,C10_n,K12,C13,K14,C15] <;>rfl
 simp+decide [rdg_o8a,C1,K2,C3,K4,C5,K6,C7_,C7_n,C8,K9,C10_,C10_n,K12,C13,K14,C15]
theorem rdg_f6(C15:¬r21≤57):
  runL (n+2) 233 [.ptr 0 0,.lit (.bool a1),.lit (.int .i64 a2)] [.box 206 [.lit (.string a0.s),.lit (.int .i64 (a0.at_)),.lit (.bool a0.bad)] false]=some (natA nat_8,[(0,.box 206 [.lit (.string a0.s),.lit (.int .i64 z15),.lit (.bool d17)] false)]):=by
 have C7_:(r3==48)=true:=by rw [C7];simp
 have C7_n:(r3 !=48)=false:=by rw [C7];simp
 have C10_:(r4==48)=true:=by rw [C10];simp
 have C10_n:(r4 !=48)=false:=by rw [C10];simp
 rw [C1] at K2
 unfold runL fnL
 simp+decide [Tryz.f233,C1,K2,C3,K4,C5,K6,C7_,C7_n,C8,K9,C10_,C10_n,K12,C13,K14,C15]
 rw [loopX_G (C':=rdg_C8) (e:=(rdg_h8 a0 1 [] 0 z4 d4)) ?_ ?_,L11]
 rotate_left
 ·kernel_rfl
 ·simp+decide [rdg_h8,C1,K2,C3,K4,C5,K6,C7_,C7_n,C8,K9,C10_,C10_n,K12,C13,K14,C15] <;>rfl
 simp+decide [rdg_o8a,C1,K2,C3,K4,C5,K6,C7_,C7_n,C8,K9,C10_,C10_n,K12,C13,K14,C15]
end
theorem rdg_f7(C13:¬48≤r20):
  runL (n+2) 233 [.ptr 0 0,.lit (.bool a1),.lit (.int .i64 a2)] [.box 206 [.lit (.string a0.s),.lit (.int .i64 (a0.at_)),.lit (.bool a0.bad)] false]=some (natA nat_8,[(0,.box 206 [.lit (.string a0.s),.lit (.int .i64 z14),.lit (.bool d16)] false)]):=by
 have C7_:(r3==48)=true:=by rw [C7];simp
 have C7_n:(r3 !=48)=false:=by rw [C7];simp
 have C10_:(r4==48)=true:=by rw [C10];simp
 have C10_n:(r4 !=48)=false:=by rw [C10];simp
 rw [C1] at K2
 unfold runL fnL
 simp+decide [Tryz.f233,C1,K2,C3,K4,C5,K6,C7_,C7_n,C8,K9,C10_,C10_n,K12,C13]
 rw [loopX_G (C':=rdg_C8) (e:=(rdg_h8 a0 1 [] 0 z4 d4)) ?_ ?_,L11]
 rotate_left
 ·kernel_rfl
 ·simp+decide [rdg_h8,C1,K2,C3,K4,C5,K6,C7_,C7_n,C8,K9,C10_,C10_n,K12,C13] <;>rfl
 simp+decide [rdg_o8a,C1,K2,C3,K4,C5,K6,C7_,C7_n,C8,K9,C10_,C10_n,K12,C13]
end
section
variable(C7:¬r3=48)(K8:runL (n+1) 182 [.ptr 0 0] [.box 206 [.lit (.string a0.s),.lit (.int .i64 z3),.lit (.bool d3)] false]=some (.lit (.int .u8 r28),[(0,.box 206 [.lit (.string a0.s),.lit (.int .i64 z22),.lit (.bool d24)] false)]))(C9:¬r28=48)(L10:loopG Tryz.prog (tab (n+2)) 1 81 (livesOf 233) 8 rdg_C8 (rdg_h8 a0 a2 [] 0 z22 d24)=some (.exit 0,rdg_o8a a0 nat_8 z12 d14))(K11:runL (n+1) 182 [.ptr 0 0] [.box 206 [.lit (.string a0.s),.lit (.int .i64 z12),.lit (.bool d14)] false]=some (.lit (.int .u8 r33),[(0,.box 206 [.lit (.string a0.s),.lit (.int .i64 z27),.lit (.bool d29)] false)]))
include C7 K8 C9 L10 K11
section
variable(C12:48≤r33)(K13:runL (n+1) 182 [.ptr 0 0] [.box 206 [.lit (.string a0.s),.lit (.int .i64 z27),.lit (.bool d29)] false]=some (.lit (.int .u8 r34),[(0,.box 206 [.lit (.string a0.s),.lit (.int .i64 z28),.lit (.bool d30)] false)]))
include C12 K13
theorem rdg_f23(C14:r34≤57):
  runL (n+2) 233 [.ptr 0 0,.lit (.bool a1),.lit (.int .i64 a2)] [.box 206 [.lit (.string a0.s),.lit (.int .i64 (a0.at_)),.lit (.bool a0.bad)] false]=some (natA nat_8,[(0,.box 206 [.lit (.string a0.s),.lit (.int .i64 z28),.lit (.bool true)] false)]):=by
 have C7_:(r3==48)=false:=by simpa using C7
 have C7_n:(r3 !=48)=true:=by simpa using C7
 have C9_:(r28==48)=false:=by simpa using C9
 have C9_n:(r28 !=48)=true:=by simpa using C9
 rw [C1] at K2
 unfold runL fnL
 simp+decide [Tryz.f233,C1,K2,C3,K4,C5,K6,C7_,C7_n,K8,C9_,C9_n,K11,C12,K13,C14]
 rw [loopX_G (C':=rdg_C8) (e:=(rdg_h8 a0 a2 [] 0 z22 d24)) ?_ ?_,L10]
 rotate_left
 ·kernel_rfl
 ·simp+decide [rdg_h8,C1,K2,C3,K4,C5,K6,C7_,C7_n,K8,C9_,C9_n,K11,C12,K13,C14] <;>rfl
 simp+decide [rdg_o8a,C1,K2,C3,K4,C5,K6,C7_,C7_n,K8,C9_,C9_n,K11,C12,K13,C14]
theorem rdg_f24(C14:¬r34≤57):
  runL (n+2) 233 [.ptr 0 0,.lit (.bool a1),.lit (.int .i64 a2)] [.box 206 [.lit (.string a0.s),.lit (.int .i64 (a0.at_)),.lit (.bool a0.bad)] false]=some (natA nat_8,[(0,.box 206 [.lit (.string a0.s),.lit (.int .i64 z28),.lit (.bool d30)] false)]):=by
 have C7_:(r3==48)=false:=by simpa using C7
 have C7_n:(r3 !=48)=true:=by simpa using C7
 have C9_:(r28==48)=false:=by simpa using C9
 have C9_n:(r28 !=48)=true:=by simpa using C9
 rw [C1] at K2
 unfold runL fnL
 simp+decide [Tryz.f233,C1,K2,C3,K4,C5,K6,C7_,C7_n,K8,C9_,C9_n,K11,C12,K13,C14]
 rw [loopX_G (C':=rdg_C8) (e:=(rdg_h8 a0 a2 [] 0 z22 d24)) ?_ ?_,L10]
 rotate_left
 ·kernel_rfl
 ·simp+decide [rdg_h8,C1,K2,C3,K4,C5,K6,C7_,C7_n,K8,C9_,C9_n,K11,C12,K13,C14] <;>rfl
 simp+decide [rdg_o8a,C1,K2,C3,K4,C5,K6,C7_,C7_n,K8,C9_,C9_n,K11,C12,K13,C14]
end
theorem rdg_f25(C12:¬48≤r33):
  runL (n+2) 233 [.ptr 0 0,.lit (.bool a1),.lit (.int .i64 a2)] [.box 206 [.lit (.string a0.s),.lit (.int .i64 (a0.at_)),.lit (.bool a0.bad)] false]=some (natA nat_8,[(0,.box 206 [.lit (.string a0.s),.lit (.int .i64 z27),.lit (.bool d29)] false)]):=by
 have C7_:(r3==48)=false:=by simpa using C7
 have C7_n:(r3 !=48)=true:=by simpa using C7
 have C9_:(r28==48)=false:=by simpa using C9
 have C9_n:(r28 !=48)=true:=by simpa using C9
 rw [C1] at K2
 unfold runL fnL
 simp+decide [Tryz.f233,C1,K2,C3,K4,C5,K6,C7_,C7_n,K8,C9_,C9_n,K11,C12]
 rw [loopX_G (C':=rdg_C8) (e:=(rdg_h8 a0 a2 [] 0 z22 d24)) ?_ ?_,L10]
 rotate_left
 ·kernel_rfl
 ·simp+decide [rdg_h8,C1,K2,C3,K4,C5,K6,C7_,C7_n,K8,C9_,C9_n,K11,C12] <;>rfl
 simp+decide [rdg_o8a,C1,K2,C3,K4,C5,K6,C7_,C7_n,K8,C9_,C9_n,K11,C12]
end
end
end
end
end
end
section
open Go.RowKit
attribute [local irreducible] run runL loopG exec
def rB(L l:List UInt8)(bad:Bool):AB:=.box 206 [.lit (.string (bs L)),.lit (.int .i64 (po L l)),.lit (.bool bad)] false
def hd:List UInt8→Int
 | []=>0
 | c::_=>(c.toNat:Int)
theorem hd_D{l:List UInt8}:isIn D10 l=true↔48≤hd l∧hd l≤57:=by
 rw [isIn_D]
 cases l with
 | nil=>exact ⟨fun ⟨c,r,h,_⟩=>(by cases h),fun ⟨h,_⟩=>(by have:hd []=0:=rfl;omega)⟩
 | cons c r=>
   have e:hd (c::r)=(c.toNat:Int):=rfl
   rw [e]
   constructor
   ·rintro ⟨c',r',h,h2⟩
    cases h
    have:=isD_n h2
    omega
   ·intro h
    exact ⟨c,r,rfl,decide_eq_true (by omega)⟩
section
variable {n : Nat} {L l : List UInt8} {bad : Bool}
theorem rpk_c(hL:L.length≤1000)(h:l <:+L):runL n 182 [.ptr 0 0] [rB L l bad]=some (.lit (.int .u8 (hd l)),[(0,rB L l bad)]):=by
 have hs:=bs_size L
 cases l with
 | nil=>exact rpk_f2 (n:=n) (a0:=⟨bs L,po L [],bad⟩) (by show ¬po L []<((bs L).size:Int);rw [po_nil];omega)
 | cons c r=>
   obtain ⟨p1,p2⟩:=po_lt h
   have p3:=po_rg L (c::r)
   exact rpk_f1 (n:=n) (a0:=⟨bs L,po L (c::r),bad⟩) (by show po L (c::r)<((bs L).size:Int);omega) (po_get h) (by show 0≤po L (c::r);omega)
theorem rbk_c(hL:L.length≤1000)(h:l <:+L):runL (n+1) 181 [.ptr 0 0] [rB L l bad]=some (.tup [],[(0,rB L (skL l) bad)]):=by
 obtain ⟨ex,t,h1,h2⟩:=loopG_Q (β:=List UInt8) (P:= Tryz.prog) (O:=tab (n+1)) (m:=1) (N:=12) (lives:=livesOf 181) (r:=0) (C:=rbk_C0) (M:=l.length) (enc:=fun _ b=>rbk_h0 ⟨bs L,po L l,bad⟩ (po L b) bad)
  (fun k b=>b <:+L∧skL b=skL l∧k+b.length=l.length) (fun ex t=>ex=.exit 0∧t=rbk_o0a ⟨bs L,po L l,bad⟩ (po L (skL l)) bad) l ⟨h,rfl,by omega⟩ (by have:=h.length_le;omega)
  (fun k b hk hI=>by
   obtain ⟨i1,i2,i3⟩:=hI
   have K:=rpk_c (n:=n) (bad:=bad) hL i1
   cases b with
   | nil=>simp at i3;omega
   | cons c b=>
     obtain ⟨p1,p2⟩:=po_lt i1
     have p3:=po_rg L (c::b)
     by_cases hc:c=32
     ·have R:=rbk_r0_1 (n:=n) (a0:=⟨bs L,po L l,bad⟩) (i_0:=po L (c::b)) (d_0:=bad) K (by rw [hc];rfl) ⟨by omega,by omega⟩
      rw [p2] at R
      refine .inl ⟨b,R,suf_tl i1,?_,by simp at i3;omega⟩
      rw [←i2,hc,skL_b]
     ·refine .inr ⟨_,_,by simp,rbk_x0_1 (n:=n) (a0:=⟨bs L,po L l,bad⟩) (i_0:=po L (c::b)) (d_0:=bad) K (fun e=>hc (u8n.2 (by have e2:(32:UInt8).toNat=32:=rfl;have e3:hd (c::b)=(c.toNat:Int):=rfl;omega))),rfl,?_⟩
      rw [←i2,skL_ne hc])
  (fun b hI=>by
   obtain ⟨i1,i2,i3⟩:=hI
   have K:=rpk_c (n:=n) (bad:=bad) hL i1
   have:b=[]:=List.eq_nil_of_length_eq_zero (by omega)
   subst this
   refine ⟨_,_,by simp,rbk_x0_1 (n:=n) (a0:=⟨bs L,po L l,bad⟩) (i_0:=po L []) (d_0:=bad) K (by show ¬(0:Int)=32;omega),rfl,?_⟩
   rw [←i2];rfl)
 obtain ⟨rfl,rfl⟩:=h2
 exact rbk_f1 (n:=n) (a0:=⟨bs L,po L l,bad⟩) h1
theorem lim_1{x:Nat}(h:x<4294967296):Lim [x]:=fun y hy=>by rw [List.mem_singleton.1 hy];exact h
theorem nat_1(x:Nat):natA [x]=.sl 1 [[.lit (.int .u32 (x:Int))]]:=rfl
theorem val_1(x:Nat):val [x]=x:=by simp [val]
theorem rdg_l{a0:Treader}(ha:a0.s=bs L)(hL:L.length≤1000)(h:l <:+L)(m:Nat)(hm:m≤300):
  loopG Tryz.prog (tab (n+2)) 1 81 (livesOf 233) 8 rdg_C8 (rdg_h8 a0 (m:Int) [] 0 (po L l) false)=some (.exit 0,rdg_o8a a0 (lmb (dgV (dgP m l).1 0)) (po L (dgP m l).2) false):=by
 obtain ⟨s,x,y⟩:=a0
 dsimp only at ha
 subst ha
 obtain ⟨ex,t,h1,h2⟩:=loopG_Q (β:=Nat × List UInt8) (P:= Tryz.prog) (O:=tab (n+2)) (m:=1) (N:=81) (lives:=livesOf 233) (r:=8) (C:=rdg_C8) (M:=m) (enc:=fun k b=>rdg_h8 ⟨bs L,x,y⟩ (m:Int) (lmb b.1) k (po L b.2) false)
  (fun k b=>b.2 <:+L∧b.1<10 ^ k∧dgV (dgP (m-k) b.2).1 b.1=dgV (dgP m l).1 0∧(dgP (m-k) b.2).2=(dgP m l).2) (fun ex t=>ex=.exit 0∧t=rdg_o8a ⟨bs L,x,y⟩ (lmb (dgV (dgP m l).1 0)) (po L (dgP m l).2) false) (0,l) ⟨h,by show 0<1;omega,rfl,rfl⟩ (by omega)
  (fun k b hk hI=>by
   obtain ⟨v,b⟩:=b
   obtain ⟨i1,i2,i3,i4⟩:=hI
   dsimp only at i1 i2 i3 i4 ⊢
   have K:=rpk_c (n:=n+1) (bad:=false) hL i1
   rw [show m-k=(m-(k+1))+1 from by omega] at i3 i4
   by_cases c:isIn D10 b=true
   ·obtain ⟨d,r,rfl,hd2⟩:=(isIn_D b).1 c
    obtain ⟨c0,c1⟩:=isD_n hd2
    obtain ⟨p1,p2⟩:=po_lt i1
    have p3:=po_rg L (d::r)
    have e:10 ^ (k+1)=10 ^ k*10:=Nat.pow_succ 10 _
    have f1:=lmb_few i2 (by omega)
    have f2:=lmb_few (k:=v*10) (m:=k+1) (by omega) (by omega)
    have w1:IntKind.u8.wrap ((d.toNat:Int)-48)=(d.toNat:Int)-48:=by simp [IntKind.wrap,IntKind.signed,IntKind.bits];omega
    have w2:IntKind.u32.wrap ((d.toNat:Int)-48)=(d.toNat:Int)-48:=by simp [IntKind.wrap,IntKind.signed,IntKind.bits];omega
    have K6:(oN2 fun x y=>natA (lmb (val x*val y))) [natA (lmb v),.sl 1 [[.lit (.int .u32 10)]]]=some (natA (lmb (v*10))):=by
     have:=oN2_raw (F:=fun x y=>natA (lmb (val x*val y))) (lim_lmb v) (lim_1 (x:=10) (by omega)) (few_l (by omega)) (Nat.ble_eq_true_of_le (by decide))
     rw [val_lmb,val_1] at this
     exact this
    have K10:(oN2 fun x y=>natA (lmb (val x+val y))) [natA (lmb (v*10)),.sl 1 [[.lit (.int .u32 ((d.toNat:Int)-48))]]]=some (natA (lmb (v*10+(d.toNat-48)))):=by
     have:=oN2_raw (F:=fun x y=>natA (lmb (val x+val y))) (lim_lmb (v*10)) (lim_1 (x:=d.toNat-48) (by omega)) (few_l (by omega)) (Nat.ble_eq_true_of_le (by simp))
     rw [val_lmb,val_1,nat_1,show ((d.toNat-48:Nat):Int)=(d.toNat:Int)-48 from by omega] at this
     exact this
    have R:=rdg_r8_1 (n:=n) (a0:=⟨bs L,x,y⟩) (m_8:=(m:Int)) (i_8:=k) (i2_8:=po L (d::r)) (d_8:=false) K (by show 48≤(d.toNat:Int);omega) K (by show (d.toNat:Int)≤57;omega) (by omega) K6 K w1 w2 K10 ⟨by omega,by omega⟩ ⟨by omega,by omega⟩
    rw [p2] at R
    rw [dgP,if_pos hd2] at i3 i4
    exact .inl ⟨(v*10+(d.toNat-48),r),R,suf_tl i1,by dsimp only;omega,i3,i4⟩
   ·have e2:dgP (m-(k+1)+1) b=([],b):=by
     cases b with
     | nil=>rfl
     | cons d r=>rw [dgP,if_neg (fun e=>c ((isIn_D _).2 ⟨d,r,rfl,e⟩))]
    rw [e2] at i3 i4
    have hn:¬(48≤hd b∧hd b≤57):=fun e=>c (hd_D.2 e)
    have e3:v=dgV (dgP m l).1 0:=i3
    have e4:b=(dgP m l).2:=i4
    by_cases c2:48≤hd b
    ·exact .inr ⟨_,_,by simp,rdg_x8_2 (n:=n) (a0:=⟨bs L,x,y⟩) (m_8:=(m:Int)) (i_8:=k) (i2_8:=po L b) (d_8:=false) K c2 K (by omega),rfl,by rw [←e3,←e4]⟩
    ·exact .inr ⟨_,_,by simp,rdg_x8_3 (n:=n) (a0:=⟨bs L,x,y⟩) (m_8:=(m:Int)) (i_8:=k) (i2_8:=po L b) (d_8:=false) K c2,rfl,by rw [←e3,←e4];rfl⟩)
  (fun b hI=>by
   obtain ⟨v,b⟩:=b
   obtain ⟨i1,i2,i3,i4⟩:=hI
   dsimp only at i1 i2 i3 i4 ⊢
   rw [Nat.sub_self] at i3 i4
   have K:=rpk_c (n:=n+1) (bad:=false) hL i1
   have e3:v=dgV (dgP m l).1 0:=i3
   have e4:b=(dgP m l).2:=i4
   by_cases c2:48≤hd b
   ·by_cases c3:hd b≤57
    ·exact ⟨_,_,by simp,rdg_x8_1 (n:=n) (a0:=⟨bs L,x,y⟩) (m_8:=(m:Int)) (i_8:=m) (i2_8:=po L b) (d_8:=false) K c2 K c3 (by omega),rfl,by rw [←e3,←e4]⟩
    ·exact ⟨_,_,by simp,rdg_x8_2 (n:=n) (a0:=⟨bs L,x,y⟩) (m_8:=(m:Int)) (i_8:=m) (i2_8:=po L b) (d_8:=false) K c2 K c3,rfl,by rw [←e3,←e4]⟩
   ·exact ⟨_,_,by simp,rdg_x8_3 (n:=n) (a0:=⟨bs L,x,y⟩) (m_8:=(m:Int)) (i_8:=m) (i2_8:=po L b) (d_8:=false) K c2,rfl,by rw [←e3,←e4];rfl⟩)
 obtain ⟨rfl,rfl⟩:=h2
 exact h1
theorem rdg_n(hL:L.length≤1000)(h:l <:+L){zero:Bool}{most:Nat}(hn:nmP zero most l=none):runL (n+2) 233 [.ptr 0 0,.lit (.bool zero),.lit (.int .i64 (most:Int))] [rB L l false]=some (.sl 1 [],[(0,rB L l true)]):=by
 have K:=rpk_c (n:=n+1) (bad:=false) hL h
 by_cases c1:hd l<48
 ·exact rdg_f2 (n:=n) (a0:=⟨bs L,po L l,false⟩) rfl K c1
 ·by_cases c2:57<hd l
  ·exact rdg_f3 (n:=n) (a0:=⟨bs L,po L l,false⟩) rfl K c1 K c2
  ·obtain ⟨c,r,rfl,hd2⟩:=(isIn_D l).1 (hd_D.2 ⟨by omega,by omega⟩)
   rw [nmP,if_pos hd2] at hn
   by_cases h2:c=48
   ·rw [if_pos h2] at hn
    cases zero with
    | true=>cases hn
    | false=>exact rdg_f4 (n:=n) (a0:=⟨bs L,po L (c::r),false⟩) rfl K c1 K c2 K (by rw [h2];rfl) rfl
   ·rw [if_neg h2] at hn
    cases hn
theorem rdg_s(hL:L.length≤1000)(h:l <:+L){zero:Bool}{most:Nat}{d r:List UInt8}(hm:most≤300)(h0:0<most)(hn:nmP zero most l=some (d,r)):runL (n+2) 233 [.ptr 0 0,.lit (.bool zero),.lit (.int .i64 (most:Int))] [rB L l false]=some (natA (lmb (dgV d 0)),[(0,rB L r (isIn D10 r))]):=by
 have K:=rpk_c (n:=n+1) (bad:=false) hL h
 obtain ⟨e1,e2,e3,e4⟩:=nmP_ok hn h0
 have hr:r <:+L:=List.IsSuffix.trans ⟨d,e1.symm⟩ h
 have K2:=rpk_c (n:=n+1) (bad:=false) hL hr
 cases l with
 | nil=>cases hn
 | cons c l=>
   rw [nmP] at hn
   have hd2:isD c=true:=by
    false_or_by_contra
    rename_i hd
    rw [if_neg hd] at hn
    cases hn
   rw [if_pos hd2] at hn
   obtain ⟨c0,c1⟩:=isD_n hd2
   have q0:¬hd (c::l)<48:=by show ¬(c.toNat:Int)<48;omega
   have q1:¬57<hd (c::l):=by show ¬57<(c.toNat:Int);omega
   have fin:isIn D10 r=true∨(isIn D10 r=false∧48≤hd r∧¬hd r≤57)∨(isIn D10 r=false∧¬48≤hd r):=by
    cases c:isIn D10 r with
    | true=>exact .inl rfl
    | false=>
      have hn:¬(48≤hd r∧hd r≤57):=fun e=>by rw [hd_D.2 e] at c;cases c
      by_cases c2:48≤hd r
      ·exact .inr (.inl ⟨rfl,c2,by omega⟩)
      ·exact .inr (.inr ⟨rfl,c2⟩)
   by_cases hc:c=48
   ·rw [if_pos hc] at hn
    cases zero with
    | false=>cases hn
    | true=>
      obtain ⟨g1,g2⟩:=Prod.mk.inj (Option.some.inj hn)
      have q2:hd (c::l)=48:=by rw [hc];rfl
      have G:=rdg_l (n:=n) (a0:=⟨bs L,po L (c::l),false⟩) rfl hL h 1 (by omega)
      have e5:dgP 1 (c::l)=(d,r):=by rw [dgP,if_pos hd2,hc,←g1,←g2];rfl
      rw [e5] at G
      rcases fin with f|⟨f,f2,f3⟩|⟨f,f2⟩
      ·obtain ⟨f2,f3⟩:=hd_D.1 f
       rw [f]
       exact rdg_f5 (n:=n) (a0:=⟨bs L,po L (c::l),false⟩) rfl K q0 K q1 K q2 rfl K q2 G K2 f2 K2 f3
      ·rw [f]
       exact rdg_f6 (n:=n) (a0:=⟨bs L,po L (c::l),false⟩) rfl K q0 K q1 K q2 rfl K q2 G K2 f2 K2 f3
      ·rw [f]
       exact rdg_f7 (n:=n) (a0:=⟨bs L,po L (c::l),false⟩) rfl K q0 K q1 K q2 rfl K q2 G K2 f2
   ·rw [if_neg hc] at hn
    have hn2:=Option.some.inj hn
    have q2:¬hd (c::l)=48:=fun e=>hc (u8n.2 (by have e2:(48:UInt8).toNat=48:=rfl;have e3:hd (c::l)=(c.toNat:Int):=rfl;omega))
    have G:=rdg_l (n:=n) (a0:=⟨bs L,po L (c::l),false⟩) rfl hL h most hm
    rw [hn2] at G
    rcases fin with f|⟨f,f2,f3⟩|⟨f,f2⟩
    ·obtain ⟨f2,f3⟩:=hd_D.1 f
     rw [f]
     exact rdg_f23 (n:=n) (a0:=⟨bs L,po L (c::l),false⟩) rfl K q0 K q1 K q2 K q2 G K2 f2 K2 f3
    ·rw [f]
     exact rdg_f24 (n:=n) (a0:=⟨bs L,po L (c::l),false⟩) rfl K q0 K q1 K q2 K q2 G K2 f2 K2 f3
    ·rw [f]
     exact rdg_f25 (n:=n) (a0:=⟨bs L,po L (c::l),false⟩) rfl K q0 K q1 K q2 K q2 G K2 f2
end
end
end Go.Proofs.YtnegdhjdienjlaaGreatDoor
