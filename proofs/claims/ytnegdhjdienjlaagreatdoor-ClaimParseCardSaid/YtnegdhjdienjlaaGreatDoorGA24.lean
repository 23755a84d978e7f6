import Derived.Test.YtnegdhjdienjlaaGreatDoorGA16
import Derived.Test.YtnegdhjdienjlaaGreatDoorGA18
import Derived.Test.YtnegdhjdienjlaaGreatDoorGA17
import Derived.Test.YtnegdhjdienjlaaGreatDoorGA20
import Derived.Test.YtnegdhjdienjlaaGreatDoorGA23
import Derived.Test.YtnegdhjdienjlaaGreatDoorGA22
set_option exponentiation.threshold 400
set_option linter.all false
set_option maxHeartbeats 6400000
set_option maxRecDepth 100000
namespace Go.Proofs.YtnegdhjdienjlaaGreatDoor
section
open Go.RowKit
noncomputable def plR_C4:Code:=(loopsOf (bodyOf Tryz.f230)).getD 0 .skip
def plR_h4(a0:Form)(a1:Int)(a2:Raw)(out_4:List (Int × Rat))(d_4:Bool)(i_4:Nat):St:=
 ⟨[(1,.lit (.int .i64 a1)),(3,.ptr 0 0),(5,.ptr 1 0),(6,.ptr 2 0),(7,.own 3 out_4.length),(8,.lit (.bool d_4)),(9,.lit (.int .i64 (i_4:Int)))],
  [(0,some (.box 79 [.sl 4 (a0.1.map termC),.lit (.bool (rawQ a0.2).s),natA (rawQ a0.2).l1,natA (rawQ a0.2).l2] false)),
   (1,some (.box 25 [.lit (.bool a2.s),natA a2.l1,natA a2.l2] false)),
   (2,some (.box 79 [.nl 4,.lit (.bool false),.nl 1,.nl 1] false)),
   (3,some (.row 81 4 (out_4.map termC) 0))],4⟩
def plR_o4a(a0:Form)(a1:Int)(a2:Raw)(out_4:List (Int × Rat))(d_4:Bool):St:=
 ⟨[(1,.lit (.int .i64 a1)),(3,.ptr 0 0),(5,.ptr 1 0),(6,.ptr 2 0),(7,.own 3 out_4.length),(8,.lit (.bool d_4))],
  [(0,some (.box 79 [.sl 4 (a0.1.map termC),.lit (.bool (rawQ a0.2).s),natA (rawQ a0.2).l1,natA (rawQ a0.2).l2] false)),
   (1,some (.box 25 [.lit (.bool a2.s),natA a2.l1,natA a2.l2] false)),
   (2,some (.box 79 [.nl 4,.lit (.bool false),.nl 1,.nl 1] false)),
   (3,some (.row 81 4 (out_4.map termC) 0))],4⟩
section
variable{v3:Int}{a1:Int}{a2:Raw}{q3:Rat}{out_4:List (Int × Rat)}{n:Nat}{d_4:Bool}{a0:Form}{i_4:Nat}{R12:List (Int × Rat)}{R14:List (Int × Rat)}{R13:List (Int × Rat)}{R15:List (Int × Rat)}{R16:List (Int × Rat)}{R17:List (Int × Rat)}{R18:List (Int × Rat)}
section
variable(C1:(i_4:Int)<(a0.1.length:Int))(E2:a0.1[i_4]?=some (v3,q3))
include C1 E2
theorem plR_r4_1(C3:v3=a1)(B4aH:H q3≤17179869184)(B4b:RawB a2)(K5:runL n 232 [.own 0 out_4.length,.agg [.lit (.int .i64 v3),.lit (.bool (rawQ (q3+a2.q)).s),natA (rawQ (q3+a2.q)).l1,natA (rawQ (q3+a2.q)).l2]] [.row 81 4 (out_4.map termC) 0]=some (.own 0 out_4.length,[(0,.row 81 4 (out_4.map termC) 0)]))(W6:InI ((i_4:Int)+1)):
  Cont 0 (exec Tryz.prog (tab (n+1)) 0 61 (livesOf 230) big plR_C4) (livesOf 230 4) (plR_h4 a0 a1 a2 out_4 d_4 i_4) (plR_h4 a0 a1 a2 out_4 true (i_4+1)):=by
 have C1_:i_4<a0.1.length:=by omega
 obtain ⟨EL2,EG2⟩:=List.getElem?_eq_some_iff.1 E2
 have C3_:(v3==a1)=true:=by rw [C3];simp
 have C3_n:(v3 !=a1)=false:=by rw [C3];simp
 have B4a:=rawB_q B4aH
 have K4:=rr_add B4a B4b
 simp only [rawQ_q] at K4
 have W6_:IntKind.i64.wrap ((i_4:Int)+1)=(i_4:Int)+1:=wr64 W6.1 W6.2
 unfold Cont
 simp+decide [plR_h4,loopsOf, Tryz.f230,plR_C4,C1,C1_,EL2,EG2,E2,C3_,C3_n,K4,K5,W6_]
theorem plR_r4_2(C3:v3=a1)(B4aH:H q3≤17179869184)(B4b:RawB a2)(K5:runL n 232 [.own 0 out_4.length,.agg [.lit (.int .i64 v3),.lit (.bool (rawQ (q3+a2.q)).s),natA (rawQ (q3+a2.q)).l1,natA (rawQ (q3+a2.q)).l2]] [.row 81 4 (out_4.map termC) 0]=some (.own 3 R12.length,[(3,.row 81 4 (R12.map termC) 0)]))(W6:InI ((i_4:Int)+1)):
  Cont 0 (exec Tryz.prog (tab (n+1)) 0 61 (livesOf 230) big plR_C4) (livesOf 230 4) (plR_h4 a0 a1 a2 out_4 d_4 i_4) (plR_h4 a0 a1 a2 R12 true (i_4+1)):=by
 have C1_:i_4<a0.1.length:=by omega
 obtain ⟨EL2,EG2⟩:=List.getElem?_eq_some_iff.1 E2
 have C3_:(v3==a1)=true:=by rw [C3];simp
 have C3_n:(v3 !=a1)=false:=by rw [C3];simp
 have B4a:=rawB_q B4aH
 have K4:=rr_add B4a B4b
 simp only [rawQ_q] at K4
 have W6_:IntKind.i64.wrap ((i_4:Int)+1)=(i_4:Int)+1:=wr64 W6.1 W6.2
 unfold Cont
 simp+decide [plR_h4,loopsOf, Tryz.f230,plR_C4,C1,C1_,EL2,EG2,E2,C3_,C3_n,K4,K5,W6_]
theorem plR_r4_4(C3:¬v3=a1)(C4:d_4=false)(C5:a1<v3)(B6a:RawB a2)(K7:runL n 232 [.own 0 out_4.length,.agg [.lit (.int .i64 a1),.lit (.bool (rawQ a2.q).s),natA (rawQ a2.q).l1,natA (rawQ a2.q).l2]] [.row 81 4 (out_4.map termC) 0]=some (.own 0 out_4.length,[(0,.row 81 4 (out_4.map termC) 0)]))(K8:runL n 232 [.own 0 out_4.length,.agg [.lit (.int .i64 v3),.lit (.bool (rawQ q3).s),natA (rawQ q3).l1,natA (rawQ q3).l2]] [.row 81 4 (out_4.map termC) 0]=some (.own 3 R14.length,[(3,.row 81 4 (R14.map termC) 0)]))(W9:InI ((i_4:Int)+1)):
  Cont 0 (exec Tryz.prog (tab (n+1)) 0 61 (livesOf 230) big plR_C4) (livesOf 230 4) (plR_h4 a0 a1 a2 out_4 d_4 i_4) (plR_h4 a0 a1 a2 R14 true (i_4+1)):=by
 have C1_:i_4<a0.1.length:=by omega
 obtain ⟨EL2,EG2⟩:=List.getElem?_eq_some_iff.1 E2
 have C3_:(v3==a1)=false:=by simpa using C3
 have C3_n:(v3 !=a1)=true:=by simpa using C3
 have K6:=rr_canon B6a
 have W9_:IntKind.i64.wrap ((i_4:Int)+1)=(i_4:Int)+1:=wr64 W9.1 W9.2
 unfold Cont
 simp+decide [plR_h4,loopsOf, Tryz.f230,plR_C4,C1,C1_,EL2,EG2,E2,C3_,C3_n,C4,C5,K6,K7,K8,W9_]
theorem plR_r4_6(C3:¬v3=a1)(C4:d_4=false)(C5:a1<v3)(B6a:RawB a2)(K7:runL n 232 [.own 0 out_4.length,.agg [.lit (.int .i64 a1),.lit (.bool (rawQ a2.q).s),natA (rawQ a2.q).l1,natA (rawQ a2.q).l2]] [.row 81 4 (out_4.map termC) 0]=some (.own 3 R13.length,[(3,.row 81 4 (R13.map termC) 0)]))(K8:runL n 232 [.own 0 R13.length,.agg [.lit (.int .i64 v3),.lit (.bool (rawQ q3).s),natA (rawQ q3).l1,natA (rawQ q3).l2]] [.row 81 4 (R13.map termC) 0]=some (.own 3 R15.length,[(3,.row 81 4 (R15.map termC) 0)]))(W9:InI ((i_4:Int)+1)):
  Cont 0 (exec Tryz.prog (tab (n+1)) 0 61 (livesOf 230) big plR_C4) (livesOf 230 4) (plR_h4 a0 a1 a2 out_4 d_4 i_4) (plR_h4 a0 a1 a2 R15 true (i_4+1)):=by
 have C1_:i_4<a0.1.length:=by omega
 obtain ⟨EL2,EG2⟩:=List.getElem?_eq_some_iff.1 E2
 have C3_:(v3==a1)=false:=by simpa using C3
 have C3_n:(v3 !=a1)=true:=by simpa using C3
 have K6:=rr_canon B6a
 have W9_:IntKind.i64.wrap ((i_4:Int)+1)=(i_4:Int)+1:=wr64 W9.1 W9.2
 unfold Cont
 simp+decide [plR_h4,loopsOf, Tryz.f230,plR_C4,C1,C1_,EL2,EG2,E2,C3_,C3_n,C4,C5,K6,K7,K8,W9_]
theorem plR_r4_8(C3:¬v3=a1)(C4:d_4=false)(C5:¬a1<v3)(K6:runL n 232 [.own 0 out_4.length,.agg [.lit (.int .i64 v3),.lit (.bool (rawQ q3).s),natA (rawQ q3).l1,natA (rawQ q3).l2]] [.row 81 4 (out_4.map termC) 0]=some (.own 3 R16.length,[(3,.row 81 4 (R16.map termC) 0)]))(W7:InI ((i_4:Int)+1)):
  Cont 0 (exec Tryz.prog (tab (n+1)) 0 61 (livesOf 230) big plR_C4) (livesOf 230 4) (plR_h4 a0 a1 a2 out_4 d_4 i_4) (plR_h4 a0 a1 a2 R16 d_4 (i_4+1)):=by
 have C1_:i_4<a0.1.length:=by omega
 obtain ⟨EL2,EG2⟩:=List.getElem?_eq_some_iff.1 E2
 have C3_:(v3==a1)=false:=by simpa using C3
 have C3_n:(v3 !=a1)=true:=by simpa using C3
 have W7_:IntKind.i64.wrap ((i_4:Int)+1)=(i_4:Int)+1:=wr64 W7.1 W7.2
 unfold Cont
 simp+decide [plR_h4,loopsOf, Tryz.f230,plR_C4,C1,C1_,EL2,EG2,E2,C3_,C3_n,C4,C5,K6,W7_]
theorem plR_r4_10(C3:¬v3=a1)(C4:d_4=true)(K5:runL n 232 [.own 0 out_4.length,.agg [.lit (.int .i64 v3),.lit (.bool (rawQ q3).s),natA (rawQ q3).l1,natA (rawQ q3).l2]] [.row 81 4 (out_4.map termC) 0]=some (.own 3 R17.length,[(3,.row 81 4 (R17.map termC) 0)]))(W6:InI ((i_4:Int)+1)):
  Cont 0 (exec Tryz.prog (tab (n+1)) 0 61 (livesOf 230) big plR_C4) (livesOf 230 4) (plR_h4 a0 a1 a2 out_4 d_4 i_4) (plR_h4 a0 a1 a2 R17 d_4 (i_4+1)):=by
 have C1_:i_4<a0.1.length:=by omega
 obtain ⟨EL2,EG2⟩:=List.getElem?_eq_some_iff.1 E2
 have C3_:(v3==a1)=false:=by simpa using C3
 have C3_n:(v3 !=a1)=true:=by simpa using C3
 have W6_:IntKind.i64.wrap ((i_4:Int)+1)=(i_4:Int)+1:=wr64 W6.1 W6.2
 unfold Cont
 simp+decide [plR_h4,loopsOf, Tryz.f230,plR_C4,C1,C1_,EL2,EG2,E2,C3_,C3_n,C4,K5,W6_]
end
theorem plR_x4_1(C1:¬(i_4:Int)<(a0.1.length:Int)):
  Leave 0 (exec Tryz.prog (tab (n+1)) 0 61 (livesOf 230) big plR_C4) (livesOf 230 (outOf 4)) (plR_h4 a0 a1 a2 out_4 d_4 i_4) (.exit 0) (plR_o4a a0 a1 a2 out_4 d_4):=by
 have C1_:¬i_4<a0.1.length:=by omega
 unfold Leave
 simp+decide [plR_h4,loopsOf, Tryz.f230,plR_o4a,plR_C4,C1,C1_]
section
variable(L1:loopG Tryz.prog (tab (n+1)) 0 61 (livesOf 230) 4 plR_C4 (plR_h4 a0 a1 a2 [] false 0)=some (.exit 0,plR_o4a a0 a1 a2 out_4 d_4))
include L1
theorem plR_f1(C2:d_4=false)(B3a:RawB a2)(K4:runL n 232 [.own 0 out_4.length,.agg [.lit (.int .i64 a1),.lit (.bool (rawQ a2.q).s),natA (rawQ a2.q).l1,natA (rawQ a2.q).l2]] [.row 81 4 (out_4.map termC) 0]=some (.own 0 out_4.length,[(0,.row 81 4 (out_4.map termC) 0)])):
  run (n+1) 230 [formV a0,.lit (.int .i64 a1),.agg [.lit (.bool a2.s),natA a2.l1,natA a2.l2]]=some (formV (out_4,a0.2)):=by
 have K3:=rr_canon B3a
 unfold run fnP
 simp+decide [Tryz.f230,C2,K3,K4]
 rw [loopX_G (C':=plR_C4) (e:=(plR_h4 a0 a1 a2 [] false 0)) ?_ ?_,L1]
 rotate_left
 ·kernel_rfl
 ·simp+decide [plR_h4,C2,K3,K4]
 simp+decide [plR_o4a,C2,K3,K4]
theorem plR_f2(C2:d_4=false)(B3a:RawB a2)(K4:runL n 232 [.own 0 out_4.length,.agg [.lit (.int .i64 a1),.lit (.bool (rawQ a2.q).s),natA (rawQ a2.q).l1,natA (rawQ a2.q).l2]] [.row 81 4 (out_4.map termC) 0]=some (.own 3 R18.length,[(3,.row 81 4 (R18.map termC) 0)])):
  run (n+1) 230 [formV a0,.lit (.int .i64 a1),.agg [.lit (.bool a2.s),natA a2.l1,natA a2.l2]]=some (formV (R18,a0.2)):=by
 have K3:=rr_canon B3a
 unfold run fnP
 simp+decide [Tryz.f230,C2,K3,K4]
 rw [loopX_G (C':=plR_C4) (e:=(plR_h4 a0 a1 a2 [] false 0)) ?_ ?_,L1]
 rotate_left
 ·kernel_rfl
 ·simp+decide [plR_h4,C2,K3,K4]
 simp+decide [plR_o4a,C2,K3,K4]
theorem plR_f3(C2:d_4=true):
  run (n+1) 230 [formV a0,.lit (.int .i64 a1),.agg [.lit (.bool a2.s),natA a2.l1,natA a2.l2]]=some (formV (out_4,a0.2)):=by
 unfold run fnP
 simp+decide [Tryz.f230,C2]
 rw [loopX_G (C':=plR_C4) (e:=(plR_h4 a0 a1 a2 [] false 0)) ?_ ?_,L1]
 rotate_left
 ·kernel_rfl
 ·simp+decide [plR_h4,C2]
 simp+decide [plR_o4a,C2]
end
end
end
section
open Go.RowKit
theorem plR_step{n:Nat}{f:Form}{v:Int}{c:Raw}(hT:TmB 1000000 f.1)(hF:f.1.length≤400000)(hR:RawB c)(hc:H c.q≤1000000){i:Nat}{t:Int × Rat}{b:List (Int × Rat) × Bool}(hi:f.1[i]?=some t)(hb:b.1.length≤2*i):
  Cont 0 (exec Tryz.prog (tab (n+1)) 0 61 (livesOf 230) big plR_C4) (livesOf 230 4) (plR_h4 f v c b.1 b.2 i) (plR_h4 f v c (plF v c.q i b t).1 (plF v c.q i b t).2 (i+1)):=by
 obtain ⟨u,q⟩:=t
 obtain ⟨out,d⟩:=b
 have hlt:=(List.getElem?_eq_some_iff.1 hi).1
 have ht:=hT _ (List.mem_of_getElem? hi)
 have hq:H q≤1000000:=ht.2
 have hq0:q≠0:=ht.1
 have hH:=H_add q c.q
 have C1:(i:Int)<(f.1.length:Int):=by omega
 have W:InI ((i:Int)+1):=⟨by omega,by omega⟩
 have hb:out.length≤2*i:=hb
 have e3:put1 u q=[(u,q)]:=if_neg hq0
 unfold plF
 dsimp only
 split
 ·rename_i e
  by_cases h0:q+c.q=0
  ·have e4:put1 u (q+c.q)=[]:=if_pos h0
   rw [e4,List.append_nil]
   exact plR_r4_1 C1 hi e (by omega) hR (nz_same (by omega) h0) W
  ·have e4:put1 u (q+c.q)=[(u,q+c.q)]:=if_neg h0
   rw [e4]
   exact plR_r4_2 C1 hi e (by omega) hR (nz_new (by omega) h0 (by omega)) W
 ·rename_i e
  split
  ·rename_i e2
   obtain ⟨e2,e5⟩:=e2
   rw [e3]
   by_cases h0:c.q=0
   ·have e4:put1 v c.q=[]:=if_pos h0
    rw [e4,List.nil_append]
    exact plR_r4_4 C1 hi e e2 e5 hR (nz_same (by omega) h0) (nz_new (by omega) hq0 (by omega)) W
   ·have e4:put1 v c.q=[(v,c.q)]:=if_neg h0
    rw [e4,←List.append_assoc]
    exact plR_r4_6 C1 hi e e2 e5 hR (nz_new (by omega) h0 (by omega)) (nz_new (by omega) hq0 (by rw [List.length_append];simp;omega)) W
  ·rename_i e2
   rw [e3]
   cases d with
   | true=>exact plR_r4_10 C1 hi e rfl (nz_new (by omega) hq0 (by omega)) W
   | false=>exact plR_r4_8 C1 hi e rfl (fun h=>e2 ⟨rfl,h⟩) (nz_new (by omega) hq0 (by omega)) W
theorem plusR_c{n:Nat}{f:Form}{v:Int}{c:Raw}(hT:TmB 1000000 f.1)(hF:f.1.length≤400000)(hR:RawB c)(hc:H c.q≤1000000):
  run (n+1) 230 [formV f,.lit (.int .i64 v),.agg [.lit (.bool c.s),natA c.l1,natA c.l2]]=some (formV (plusV false f.1 v c.q,f.2)):=by
 have L:loopG Tryz.prog (tab (n+1)) 0 61 (livesOf 230) 4 plR_C4 (plR_h4 f v c [] false 0)=some (.exit 0,plR_o4a f v c (plO false f.1 v c.q) (plD false f.1 v)):=by
  have h:=(loopG_I (O:=tab (n+1)) (exN:=.exit 0) (L:=f.1) (enc:=fun i b=>plR_h4 f v c b.1 b.2 i) (f:=plF v c.q) (Inv:=fun i b=>b.1.length≤2*i) (out:=fun b=>plR_o4a f v c b.1 b.2) ([],false) (by simp) (by omega) (by simp)
   (fun i t b hi hI=>⟨plR_step hT hF hR hc hi hI,by have:=plF_len v c.q i b t;omega⟩) (fun b hI=>plR_x4_1 (by omega))).1
  rw [plF_fold] at h
  exact h
 have hl:=plO_len v c.q false f.1
 rw [plusV_plO]
 cases hd:plD false f.1 v with
 | true=>
   rw [hd] at L
   rw [if_pos rfl,List.append_nil]
   exact plR_f3 L rfl
 | false=>
   rw [hd] at L
   rw [if_neg (by simp)]
   by_cases h0:c.q=0
   ·have e:put1 v c.q=[]:=if_pos h0
    rw [e,List.append_nil]
    exact plR_f1 L rfl hR (nz_same (by omega) h0)
   ·have e:put1 v c.q=[(v,c.q)]:=if_neg h0
    rw [e]
    exact plR_f2 L rfl hR (nz_new (by omega) h0 (by omega))
end
section
open Go.RowKit
theorem rvr_f1{n:Nat}{a0:Treader}{r:List Nat}{z:Int}{d:Bool}{r2:Int}{r3:Bool}(W1:InI (a0.at_+1))(K2:runL (n+2) 233 [.ptr 0 0,.lit (.bool true),.lit (.int .i64 9)] [.box 206 [.lit (.string a0.s),.lit (.int .i64 (a0.at_+1)),.lit (.bool a0.bad)] false]=some (natA r,[(0,.box 206 [.lit (.string a0.s),.lit (.int .i64 z),.lit (.bool d)] false)]))(K3:(oN1 u64N fun x=>.tup [.lit (.int .u64 (val x:Nat)),.lit (.bool true)]) [natA r]=some (.tup [.lit (.int .u64 r2),.lit (.bool r3)]))(W4:InI (r2)):
  runL (n+3) 234 [.ptr 0 0] [.box 206 [.lit (.string a0.s),.lit (.int .i64 (a0.at_)),.lit (.bool a0.bad)] false]=some (.lit (.int .i64 r2),[(0,.box 206 [.lit (.string a0.s),.lit (.int .i64 z),.lit (.bool d)] false)]):=by
 have W1_:IntKind.i64.wrap (a0.at_+1)=a0.at_+1:=wr64 W1.1 W1.2
 have W4_:IntKind.i64.wrap (r2)=r2:=wr64 W4.1 W4.2
 unfold runL fnL
 simp+decide [Tryz.f234,W1_,K2,K3,W4_]
end
section
open Go.RowKit
section
variable {d3 : Bool} {d6 : Bool} {r2 : List Nat} {a2 : Bool} {z2 : Int} {z3 : Int} {z7 : Int} {d4 : Bool} {a1 : Form} {z : Int} {n : Nat} {d5 : Bool} {d7 : Bool} {r4 : List Nat} {d8 : Bool} {z4 : Int} {d : Bool} {a0 : Treader} {z5 : Int} {z8 : Int} {r : Int} {r3 : Int} {d2 : Bool} {z6 : Int} {r5 : Int} {z9 : Int} {d9 : Bool} {d11 : Bool} {r6 : Int} {z10 : Int} {d10 : Bool} {z11 : Int} {r9 : Int} {z15 : Int} {d15 : Bool} {r10 : Form} {d12 : Bool} {z12 : Int} {r7 : Int} {d14 : Bool} {r8 : Int} {d13 : Bool} {z13 : Int} {z14 : Int} {z16 : Int} {r11 : Int} {d16 : Bool} {r12 : Form} {z17 : Int} {d17 : Bool} {r13 : Int} {r14 : Form}
section
variable(K1:runL (n+3) 181 [.ptr 0 0] [.box 206 [.lit (.string a0.s),.lit (.int .i64 (a0.at_)),.lit (.bool a0.bad)] false]=some (.tup [],[(0,.box 206 [.lit (.string a0.s),.lit (.int .i64 z),.lit (.bool d)] false)]))(K3:runL (n+3) 182 [.ptr 0 0] [.box 206 [.lit (.string a0.s),.lit (.int .i64 z),.lit (.bool d)] false]=some (.lit (.int .u8 r),[(0,.box 206 [.lit (.string a0.s),.lit (.int .i64 z2),.lit (.bool d2)] false)]))
include K1 K3
section
variable(C4:¬r=120)(K5:runL (n+3) 233 [.ptr 0 0,.lit (.bool true),.lit (.int .i64 200)] [.box 206 [.lit (.string a0.s),.lit (.int .i64 z2),.lit (.bool d2)] false]=some (natA r2,[(0,.box 206 [.lit (.string a0.s),.lit (.int .i64 z3),.lit (.bool d3)] false)]))(K6:runL (n+3) 181 [.ptr 0 0] [.box 206 [.lit (.string a0.s),.lit (.int .i64 z3),.lit (.bool d3)] false]=some (.tup [],[(0,.box 206 [.lit (.string a0.s),.lit (.int .i64 z4),.lit (.bool d4)] false)]))
include C4 K5 K6
section
variable(C7:d4=false)(K8:runL (n+3) 182 [.ptr 0 0] [.box 206 [.lit (.string a0.s),.lit (.int .i64 z4),.lit (.bool d4)] false]=some (.lit (.int .u8 r3),[(0,.box 206 [.lit (.string a0.s),.lit (.int .i64 z5),.lit (.bool d5)] false)]))
include C7 K8
section
variable(C9:r3=47)(W10:InI (z5+1))(K11:runL (n+3) 181 [.ptr 0 0] [.box 206 [.lit (.string a0.s),.lit (.int .i64 (z5+1)),.lit (.bool d5)] false]=some (.tup [],[(0,.box 206 [.lit (.string a0.s),.lit (.int .i64 z6),.lit (.bool d6)] false)]))(K12:runL (n+3) 233 [.ptr 0 0,.lit (.bool false),.lit (.int .i64 200)] [.box 206 [.lit (.string a0.s),.lit (.int .i64 z6),.lit (.bool d6)] false]=some (natA r4,[(0,.box 206 [.lit (.string a0.s),.lit (.int .i64 z7),.lit (.bool d7)] false)]))(K13:runL (n+3) 181 [.ptr 0 0] [.box 206 [.lit (.string a0.s),.lit (.int .i64 z7),.lit (.bool d7)] false]=some (.tup [],[(0,.box 206 [.lit (.string a0.s),.lit (.int .i64 z8),.lit (.bool d8)] false)]))
include C9 W10 K11 K12 K13
theorem rpa_f1(C14:d8=true):
  runL (n+4) 183 [.ptr 0 0,formV a1,.lit (.bool a2)] [.box 206 [.lit (.string a0.s),.lit (.int .i64 (a0.at_)),.lit (.bool a0.bad)] false]=some (formV a1,[(0,.box 206 [.lit (.string a0.s),.lit (.int .i64 z8),.lit (.bool d8)] false)]):=by
 have K2:=r_ofq (z:=1) (by omega) (by omega)
 have C4_:(r==120)=false:=by simpa using C4
 have C4_n:(r !=120)=true:=by simpa using C4
 have C9_:(r3==47)=true:=by rw [C9];simp
 have C9_n:(r3 !=47)=false:=by rw [C9];simp
 have W10_:IntKind.i64.wrap (z5+1)=z5+1:=wr64 W10.1 W10.2
 rw [C7] at K6
 rw [C7] at K8
 rw [C14] at K13
 unfold runL fnL
 simp+decide [Tryz.f183,K1,K2,K3,C4_,C4_n,K5,K6,C7,K8,C9_,C9_n,W10_,K11,K12,K13,C14]
section
variable(C14:d8=false)(K15:runL (n+3) 182 [.ptr 0 0] [.box 206 [.lit (.string a0.s),.lit (.int .i64 z8),.lit (.bool d8)] false]=some (.lit (.int .u8 r5),[(0,.box 206 [.lit (.string a0.s),.lit (.int .i64 z9),.lit (.bool d9)] false)]))
include C14 K15
theorem rpa_f2(C16:¬r5=42)(B17aH:H a1.2≤17179869184)(B17b:RawB (⟨a2,r2,r4⟩:Raw)):
  runL (n+4) 183 [.ptr 0 0,formV a1,.lit (.bool a2)] [.box 206 [.lit (.string a0.s),.lit (.int .i64 (a0.at_)),.lit (.bool a0.bad)] false]=some (formV (a1.1,a1.2+((⟨a2,r2,r4⟩:Raw).q)),[(0,.box 206 [.lit (.string a0.s),.lit (.int .i64 z9),.lit (.bool d9)] false)]):=by
 have K2:=r_ofq (z:=1) (by omega) (by omega)
 have C4_:(r==120)=false:=by simpa using C4
 have C4_n:(r !=120)=true:=by simpa using C4
 have C9_:(r3==47)=true:=by rw [C9];simp
 have C9_n:(r3 !=47)=false:=by rw [C9];simp
 have W10_:IntKind.i64.wrap (z5+1)=z5+1:=wr64 W10.1 W10.2
 have C16_:(r5==42)=false:=by simpa using C16
 have C16_n:(r5 !=42)=true:=by simpa using C16
 have B17a:=rawB_q B17aH
 have K17:=rr_add B17a B17b
 simp only [rawQ_q] at K17
 try dsimp only at K17
 try rw [show natA []=AV.sl 1 [] from rfl] at K17
 rw [C7] at K6
 rw [C7] at K8
 rw [C14] at K13
 rw [C14] at K15
 unfold runL fnL
 simp+decide [Tryz.f183,K1,K2,K3,C4_,C4_n,K5,K6,C7,K8,C9_,C9_n,W10_,K11,K12,K13,C14,K15,C16_,C16_n,K17]
section
variable(C16:r5=42)(W17:InI (z9+1))(K18:runL (n+3) 181 [.ptr 0 0] [.box 206 [.lit (.string a0.s),.lit (.int .i64 (z9+1)),.lit (.bool d9)] false]=some (.tup [],[(0,.box 206 [.lit (.string a0.s),.lit (.int .i64 z10),.lit (.bool d10)] false)]))(K19:runL (n+3) 182 [.ptr 0 0] [.box 206 [.lit (.string a0.s),.lit (.int .i64 z10),.lit (.bool d10)] false]=some (.lit (.int .u8 r6),[(0,.box 206 [.lit (.string a0.s),.lit (.int .i64 z11),.lit (.bool d11)] false)]))
include C16 W17 K18 K19
theorem rpa_f3(C20:¬r6=120):
  runL (n+4) 183 [.ptr 0 0,formV a1,.lit (.bool a2)] [.box 206 [.lit (.string a0.s),.lit (.int .i64 (a0.at_)),.lit (.bool a0.bad)] false]=some (formV a1,[(0,.box 206 [.lit (.string a0.s),.lit (.int .i64 z11),.lit (.bool true)] false)]):=by
 have K2:=r_ofq (z:=1) (by omega) (by omega)
 have C4_:(r==120)=false:=by simpa using C4
 have C4_n:(r !=120)=true:=by simpa using C4
 have C9_:(r3==47)=true:=by rw [C9];simp
 have C9_n:(r3 !=47)=false:=by rw [C9];simp
 have W10_:IntKind.i64.wrap (z5+1)=z5+1:=wr64 W10.1 W10.2
 have C16_:(r5==42)=true:=by rw [C16];simp
 have C16_n:(r5 !=42)=false:=by rw [C16];simp
 have W17_:IntKind.i64.wrap (z9+1)=z9+1:=wr64 W17.1 W17.2
 have C20_:(r6==120)=false:=by simpa using C20
 have C20_n:(r6 !=120)=true:=by simpa using C20
 rw [C7] at K6
 rw [C7] at K8
 rw [C14] at K13
 rw [C14] at K15
 unfold runL fnL
 simp+decide [Tryz.f183,K1,K2,K3,C4_,C4_n,K5,K6,C7,K8,C9_,C9_n,W10_,K11,K12,K13,C14,K15,C16_,C16_n,W17_,K18,K19,C20_,C20_n]
section
variable(C20:r6=120)(K21:runL (n+3) 234 [.ptr 0 0] [.box 206 [.lit (.string a0.s),.lit (.int .i64 z11),.lit (.bool d11)] false]=some (.lit (.int .i64 r9),[(0,.box 206 [.lit (.string a0.s),.lit (.int .i64 z15),.lit (.bool d15)] false)]))
include C20 K21
theorem rpa_f4(C22:d15=true):
  runL (n+4) 183 [.ptr 0 0,formV a1,.lit (.bool a2)] [.box 206 [.lit (.string a0.s),.lit (.int .i64 (a0.at_)),.lit (.bool a0.bad)] false]=some (formV a1,[(0,.box 206 [.lit (.string a0.s),.lit (.int .i64 z15),.lit (.bool d15)] false)]):=by
 have K2:=r_ofq (z:=1) (by omega) (by omega)
 have C4_:(r==120)=false:=by simpa using C4
 have C4_n:(r !=120)=true:=by simpa using C4
 have C9_:(r3==47)=true:=by rw [C9];simp
 have C9_n:(r3 !=47)=false:=by rw [C9];simp
 have W10_:IntKind.i64.wrap (z5+1)=z5+1:=wr64 W10.1 W10.2
 have C16_:(r5==42)=true:=by rw [C16];simp
 have C16_n:(r5 !=42)=false:=by rw [C16];simp
 have W17_:IntKind.i64.wrap (z9+1)=z9+1:=wr64 W17.1 W17.2
 have C20_:(r6==120)=true:=by rw [C20];simp
 have C20_n:(r6 !=120)=false:=by rw [C20];simp
 rw [C7] at K6
 rw [C7] at K8
 rw [C14] at K13
 rw [C14] at K15
 rw [C22] at K21
 unfold runL fnL
 simp+decide [Tryz.f183,K1,K2,K3,C4_,C4_n,K5,K6,C7,K8,C9_,C9_n,W10_,K11,K12,K13,C14,K15,C16_,C16_n,W17_,K18,K19,C20_,C20_n,K21,C22]
theorem rpa_f5(C22:d15=false)(K23:run (n+3) 230 [formV a1,.lit (.int .i64 r9),.agg [.lit (.bool a2),natA r2,natA r4]]=some (formV r10)):
  runL (n+4) 183 [.ptr 0 0,formV a1,.lit (.bool a2)] [.box 206 [.lit (.string a0.s),.lit (.int .i64 (a0.at_)),.lit (.bool a0.bad)] false]=some (formV r10,[(0,.box 206 [.lit (.string a0.s),.lit (.int .i64 z15),.lit (.bool d15)] false)]):=by
 have K2:=r_ofq (z:=1) (by omega) (by omega)
 have C4_:(r==120)=false:=by simpa using C4
 have C4_n:(r !=120)=true:=by simpa using C4
 have C9_:(r3==47)=true:=by rw [C9];simp
 have C9_n:(r3 !=47)=false:=by rw [C9];simp
 have W10_:IntKind.i64.wrap (z5+1)=z5+1:=wr64 W10.1 W10.2
 have C16_:(r5==42)=true:=by rw [C16];simp
 have C16_n:(r5 !=42)=false:=by rw [C16];simp
 have W17_:IntKind.i64.wrap (z9+1)=z9+1:=wr64 W17.1 W17.2
 have C20_:(r6==120)=true:=by rw [C20];simp
 have C20_n:(r6 !=120)=false:=by rw [C20];simp
 simp only [formV] at K23
 rw [C7] at K6
 rw [C7] at K8
 rw [C14] at K13
 rw [C14] at K15
 rw [C22] at K21
 unfold runL fnL
 simp+decide [Tryz.f183,K1,K2,K3,C4_,C4_n,K5,K6,C7,K8,C9_,C9_n,W10_,K11,K12,K13,C14,K15,C16_,C16_n,W17_,K18,K19,C20_,C20_n,K21,C22,K23]
end
end
end
end
section
variable(C9:¬r3=47)(C10:d5=false)(K11:runL (n+3) 182 [.ptr 0 0] [.box 206 [.lit (.string a0.s),.lit (.int .i64 z5),.lit (.bool d5)] false]=some (.lit (.int .u8 r7),[(0,.box 206 [.lit (.string a0.s),.lit (.int .i64 z12),.lit (.bool d12)] false)]))
include C9 C10 K11
theorem rpa_f7(C12:¬r7=42)(B13aH:H a1.2≤17179869184)(B13b:RawB ((⟨a2,r2,(rawQ (ofQ 1)).l2⟩:Raw))):
  runL (n+4) 183 [.ptr 0 0,formV a1,.lit (.bool a2)] [.box 206 [.lit (.string a0.s),.lit (.int .i64 (a0.at_)),.lit (.bool a0.bad)] false]=some (formV (a1.1,a1.2+(((⟨a2,r2,(rawQ (ofQ 1)).l2⟩:Raw)).q)),[(0,.box 206 [.lit (.string a0.s),.lit (.int .i64 z12),.lit (.bool d12)] false)]):=by
 have K2:=r_ofq (z:=1) (by omega) (by omega)
 have C4_:(r==120)=false:=by simpa using C4
 have C4_n:(r !=120)=true:=by simpa using C4
 have C9_:(r3==47)=false:=by simpa using C9
 have C9_n:(r3 !=47)=true:=by simpa using C9
 have C12_:(r7==42)=false:=by simpa using C12
 have C12_n:(r7 !=42)=true:=by simpa using C12
 have B13a:=rawB_q B13aH
 have K13:=rr_add B13a B13b
 simp only [rawQ_q] at K13
 try dsimp only at K13
 try rw [show natA []=AV.sl 1 [] from rfl] at K13
 rw [C7] at K6
 rw [C7] at K8
 rw [C10] at K8
 rw [C10] at K11
 unfold runL fnL
 simp+decide [Tryz.f183,K1,K2,K3,C4_,C4_n,K5,K6,C7,K8,C9_,C9_n,C10,K11,C12_,C12_n,K13]
section
variable(C12:r7=42)(W13:InI (z12+1))(K14:runL (n+3) 181 [.ptr 0 0] [.box 206 [.lit (.string a0.s),.lit (.int .i64 (z12+1)),.lit (.bool d12)] false]=some (.tup [],[(0,.box 206 [.lit (.string a0.s),.lit (.int .i64 z13),.lit (.bool d13)] false)]))(K15:runL (n+3) 182 [.ptr 0 0] [.box 206 [.lit (.string a0.s),.lit (.int .i64 z13),.lit (.bool d13)] false]=some (.lit (.int .u8 r8),[(0,.box 206 [.lit (.string a0.s),.lit (.int .i64 z14),.lit (.bool d14)] false)]))
include C12 W13 K14 K15
theorem rpa_f8(C16:¬r8=120):
  runL (n+4) 183 [.ptr 0 0,formV a1,.lit (.bool a2)] [.box 206 [.lit (.string a0.s),.lit (.int .i64 (a0.at_)),.lit (.bool a0.bad)] false]=some (formV a1,[(0,.box 206 [.lit (.string a0.s),.lit (.int .i64 z14),.lit (.bool true)] false)]):=by
 have K2:=r_ofq (z:=1) (by omega) (by omega)
 have C4_:(r==120)=false:=by simpa using C4
 have C4_n:(r !=120)=true:=by simpa using C4
 have C9_:(r3==47)=false:=by simpa using C9
 have C9_n:(r3 !=47)=true:=by simpa using C9
 have C12_:(r7==42)=true:=by rw [C12];simp
 have C12_n:(r7 !=42)=false:=by rw [C12];simp
 have W13_:IntKind.i64.wrap (z12+1)=z12+1:=wr64 W13.1 W13.2
 have C16_:(r8==120)=false:=by simpa using C16
 have C16_n:(r8 !=120)=true:=by simpa using C16
 rw [C7] at K6
 rw [C7] at K8
 rw [C10] at K8
 rw [C10] at K11
 unfold runL fnL
 simp+decide [Tryz.f183,K1,K2,K3,C4_,C4_n,K5,K6,C7,K8,C9_,C9_n,C10,K11,C12_,C12_n,W13_,K14,K15,C16_,C16_n]
section
variable(C16:r8=120)(K17:runL (n+3) 234 [.ptr 0 0] [.box 206 [.lit (.string a0.s),.lit (.int .i64 z14),.lit (.bool d14)] false]=some (.lit (.int .i64 r11),[(0,.box 206 [.lit (.string a0.s),.lit (.int .i64 z16),.lit (.bool d16)] false)]))
include C16 K17
theorem rpa_f9(C18:d16=true):
  runL (n+4) 183 [.ptr 0 0,formV a1,.lit (.bool a2)] [.box 206 [.lit (.string a0.s),.lit (.int .i64 (a0.at_)),.lit (.bool a0.bad)] false]=some (formV a1,[(0,.box 206 [.lit (.string a0.s),.lit (.int .i64 z16),.lit (.bool d16)] false)]):=by
 have K2:=r_ofq (z:=1) (by omega) (by omega)
 have C4_:(r==120)=false:=by simpa using C4
 have C4_n:(r !=120)=true:=by simpa using C4
 have C9_:(r3==47)=false:=by simpa using C9
 have C9_n:(r3 !=47)=true:=by simpa using C9
 have C12_:(r7==42)=true:=by rw [C12];simp
 have C12_n:(r7 !=42)=false:=by rw [C12];simp
 have W13_:IntKind.i64.wrap (z12+1)=z12+1:=wr64 W13.1 W13.2
 have C16_:(r8==120)=true:=by rw [C16];simp
 have C16_n:(r8 !=120)=false:=by rw [C16];simp
 rw [C7] at K6
 rw [C7] at K8
 rw [C10] at K8
 rw [C10] at K11
 rw [C18] at K17
 unfold runL fnL
 simp+decide [Tryz.f183,K1,K2,K3,C4_,C4_n,K5,K6,C7,K8,C9_,C9_n,C10,K11,C12_,C12_n,W13_,K14,K15,C16_,C16_n,K17,C18]
theorem rpa_f10(C18:d16=false)(K19:run (n+3) 230 [formV a1,.lit (.int .i64 r11),.agg [.lit (.bool a2),natA r2,natA (rawQ (ofQ 1)).l2]]=some (formV r12)):
  runL (n+4) 183 [.ptr 0 0,formV a1,.lit (.bool a2)] [.box 206 [.lit (.string a0.s),.lit (.int .i64 (a0.at_)),.lit (.bool a0.bad)] false]=some (formV r12,[(0,.box 206 [.lit (.string a0.s),.lit (.int .i64 z16),.lit (.bool d16)] false)]):=by
 have K2:=r_ofq (z:=1) (by omega) (by omega)
 have C4_:(r==120)=false:=by simpa using C4
 have C4_n:(r !=120)=true:=by simpa using C4
 have C9_:(r3==47)=false:=by simpa using C9
 have C9_n:(r3 !=47)=true:=by simpa using C9
 have C12_:(r7==42)=true:=by rw [C12];simp
 have C12_n:(r7 !=42)=false:=by rw [C12];simp
 have W13_:IntKind.i64.wrap (z12+1)=z12+1:=wr64 W13.1 W13.2
 have C16_:(r8==120)=true:=by rw [C16];simp
 have C16_n:(r8 !=120)=false:=by rw [C16];simp
 simp only [formV] at K19
 rw [C7] at K6
 rw [C7] at K8
 rw [C10] at K8
 rw [C10] at K11
 rw [C18] at K17
 unfold runL fnL
 simp+decide [Tryz.f183,K1,K2,K3,C4_,C4_n,K5,K6,C7,K8,C9_,C9_n,C10,K11,C12_,C12_n,W13_,K14,K15,C16_,C16_n,K17,C18,K19]
end
end
end
end
theorem rpa_f11(C7:d4=true):
  runL (n+4) 183 [.ptr 0 0,formV a1,.lit (.bool a2)] [.box 206 [.lit (.string a0.s),.lit (.int .i64 (a0.at_)),.lit (.bool a0.bad)] false]=some (formV a1,[(0,.box 206 [.lit (.string a0.s),.lit (.int .i64 z4),.lit (.bool d4)] false)]):=by
 have K2:=r_ofq (z:=1) (by omega) (by omega)
 have C4_:(r==120)=false:=by simpa using C4
 have C4_n:(r !=120)=true:=by simpa using C4
 rw [C7] at K6
 unfold runL fnL
 simp+decide [Tryz.f183,K1,K2,K3,C4_,C4_n,K5,K6,C7]
end
section
variable(C4:r=120)(K5:runL (n+3) 234 [.ptr 0 0] [.box 206 [.lit (.string a0.s),.lit (.int .i64 z2),.lit (.bool d2)] false]=some (.lit (.int .i64 r13),[(0,.box 206 [.lit (.string a0.s),.lit (.int .i64 z17),.lit (.bool d17)] false)]))
include C4 K5
theorem rpa_f12(C6:d17=true):
  runL (n+4) 183 [.ptr 0 0,formV a1,.lit (.bool a2)] [.box 206 [.lit (.string a0.s),.lit (.int .i64 (a0.at_)),.lit (.bool a0.bad)] false]=some (formV a1,[(0,.box 206 [.lit (.string a0.s),.lit (.int .i64 z17),.lit (.bool d17)] false)]):=by
 have K2:=r_ofq (z:=1) (by omega) (by omega)
 have C4_:(r==120)=true:=by rw [C4];simp
 have C4_n:(r !=120)=false:=by rw [C4];simp
 rw [C6] at K5
 unfold runL fnL
 simp+decide [Tryz.f183,K1,K2,K3,C4_,C4_n,K5,C6]
theorem rpa_f13(C6:d17=false)(K7:run (n+3) 230 [formV a1,.lit (.int .i64 r13),.agg [.lit (.bool a2),natA (rawQ (ofQ 1)).l1,natA (rawQ (ofQ 1)).l2]]=some (formV r14)):
  runL (n+4) 183 [.ptr 0 0,formV a1,.lit (.bool a2)] [.box 206 [.lit (.string a0.s),.lit (.int .i64 (a0.at_)),.lit (.bool a0.bad)] false]=some (formV r14,[(0,.box 206 [.lit (.string a0.s),.lit (.int .i64 z17),.lit (.bool d17)] false)]):=by
 have K2:=r_ofq (z:=1) (by omega) (by omega)
 have C4_:(r==120)=true:=by rw [C4];simp
 have C4_n:(r !=120)=false:=by rw [C4];simp
 simp only [formV] at K7
 rw [C6] at K5
 unfold runL fnL
 simp+decide [Tryz.f183,K1,K2,K3,C4_,C4_n,K5,C6,K7]
end
end
end
end
section
open Go.RowKit
attribute [local irreducible] run runL loopG exec
theorem skL_idem:∀l:List UInt8,skL (skL l)=skL l
 | []=>rfl
 | c::l=>by
   by_cases h:c=32
   ·rw [h,skL_b];exact skL_idem l
   ·rw [skL_ne h,skL_ne h]
theorem skL_D{l:List UInt8}(h:isIn D10 l=true):skL l=l:=by
 obtain ⟨c,r,rfl,hd⟩:=(isIn_D l).1 h
 exact skL_ne (isD_ne hd (by decide))
theorem hd_is{l:List UInt8}{c:UInt8}(hc:0<c.toNat):hd l=(c.toNat:Int)↔∃r,l=c::r:=by
 cases l with
 | nil=>exact ⟨fun h=>(by have:hd []=0:=rfl;omega),fun ⟨r,h⟩=>(by cases h)⟩
 | cons d r=>
   have e:hd (d::r)=(d.toNat:Int):=rfl
   rw [e]
   exact ⟨fun h=>⟨r,by rw [u8n.2 (by omega:d.toNat=c.toNat)]⟩,fun ⟨r',h⟩=>by cases h;rfl⟩
section
variable {n k : Nat} {L l : List UInt8} {f : Form} {neg : Bool}
theorem rB_sc{c:UInt8}{bad:Bool}(h:c::l <:+L):rB L l bad=.box 206 [.lit (.string (bs L)),.lit (.int .i64 (po L (c::l)+1)),.lit (.bool bad)] false:=by
 rw [(po_lt h).2];rfl
theorem rvr_n(hL:L.length≤1000)(h:120::l <:+L)(hn:nmP true 9 l=none):runL (n+3) 234 [.ptr 0 0] [rB L (120::l) false]=some (.lit (.int .i64 0),[(0,rB L l true)]):=by
 have K:=rdg_n (n:=n) (most:=9) hL (suf_tl h) hn
 rw [rB_sc h] at K
 exact rvr_f1 (n:=n) (a0:=⟨bs L,po L (120::l),false⟩) (r:=[]) (po_in hL h) K (k_uint (k:=0) (by omega)) ⟨by omega,by omega⟩
theorem rvr_s(hL:L.length≤1000)(h:120::l <:+L){d r:List UInt8}(hn:nmP true 9 l=some (d,r)):runL (n+3) 234 [.ptr 0 0] [rB L (120::l) false]=some (.lit (.int .i64 (dgV d 0:Nat)),[(0,rB L r (isIn D10 r))]):=by
 have K:=rdg_s (n:=n) (most:=9) hL (suf_tl h) (by omega) (by omega) hn
 rw [rB_sc h] at K
 obtain ⟨e1,e2,e3,e4⟩:=nmP_ok hn (by omega)
 have hlt:dgV d 0<10 ^ 9:=Nat.lt_of_lt_of_le (dgV_lt d 0 0 e2 (by decide)) (Nat.pow_le_pow_right (by omega) (by omega))
 exact rvr_f1 (n:=n) (a0:=⟨bs L,po L (120::l),false⟩) (po_in hL h) K (k_uint (k:=dgV d 0) (by omega)) ⟨by omega,by omega⟩
def RpE(n:Nat)(L:List UInt8)(f:Form)(neg:Bool)(l r:List UInt8):Prop:=runL (n+4) 183 [.ptr 0 0,formV f,.lit (.bool neg)] [rB L l false]=some (formV f,[(0,rB L r true)])
def RpR(n:Nat)(L:List UInt8)(f:Form)(neg:Bool)(l:List UInt8):Except (List UInt8) (Form × List UInt8)→Prop
 | .error r=>RpE n L f neg l r
 | .ok p=>(isIn D10 p.2=true∧RpE n L f neg l p.2)∨runL (n+4) 183 [.ptr 0 0,formV f,.lit (.bool neg)] [rB L l false]=some (formV p.1,[(0,rB L p.2 false)])
theorem one_l1:(rawQ (ofQ 1)).l1=lmb 1:=by decide+kernel
theorem one_l2:(rawQ (ofQ 1)).l2=[]:=by decide+kernel
theorem plus_r{m:Nat}{v:Int}{c:Raw}{q:Rat}(hf:RdF k f)(hk:k≤1000)(hR:RawB c)(hc:c.q=q)(hq:H q≤100):run (m+1) 230 [formV f,.lit (.int .i64 v),.agg [.lit (.bool c.s),natA c.l1,natA c.l2]]=some (formV (plusV false f.1 v q,f.2)):=by
 have:=plusR_c (n:=m) (v:=v) (hf.t.mono (by omega)) (by have:=hf.l;omega) hR (by rw [hc];omega)
 rw [hc] at this
 exact this
theorem va_r{q:Rat}(h:120::l <:+L)(hL:L.length≤1000){l0:List UInt8}(h0:∀r v,runL (n+3) 234 [.ptr 0 0] [rB L (120::l) false]=some (.lit (.int .i64 v),[(0,rB L r true)])→RpE n L f neg l0 r)(h1:∀r v,runL (n+3) 234 [.ptr 0 0] [rB L (120::l) false]=some (.lit (.int .i64 v),[(0,rB L r false)])→runL (n+4) 183 [.ptr 0 0,formV f,.lit (.bool neg)] [rB L l0 false]=some (formV (plusV false f.1 v q,f.2),[(0,rB L r false)])):
  RpR n L f neg l0 (vaL f q l):=by
 unfold vaL
 rw [nm_P]
 cases e:nmP true 9 l with
 | none=>exact h0 l 0 (rvr_n hL h e)
 | some p=>
   obtain ⟨d,r⟩:=p
   have K:=rvr_s (n:=n) hL h e
   cases c:isIn D10 r with
   | true=>rw [c] at K;exact .inl ⟨c,h0 r _ K⟩
   | false=>rw [c] at K;exact .inr (h1 r _ K)
theorem rpart_c(hL:L.length≤1000)(h:l <:+L)(hf:RdF k f)(hk:k≤1000):RpR n L f neg l (paL f neg (skL l)):=by
 have hc2:=hf.c
 have K1:=rbk_c (n:=n+2) (bad:=false) hL h
 have h1:=(skL_suf l).trans h
 have K3:=rpk_c (n:=n+3) (bad:=false) hL h1
 have n120:0<(120:UInt8).toNat:=by decide
 by_cases c4:hd (skL l)=120
 ·obtain ⟨r,er⟩:=(hd_is n120).1 c4
  rw [er] at K1 K3 h1 c4 ⊢
  rw [paL,if_pos rfl]
  have hq:qv neg 1 1=(rdR neg 1 none).q:=(rdR_q neg 1 none (fun _ h=>(by cases h))).symm
  have hH:H (qv neg 1 1)≤100:=qv_H (by decide+kernel) (by decide+kernel) (by omega)
  have hR:RawB (rdR neg 1 none):=rdR_b (by decide+kernel) (fun _ h=>(by cases h))
  refine va_r h1 hL (fun r v K5=>rpa_f12 (n:=n) (a0:=⟨bs L,po L l,false⟩) K1 K3 c4 K5 rfl) (fun r v K5=>?_)
  have P:=plus_r (m:=n+2) (v:=v) hf hk hR hq.symm hH
  refine rpa_f13 (n:=n) (a0:=⟨bs L,po L l,false⟩) K1 K3 c4 K5 rfl ?_
  rw [one_l1,one_l2]
  exact P
 ·have hx:isIn [120] (skL l)=false:=by
   cases e:isIn [120] (skL l) with
   | false=>rfl
   | true=>obtain ⟨r,er⟩:=isIn_t e;exact absurd (by rw [er];rfl) c4
  have hp:paL f neg (skL l)=nuL f neg (skL l):=by
   cases e:skL l with
   | nil=>rfl
   | cons c r=>rw [e] at hx;rw [paL,if_neg (isIn_f hx)]
  rw [hp]
  unfold nuL
  rw [nm_P]
  cases e:nmP true 200 (skL l) with
  | none=>
    have K5:=rdg_n (n:=n+1) (most:=200) hL h1 e
    have K6:=rbk_c (n:=n+2) (bad:=true) hL h1
    rw [skL_idem] at K6
    exact rpa_f11 (n:=n) (a0:=⟨bs L,po L l,false⟩) (r2:=[]) K1 K3 c4 K5 K6 rfl
  | some p=>
    obtain ⟨d,r⟩:=p
    show RpR n L f neg l (deL f neg (dgV d 0) (skL r))
    obtain ⟨e1,e2,e3,e4⟩:=nmP_ok e (by omega)
    have hr:r <:+L:=List.IsSuffix.trans ⟨d,e1.symm⟩ h1
    have ha:=nmP_small e (by omega) (by omega)
    have K5:=rdg_s (n:=n+1) (most:=200) hL h1 (by omega) (by omega) e
    have hq:qv neg (dgV d 0) 1=(rdR neg (dgV d 0) none).q:=(rdR_q neg (dgV d 0) none (fun _ h=>(by cases h))).symm
    have hH:H (qv neg (dgV d 0) 1)≤100:=qv_H ha (by decide+kernel) (by omega)
    have hR:RawB (rdR neg (dgV d 0) none):=rdR_b ha (fun _ h=>(by cases h))
    cases b1:isIn D10 r with
    | true=>
      rw [b1] at K5
      have K6:=rbk_c (n:=n+2) (bad:=true) hL hr
      rw [skL_D b1] at K6 ⊢
      obtain ⟨c,r',rfl,hd2⟩:=(isIn_D r).1 b1
      rw [deL,if_neg (isD_ne hd2 (by decide)),afL,if_neg (isD_ne hd2 (by decide))]
      exact .inl ⟨b1,rpa_f11 (n:=n) (a0:=⟨bs L,po L l,false⟩) K1 K3 c4 K5 K6 rfl⟩
    | false=>
      rw [b1] at K5
      have K6:=rbk_c (n:=n+2) (bad:=false) hL hr
      have hs:=(skL_suf r).trans hr
      have K8:=rpk_c (n:=n+3) (bad:=false) hL hs
      by_cases c9:hd (skL r)=47
      ·obtain ⟨r1,er⟩:=(hd_is (c:=47) (by decide)).1 c9
       rw [er] at K6 K8 hs c9 ⊢
       have W:=po_in hL hs
       have hs1:=suf_tl hs
       have K11:=rbk_c (n:=n+2) (bad:=false) hL hs1
       rw [rB_sc hs] at K11
       have hs2:=(skL_suf r1).trans hs1
       rw [deL,if_pos rfl,nm_P]
       cases e6:nmP false 200 (skL r1) with
       | none=>
         have K12:=rdg_n (n:=n+1) (most:=200) hL hs2 e6
         have K13:=rbk_c (n:=n+2) (bad:=true) hL hs2
         rw [skL_idem] at K13
         exact rpa_f1 (n:=n) (a0:=⟨bs L,po L l,false⟩) (r4:=[]) K1 K3 c4 K5 K6 rfl K8 c9 W K11 K12 K13 rfl
       | some p2=>
         obtain ⟨d2,r3⟩:=p2
         show RpR n L f neg l (afL f (qv neg (dgV d 0) (dgV d2 0)) (skL r3))
         obtain ⟨f1,f2,f3,f4⟩:=nmP_ok e6 (by omega)
         have hs3:r3 <:+L:=List.IsSuffix.trans ⟨d2,f1.symm⟩ hs2
         have K12:=rdg_s (n:=n+1) (most:=200) hL hs2 (by omega) (by omega) e6
         have hb:=nmP_small e6 (by omega) (by omega)
         have hb0:=nmP_pos e6 (by omega)
         have hq2:qv neg (dgV d 0) (dgV d2 0)=(rdR neg (dgV d 0) (some (dgV d2 0))).q:=(rdR_q neg (dgV d 0) (some (dgV d2 0)) (fun _ h=>(by cases h;exact hb0))).symm
         have hH2:H (qv neg (dgV d 0) (dgV d2 0))≤100:=qv_H ha hb hb0
         have hR2:RawB (rdR neg (dgV d 0) (some (dgV d2 0))):=rdR_b ha (fun _ h=>(by cases h;exact hb))
         cases b2:isIn D10 r3 with
         | true=>
           rw [b2] at K12
           have K13:=rbk_c (n:=n+2) (bad:=true) hL hs3
           rw [skL_D b2] at K13 ⊢
           obtain ⟨c,r',rfl,hd2⟩:=(isIn_D r3).1 b2
           rw [afL,if_neg (isD_ne hd2 (by decide))]
           exact .inl ⟨b2,rpa_f1 (n:=n) (a0:=⟨bs L,po L l,false⟩) K1 K3 c4 K5 K6 rfl K8 c9 W K11 K12 K13 rfl⟩
         | false=>
           rw [b2] at K12
           have K13:=rbk_c (n:=n+2) (bad:=false) hL hs3
           have hs4:=(skL_suf r3).trans hs3
           have K15:=rpk_c (n:=n+3) (bad:=false) hL hs4
           by_cases c16:hd (skL r3)=42
           ·obtain ⟨r4,er4⟩:=(hd_is (c:=42) (by decide)).1 c16
            rw [er4] at K13 K15 hs4 c16 ⊢
            rw [afL,if_pos rfl]
            have W2:=po_in hL hs4
            have hs5:=suf_tl hs4
            have K18:=rbk_c (n:=n+2) (bad:=false) hL hs5
            rw [rB_sc hs4] at K18
            have hs6:=(skL_suf r4).trans hs5
            have K19:=rpk_c (n:=n+3) (bad:=false) hL hs6
            by_cases c20:hd (skL r4)=120
            ·obtain ⟨r5,er5⟩:=(hd_is n120).1 c20
             rw [er5] at K18 K19 hs6 c20 ⊢
             dsimp only
             rw [if_pos rfl]
             exact va_r hs6 hL (fun r v K21=>rpa_f4 (n:=n) (a0:=⟨bs L,po L l,false⟩) K1 K3 c4 K5 K6 rfl K8 c9 W K11 K12 K13 rfl K15 c16 W2 K18 K19 c20 K21 rfl)
              (fun r v K21=>rpa_f5 (n:=n) (a0:=⟨bs L,po L l,false⟩) K1 K3 c4 K5 K6 rfl K8 c9 W K11 K12 K13 rfl K15 c16 W2 K18 K19 c20 K21 rfl (plus_r (m:=n+2) (v:=v) hf hk hR2 hq2.symm hH2))
            ·have T:RpE n L f neg l (skL r4):=rpa_f3 (n:=n) (a0:=⟨bs L,po L l,false⟩) K1 K3 c4 K5 K6 rfl K8 c9 W K11 K12 K13 rfl K15 c16 W2 K18 K19 c20
             cases e7:skL r4 with
             | nil=>rw [e7] at T;exact T
             | cons x y=>
               rw [e7] at T c20
               dsimp only
               rw [if_neg (fun e=>c20 (by rw [e];rfl))]
               exact T
           ·have e5:afL f (qv neg (dgV d 0) (dgV d2 0)) (skL r3)=.ok ((f.1,f.2+qv neg (dgV d 0) (dgV d2 0)),skL r3):=by
             cases e:skL r3 with
             | nil=>rfl
             | cons x y=>rw [e] at c16;rw [afL,if_neg (fun e=>c16 (by rw [e];rfl))]
            rw [e5,hq2]
            exact .inr (rpa_f2 (n:=n) (a0:=⟨bs L,po L l,false⟩) K1 K3 c4 K5 K6 rfl K8 c9 W K11 K12 K13 rfl K15 c16 (by omega) hR2)
      ·have e0:deL f neg (dgV d 0) (skL r)=afL f (qv neg (dgV d 0) 1) (skL r):=by
        cases e:skL r with
        | nil=>rfl
        | cons x y=>rw [e] at c9;rw [deL,if_neg (fun e=>c9 (by rw [e];rfl))]
       rw [e0]
       by_cases c12:hd (skL r)=42
       ·obtain ⟨r4,er4⟩:=(hd_is (c:=42) (by decide)).1 c12
        rw [er4] at K6 K8 hs c9 c12 ⊢
        rw [afL,if_pos rfl]
        have W2:=po_in hL hs
        have hs5:=suf_tl hs
        have K14:=rbk_c (n:=n+2) (bad:=false) hL hs5
        rw [rB_sc hs] at K14
        have hs6:=(skL_suf r4).trans hs5
        have K15:=rpk_c (n:=n+3) (bad:=false) hL hs6
        by_cases c16:hd (skL r4)=120
        ·obtain ⟨r5,er5⟩:=(hd_is n120).1 c16
         rw [er5] at K14 K15 hs6 c16 ⊢
         dsimp only
         rw [if_pos rfl]
         refine va_r hs6 hL (fun r v K17=>rpa_f9 (n:=n) (a0:=⟨bs L,po L l,false⟩) K1 K3 c4 K5 K6 rfl K8 c9 rfl K8 c12 W2 K14 K15 c16 K17 rfl) (fun r v K17=>?_)
         have P:=plus_r (m:=n+2) (v:=v) hf hk hR hq.symm hH
         refine rpa_f10 (n:=n) (a0:=⟨bs L,po L l,false⟩) K1 K3 c4 K5 K6 rfl K8 c9 rfl K8 c12 W2 K14 K15 c16 K17 rfl ?_
         rw [one_l2]
         exact P
        ·have T:RpE n L f neg l (skL r4):=rpa_f8 (n:=n) (a0:=⟨bs L,po L l,false⟩) K1 K3 c4 K5 K6 rfl K8 c9 rfl K8 c12 W2 K14 K15 c16
         cases e7:skL r4 with
         | nil=>rw [e7] at T;exact T
         | cons x y=>
           rw [e7] at T c16
           dsimp only
           rw [if_neg (fun e=>c16 (by rw [e];rfl))]
           exact T
       ·have e5:afL f (qv neg (dgV d 0) 1) (skL r)=.ok ((f.1,f.2+qv neg (dgV d 0) 1),skL r):=by
         cases e:skL r with
         | nil=>rfl
         | cons x y=>rw [e] at c12;rw [afL,if_neg (fun e=>c12 (by rw [e];rfl))]
        rw [e5,hq]
        have hR':RawB (⟨neg,lmb (dgV d 0),(rawQ (ofQ 1)).l2⟩:Raw):=by rw [one_l2];exact hR
        have T:=rpa_f7 (n:=n) (a1:=f) (a2:=neg) (a0:=⟨bs L,po L l,false⟩) K1 K3 c4 K5 K6 rfl K8 c9 rfl K8 c12 (by omega) hR'
        rw [one_l2] at T
        exact .inr T
end
end
section
open Go.RowKit
noncomputable def rps_C4:Code:=(loopsOf (bodyOf Tryz.f128)).getD 0 .skip
def rps_h4(a0:ByteArray)(d_4:Bool)(i_4:Int)(d2_4:Bool)(l_4:List (Int × Rat))(s_4:Rat):St:=
 ⟨[(0,.lit (.string a0)),(2,.ptr 0 0),(5,.ptr 1 0),(6,.ptr 2 0),(7,.lit (.bool d_4))],
  [(0,some (.box 79 [.nl 4,.lit (.bool false),.nl 1,.nl 1] false)),
   (1,some (.box 206 [.lit (.string a0),.lit (.int .i64 i_4),.lit (.bool d2_4)] false)),
   (2,some (.box 79 [.sl 4 (l_4.map termC),.lit (.bool (rawQ s_4).s),natA (rawQ s_4).l1,natA (rawQ s_4).l2] false))],3⟩
def rps_o4a(a0:ByteArray)(l_4:List (Int × Rat))(s_4:Rat)(z14:Int)(d30:Bool):St:=
 ⟨[(2,.ptr 0 0),(3,.lit (.int .i64 0)),(4,.lit (.int .i64 0)),(5,.ptr 1 0)],
  [(0,some (.box 79 [.sl 4 (l_4.map termC),.lit (.bool (rawQ s_4).s),natA (rawQ s_4).l1,natA (rawQ s_4).l2] false)),
   (1,some (.box 206 [.lit (.string a0),.lit (.int .i64 z14),.lit (.bool d30)] false))],2⟩
def rps_o4b(a0:ByteArray)(z14:Int)(d30:Bool):St:=
 ⟨[(2,.ptr 0 0),(3,.any),(4,.any),(5,.ptr 1 0)],
  [(0,some (.box 79 [.nl 4,.lit (.bool false),.nl 1,.nl 1] false)),
   (1,some (.box 206 [.lit (.string a0),.lit (.int .i64 z14),.lit (.bool d30)] false))],2⟩
def rps_o4c(a0:ByteArray)(i_4:Int)(d2_4:Bool):St:=
 ⟨[(2,.ptr 0 0),(3,.any),(4,.any),(5,.ptr 1 0)],
  [(0,some (.box 79 [.nl 4,.lit (.bool false),.nl 1,.nl 1] false)),
   (1,some (.box 206 [.lit (.string a0),.lit (.int .i64 i_4),.lit (.bool d2_4)] false))],2⟩
section
variable{d30:Bool}{z13:Int}{d29:Bool}{r12:Form}{l_4:List (Int × Rat)}{r11:Int}{z14:Int}{n:Nat}{d_4:Bool}{z15:Int}{s_4:Rat}{d2_4:Bool}{a0:ByteArray}{i_4:Int}{d31:Bool}{d32:Bool}{z16:Int}{r13:Form}{z17:Int}{d33:Bool}{r14:Form}{r15:Form}{z18:Int}{d34:Bool}{z19:Int}{d35:Bool}{r16:Form}
section
variable(C1:d2_4=false)(K2:runL (n+4) 181 [.ptr 0 0] [.box 206 [.lit (.string a0),.lit (.int .i64 i_4),.lit (.bool d2_4)] false]=some (.tup [],[(0,.box 206 [.lit (.string a0),.lit (.int .i64 z13),.lit (.bool d29)] false)]))(K3:runL (n+4) 182 [.ptr 0 0] [.box 206 [.lit (.string a0),.lit (.int .i64 z13),.lit (.bool d29)] false]=some (.lit (.int .u8 r11),[(0,.box 206 [.lit (.string a0),.lit (.int .i64 z14),.lit (.bool d30)] false)]))
include C1 K2 K3
theorem rps_r4_1(C4:d_4=false)(C5:¬z14=(a0.size:Int))(C6:¬r11=43)(C7:r11=45)(W8:InI (z14+1))(K9:runL (n+4) 183 [.ptr 0 0,formV (l_4,s_4),.lit (.bool (r11==45))] [.box 206 [.lit (.string a0),.lit (.int .i64 (z14+1)),.lit (.bool d30)] false]=some (formV r12,[(0,.box 206 [.lit (.string a0),.lit (.int .i64 z15),.lit (.bool d31)] false)])):
  Cont 0 (exec Tryz.prog (tab (n+5)) 0 67 (livesOf 128) big rps_C4) (livesOf 128 4) (rps_h4 a0 d_4 i_4 d2_4 l_4 s_4) (rps_h4 a0 false z15 d31 r12.1 r12.2):=by
 have C5_:(z14==(a0.size:Int))=false:=by simpa using C5
 have C5_n:(z14 !=(a0.size:Int))=true:=by simpa using C5
 have C6_:(r11==43)=false:=by simpa using C6
 have C6_n:(r11 !=43)=true:=by simpa using C6
 have C7_:(r11==45)=true:=by rw [C7];simp
 have C7_n:(r11 !=45)=false:=by rw [C7];simp
 have W8_:IntKind.i64.wrap (z14+1)=z14+1:=wr64 W8.1 W8.2
 simp only [formV,natA] at K9
 rw [C1] at K2
 rw [C7_] at K9
 unfold Cont
 simp+decide [natA,rps_h4,loopsOf, Tryz.f128,rps_C4,C1,K2,K3,C4,C5_,C5_n,C6_,C6_n,C7_,C7_n,W8_,K9]
theorem rps_r4_2(C4:d_4=false)(C5:¬z14=(a0.size:Int))(C6:r11=43)(W7:InI (z14+1))(K8:runL (n+4) 183 [.ptr 0 0,formV (l_4,s_4),.lit (.bool (r11==45))] [.box 206 [.lit (.string a0),.lit (.int .i64 (z14+1)),.lit (.bool d30)] false]=some (formV r13,[(0,.box 206 [.lit (.string a0),.lit (.int .i64 z16),.lit (.bool d32)] false)])):
  Cont 0 (exec Tryz.prog (tab (n+5)) 0 67 (livesOf 128) big rps_C4) (livesOf 128 4) (rps_h4 a0 d_4 i_4 d2_4 l_4 s_4) (rps_h4 a0 false z16 d32 r13.1 r13.2):=by
 have C5_:(z14==(a0.size:Int))=false:=by simpa using C5
 have C5_n:(z14 !=(a0.size:Int))=true:=by simpa using C5
 have C6_:(r11==43)=true:=by rw [C6];simp
 have C6_n:(r11 !=43)=false:=by rw [C6];simp
 have W7_:IntKind.i64.wrap (z14+1)=z14+1:=wr64 W7.1 W7.2
 simp only [formV,natA] at K8
 rw [C1] at K2
 unfold Cont
 simp+decide [natA,rps_h4,loopsOf, Tryz.f128,rps_C4,C1,K2,K3,C4,C5_,C5_n,C6_,C6_n,W7_,K8]
theorem rps_r4_3(C4:d_4=true)(C5:¬r11=43)(C6:¬r11=45)(K7:runL (n+4) 183 [.ptr 0 0,formV (l_4,s_4),.lit (.bool (r11==45))] [.box 206 [.lit (.string a0),.lit (.int .i64 z14),.lit (.bool d30)] false]=some (formV r14,[(0,.box 206 [.lit (.string a0),.lit (.int .i64 z17),.lit (.bool d33)] false)])):
  Cont 0 (exec Tryz.prog (tab (n+5)) 0 67 (livesOf 128) big rps_C4) (livesOf 128 4) (rps_h4 a0 d_4 i_4 d2_4 l_4 s_4) (rps_h4 a0 false z17 d33 r14.1 r14.2):=by
 have C5_:(r11==43)=false:=by simpa using C5
 have C5_n:(r11 !=43)=true:=by simpa using C5
 have C6_:(r11==45)=false:=by simpa using C6
 have C6_n:(r11 !=45)=true:=by simpa using C6
 simp only [formV,natA] at K7
 rw [C1] at K2
 rw [C6_] at K7
 unfold Cont
 simp+decide [natA,rps_h4,loopsOf, Tryz.f128,rps_C4,C1,K2,K3,C4,C5_,C5_n,C6_,C6_n,K7]
theorem rps_r4_4(C4:d_4=true)(C5:¬r11=43)(C6:r11=45)(W7:InI (z14+1))(K8:runL (n+4) 183 [.ptr 0 0,formV (l_4,s_4),.lit (.bool (r11==45))] [.box 206 [.lit (.string a0),.lit (.int .i64 (z14+1)),.lit (.bool d30)] false]=some (formV r15,[(0,.box 206 [.lit (.string a0),.lit (.int .i64 z18),.lit (.bool d34)] false)])):
  Cont 0 (exec Tryz.prog (tab (n+5)) 0 67 (livesOf 128) big rps_C4) (livesOf 128 4) (rps_h4 a0 d_4 i_4 d2_4 l_4 s_4) (rps_h4 a0 false z18 d34 r15.1 r15.2):=by
 have C5_:(r11==43)=false:=by simpa using C5
 have C5_n:(r11 !=43)=true:=by simpa using C5
 have C6_:(r11==45)=true:=by rw [C6];simp
 have C6_n:(r11 !=45)=false:=by rw [C6];simp
 have W7_:IntKind.i64.wrap (z14+1)=z14+1:=wr64 W7.1 W7.2
 simp only [formV,natA] at K8
 rw [C1] at K2
 rw [C6_] at K8
 unfold Cont
 simp+decide [natA,rps_h4,loopsOf, Tryz.f128,rps_C4,C1,K2,K3,C4,C5_,C5_n,C6_,C6_n,W7_,K8]
theorem rps_r4_5(C4:d_4=true)(C5:r11=43)(W6:InI (z14+1))(K7:runL (n+4) 183 [.ptr 0 0,formV (l_4,s_4),.lit (.bool (r11==45))] [.box 206 [.lit (.string a0),.lit (.int .i64 (z14+1)),.lit (.bool d30)] false]=some (formV r16,[(0,.box 206 [.lit (.string a0),.lit (.int .i64 z19),.lit (.bool d35)] false)])):
  Cont 0 (exec Tryz.prog (tab (n+5)) 0 67 (livesOf 128) big rps_C4) (livesOf 128 4) (rps_h4 a0 d_4 i_4 d2_4 l_4 s_4) (rps_h4 a0 false z19 d35 r16.1 r16.2):=by
 have C5_:(r11==43)=true:=by rw [C5];simp
 have C5_n:(r11 !=43)=false:=by rw [C5];simp
 have W6_:IntKind.i64.wrap (z14+1)=z14+1:=wr64 W6.1 W6.2
 simp only [formV,natA] at K7
 rw [C1] at K2
 unfold Cont
 simp+decide [natA,rps_h4,loopsOf, Tryz.f128,rps_C4,C1,K2,K3,C4,C5_,C5_n,W6_,K7]
theorem rps_x4_1(C4:d_4=false)(C5:z14=(a0.size:Int)):
  Leave 0 (exec Tryz.prog (tab (n+5)) 0 67 (livesOf 128) big rps_C4) (livesOf 128 (outOf 4)) (rps_h4 a0 d_4 i_4 d2_4 l_4 s_4) (.ret) (rps_o4a a0 l_4 s_4 z14 d30):=by
 have C5_:(z14==(a0.size:Int))=true:=by rw [C5];simp
 have C5_n:(z14 !=(a0.size:Int))=false:=by rw [C5];simp
 rw [C1] at K2
 unfold Leave
 simp+decide [rps_h4,loopsOf, Tryz.f128,rps_o4a,rps_C4,C1,K2,K3,C4,C5_,C5_n]
theorem rps_x4_2(C4:d_4=false)(C5:¬z14=(a0.size:Int))(C6:¬r11=43)(C7:¬r11=45):
  Leave 0 (exec Tryz.prog (tab (n+5)) 0 67 (livesOf 128) big rps_C4) (livesOf 128 (outOf 4)) (rps_h4 a0 d_4 i_4 d2_4 l_4 s_4) (.exit 0) (rps_o4b a0 z14 d30):=by
 have C5_:(z14==(a0.size:Int))=false:=by simpa using C5
 have C5_n:(z14 !=(a0.size:Int))=true:=by simpa using C5
 have C6_:(r11==43)=false:=by simpa using C6
 have C6_n:(r11 !=43)=true:=by simpa using C6
 have C7_:(r11==45)=false:=by simpa using C7
 have C7_n:(r11 !=45)=true:=by simpa using C7
 rw [C1] at K2
 unfold Leave
 simp+decide [rps_h4,loopsOf, Tryz.f128,rps_o4b,rps_C4,C1,K2,K3,C4,C5_,C5_n,C6_,C6_n,C7_,C7_n]
end
theorem rps_x4_3(C1:d2_4=true):
  Leave 0 (exec Tryz.prog (tab (n+5)) 0 67 (livesOf 128) big rps_C4) (livesOf 128 (outOf 4)) (rps_h4 a0 d_4 i_4 d2_4 l_4 s_4) (.exit 0) (rps_o4c a0 i_4 d2_4):=by
 unfold Leave
 simp+decide [rps_h4,loopsOf, Tryz.f128,rps_o4c,rps_C4,C1]
theorem rps_f1(L1:loopG Tryz.prog (tab (n+5)) 0 67 (livesOf 128) 4 rps_C4 (rps_h4 a0 true 0 false [] 0)=some (.ret,rps_o4a a0 l_4 s_4 z14 d30)):
  run (n+5) 128 [.lit (.string a0)]=some (.tup [formV (l_4,s_4),.lit (.int .i64 0),.lit (.int .i64 0)]):=by
 unfold run fnP
 simp+decide [Tryz.f128]
 rw [loopX_G (C':=rps_C4) (e:=(rps_h4 a0 true 0 false [] 0)) ?_ ?_,L1]
 rotate_left
 ·kernel_rfl
 ·simp+decide [rps_h4]
 simp+decide [rps_o4a]
theorem rps_f2(L1:loopG Tryz.prog (tab (n+5)) 0 67 (livesOf 128) 4 rps_C4 (rps_h4 a0 true 0 false [] 0)=some (.exit 0,rps_o4b a0 z14 d30)):
  run (n+5) 128 [.lit (.string a0)]=some (.tup [.agg [.sl 4 [],.lit (.bool false),.sl 1 [],.sl 1 []],.lit (.int .i64 z14),.lit (.int .i64 4)]):=by
 unfold run fnP
 simp+decide [Tryz.f128]
 rw [loopX_G (C':=rps_C4) (e:=(rps_h4 a0 true 0 false [] 0)) ?_ ?_,L1]
 rotate_left
 ·kernel_rfl
 ·simp+decide [rps_h4]
 simp+decide [rps_o4b]
theorem rps_f3(L1:loopG Tryz.prog (tab (n+5)) 0 67 (livesOf 128) 4 rps_C4 (rps_h4 a0 true 0 false [] 0)=some (.exit 0,rps_o4c a0 i_4 d2_4)):
  run (n+5) 128 [.lit (.string a0)]=some (.tup [.agg [.sl 4 [],.lit (.bool false),.sl 1 [],.sl 1 []],.lit (.int .i64 i_4),.lit (.int .i64 4)]):=by
 unfold run fnP
 simp+decide [Tryz.f128]
 rw [loopX_G (C':=rps_C4) (e:=(rps_h4 a0 true 0 false [] 0)) ?_ ?_,L1]
 rotate_left
 ·kernel_rfl
 ·simp+decide [rps_h4]
 simp+decide [rps_o4c]
end
end
end Go.Proofs.YtnegdhjdienjlaaGreatDoor
