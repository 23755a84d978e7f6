import Derived.Test.YtdaonnnlgfhlaaaGreatDoorGC16
import Derived.Test.YtdaonnnlgfhlaaaGreatDoorGC17
import Derived.Test.YtdaonnnlgfhlaaaGreatDoorGC18
set_option linter.all false
set_option maxHeartbeats 6400000
set_option maxRecDepth 100000
namespace Go.Proofs.YtdaonnnlgfhlaaaGreatDoor
section
open Go.RowKit
noncomputable def fca_C2:Code:=(loopsOf (bodyOf Tryz.f44)).getD 0 .skip
def fca_h2(a0:List Form)(a1:Int)(i_2:Nat):St:=
 ⟨[(1,.lit (.int .i64 a1)),(7,.sl 4 (a0.map formC)),(8,.lit (.int .i64 (a0.length:Int))),(9,.lit (.int .i64 (i_2:Int)))],
  [],0⟩
def fca_o2a:St:=
 ⟨[(4,.lit (.bool false))],
  [],0⟩
def fca_o2b:St:=
 ⟨[(4,.any)],
  [],0⟩
section
variable{a0:List Form}{F3:List (Int × Rat)}{a1:Int}{r3:Bool}{i_2:Nat}{n:Nat}{q3:Rat}
section
variable(C1:(i_2:Int)<(a0.length:Int))(E2:a0[i_2]?=some (F3,q3))(K3:run n 67 [formV (F3,q3),.lit (.int .i64 a1)]=some (.lit (.bool r3)))
include C1 E2 K3
theorem fca_r2_1(C4:r3=true)(W5:InI ((i_2:Int)+1)):
  Cont 0 (exec Tryz.prog (tab (n+1)) 0 18 (livesOf 44) big fca_C2) (livesOf 44 2) (fca_h2 a0 a1 i_2) (fca_h2 a0 a1 (i_2+1)):=by
 have C1_:i_2<a0.length:=by omega
 obtain ⟨EL2,EG2⟩:=List.getElem?_eq_some_iff.1 E2
 simp only [formV] at K3
 have W5_:IntKind.i64.wrap ((i_2:Int)+1)=(i_2:Int)+1:=wr64 W5.1 W5.2
 unfold Cont
 simp+decide [fca_h2,loopsOf, Tryz.f44,fca_C2,C1,C1_,EL2,EG2,E2,K3,C4,W5_]
theorem fca_x2_1(C4:r3=false):
  Leave 0 (exec Tryz.prog (tab (n+1)) 0 18 (livesOf 44) big fca_C2) (livesOf 44 (outOf 2)) (fca_h2 a0 a1 i_2) (.ret) (fca_o2a):=by
 have C1_:i_2<a0.length:=by omega
 obtain ⟨EL2,EG2⟩:=List.getElem?_eq_some_iff.1 E2
 simp only [formV] at K3
 unfold Leave
 simp+decide [fca_h2,loopsOf, Tryz.f44,fca_o2a,fca_C2,C1,C1_,EL2,EG2,E2,K3,C4]
end
theorem fca_x2_2(C1:¬(i_2:Int)<(a0.length:Int)):
  Leave 0 (exec Tryz.prog (tab (n+1)) 0 18 (livesOf 44) big fca_C2) (livesOf 44 (outOf 2)) (fca_h2 a0 a1 i_2) (.exit 0) (fca_o2b):=by
 have C1_:¬i_2<a0.length:=by omega
 unfold Leave
 simp+decide [fca_h2,loopsOf, Tryz.f44,fca_o2b,fca_C2,C1,C1_]
theorem fca_f1(L1:loopG Tryz.prog (tab (n+1)) 0 18 (livesOf 44) 2 fca_C2 (fca_h2 a0 a1 0)=some (.ret,fca_o2a)):
  run (n+1) 44 [.sl 4 (a0.map formC),.lit (.int .i64 a1)]=some (.lit (.bool false)):=by
 unfold run fnP
 simp+decide [Tryz.f44]
 rw [loopX_G (C':=fca_C2) (e:=(fca_h2 a0 a1 0)) ?_ ?_,L1]
 rotate_left
 ·kernel_rfl
 ·simp+decide [fca_h2]
 simp+decide [fca_o2a]
theorem fca_f2(L1:loopG Tryz.prog (tab (n+1)) 0 18 (livesOf 44) 2 fca_C2 (fca_h2 a0 a1 0)=some (.exit 0,fca_o2b)):
  run (n+1) 44 [.sl 4 (a0.map formC),.lit (.int .i64 a1)]=some (.lit (.bool true)):=by
 unfold run fnP
 simp+decide [Tryz.f44]
 rw [loopX_G (C':=fca_C2) (e:=(fca_h2 a0 a1 0)) ?_ ?_,L1]
 rotate_left
 ·kernel_rfl
 ·simp+decide [fca_h2]
 simp+decide [fca_o2b]
end
noncomputable def fel_C6:Code:=(loopsOf (bodyOf Tryz.f17)).getD 0 .skip
noncomputable def fel_C16:Code:=(loopsOf (bodyOf Tryz.f17)).getD 1 .skip
noncomputable def fel_C20:Code:=(loopsOf fel_C16).getD 0 .skip
def fel_h6(a0:List Form)(a1:Int)(out_6:List Form)(out2_6:List Form)(i_6:Nat)(out3_6:List Form)(mp_6:List (ByteArray × Value)):St:=
 ⟨[(1,.lit (.int .i64 a1)),(6,.ptr 0 0),(7,.own 3 out_6.length),(8,.own 4 out2_6.length),(27,.sl 4 (a0.map formC)),(28,.lit (.int .i64 (a0.length:Int))),(29,.lit (.int .i64 (i_6:Int)))],
  [(0,some (.box 78 [.own 1 out3_6.length,.mp 2] false)),
   (1,some (.row 28 4 (out3_6.map formC) 0)),
   (2,some (.mp mp_6)),
   (3,some (.row 28 4 (out_6.map formC) 0)),
   (4,some (.row 28 4 (out2_6.map formC) 0))],5⟩
def fel_h20(a1:Int)(out2_6:List Form)(out_6:List Form)(i_16:Nat)(i_20:Nat)(out_20:List Form)(mp_20:List (ByteArray × Value))(F12:List (Int × Rat))(q12:Rat)(r31:Rat):St:=
 ⟨[(1,.lit (.int .i64 a1)),(6,.ptr 0 0),(8,.own 3 out2_6.length),(12,.ptr 4 0),(13,.ptr 5 0),(53,.own 6 out_6.length),(54,.lit (.int .i64 (out_6.length:Int))),(55,.lit (.int .i64 (i_16:Int))),(62,.own 3 out2_6.length),(63,.lit (.int .i64 (out2_6.length:Int))),(64,.lit (.int .i64 (i_20:Int)))],
  [(0,some (.box 78 [.own 1 out_20.length,.mp 2] false)),
   (1,some (.row 28 4 (out_20.map formC) 0)),
   (2,some (.mp mp_20)),
   (3,some (.row 28 4 (out2_6.map formC) 0)),
   (4,some (.box 28 [.sl 4 (F12.map termC),.lit (.bool (rawQ q12).s),natA (rawQ q12).l1,natA (rawQ q12).l2] false)),
   (5,some (.box 26 [.lit (.bool (rawQ r31).s),natA (rawQ r31).l1,natA (rawQ r31).l2] false)),
   (6,some (.row 28 4 (out_6.map formC) 0))],7⟩
def fel_h16(a1:Int)(out2_6:List Form)(out_6:List Form)(i_16:Nat)(out_16:List Form)(mp_16:List (ByteArray × Value)):St:=
 ⟨[(1,.lit (.int .i64 a1)),(6,.ptr 0 0),(8,.own 3 out2_6.length),(53,.own 4 out_6.length),(54,.lit (.int .i64 (out_6.length:Int))),(55,.lit (.int .i64 (i_16:Int)))],
  [(0,some (.box 78 [.own 1 out_16.length,.mp 2] false)),
   (1,some (.row 28 4 (out_16.map formC) 0)),
   (2,some (.mp mp_16)),
   (3,some (.row 28 4 (out2_6.map formC) 0)),
   (4,some (.row 28 4 (out_6.map formC) 0))],5⟩
def fel_o6a(a1:Int)(out_6:List Form)(out2_6:List Form)(out3_6:List Form)(mp_6:List (ByteArray × Value)):St:=
 ⟨[(1,.lit (.int .i64 a1)),(6,.ptr 0 0),(7,.own 3 out_6.length),(8,.own 4 out2_6.length)],
  [(0,some (.box 78 [.own 1 out3_6.length,.mp 2] false)),
   (1,some (.row 28 4 (out3_6.map formC) 0)),
   (2,some (.mp mp_6)),
   (3,some (.row 28 4 (out_6.map formC) 0)),
   (4,some (.row 28 4 (out2_6.map formC) 0))],5⟩
def fel_o20a(a1:Int)(out2_6:List Form)(out_6:List Form)(i_16:Nat)(out_20:List Form)(mp_20:List (ByteArray × Value)):St:=
 ⟨[(1,.lit (.int .i64 a1)),(6,.ptr 0 0),(8,.own 3 out2_6.length),(53,.own 4 out_6.length),(54,.lit (.int .i64 (out_6.length:Int))),(55,.lit (.int .i64 (i_16:Int)))],
  [(0,some (.box 78 [.own 1 out_20.length,.mp 2] false)),
   (1,some (.row 28 4 (out_20.map formC) 0)),
   (2,some (.mp mp_20)),
   (3,some (.row 28 4 (out2_6.map formC) 0)),
   (4,some (.row 28 4 (out_6.map formC) 0))],5⟩
def fel_o16a(out_16:List Form)(mp_16:List (ByteArray × Value)):St:=
 ⟨[(6,.ptr 0 0)],
  [(0,some (.box 78 [.own 1 out_16.length,.mp 2] false)),
   (1,some (.row 28 4 (out_16.map formC) 0)),
   (2,some (.mp mp_16))],3⟩
section
variable{r4:Rat}{out_6:List Form}{out2_6:List Form}{a0:List Form}{mp_6:List (ByteArray × Value)}{F3:List (Int × Rat)}{a1:Int}{i_6:Nat}{n:Nat}{q3:Rat}{out3_6:List Form}{mR3:List (ByteArray × Value)}{R3:List Form}{i_20:Nat}{out_20:List Form}{F15:List (Int × Rat)}{r41:Form}{mp_20:List (ByteArray × Value)}{r43:Form}{q12:Rat}{F12:List (Int × Rat)}{i_16:Nat}{r31:Rat}{q15:Rat}{r40:Rat}{r42:Form}{mR12:List (ByteArray × Value)}{R12:List Form}{out_16:List Form}{mp_16:List (ByteArray × Value)}{r:Bool}
section
variable(C1:(i_6:Int)<(a0.length:Int))(E2:a0[i_6]?=some (F3,q3))(K3:run (n+8) 45 [formV (F3,q3),.lit (.int .i64 a1)]=some (ratV r4))(B4a:H r4≤17179869184)
include C1 E2 K3 B4a
theorem fel_r6_1(C5:sgR r4=0)(K6:runL (n+8) 46 [.ptr 0 0,formV (F3,q3)] [.box 78 [.own 1 out3_6.length,.mp 2] false,.row 28 4 (out3_6.map formC) 0,.mp mp_6]=some (.tup [],[(0,.box 78 [.own 1 out3_6.length,.mp 2] false),(1,.row 28 4 (out3_6.map formC) 0),(2,.mp mp_6)]))(W7:InI ((i_6:Int)+1)):
  Cont 0 (exec Tryz.prog (tab (n+9)) 0 93 (livesOf 17) big fel_C6) (livesOf 17 6) (fel_h6 a0 a1 out_6 out2_6 i_6 out3_6 mp_6) (fel_h6 a0 a1 out_6 out2_6 (i_6+1) out3_6 mp_6):=by
 have C1_:i_6<a0.length:=by omega
 obtain ⟨EL2,EG2⟩:=List.getElem?_eq_some_iff.1 E2
 simp only [ratV,formV] at K3
 have K4:=r_sign (p:=r4) B4a
 have C5_:(sgR r4==0)=true:=by rw [C5];simp
 have C5_n:(sgR r4 !=0)=false:=by rw [C5];simp
 simp only [formV] at K6
 have W7_:IntKind.i64.wrap ((i_6:Int)+1)=(i_6:Int)+1:=wr64 W7.1 W7.2
 unfold Cont
 simp+decide [fel_h6,loopsOf, Tryz.f17,fel_C6,C1,C1_,EL2,EG2,E2,K3,K4,C5_,C5_n,K6,W7_]
theorem fel_r6_2(C5:sgR r4=0)(K6:runL (n+8) 46 [.ptr 0 0,formV (F3,q3)] [.box 78 [.own 1 out3_6.length,.mp 2] false,.row 28 4 (out3_6.map formC) 0,.mp mp_6]=some (.tup [],[(0,.box 78 [.own 6 R3.length,.mp 2] false),(2,.mp mR3),(6,.row 28 4 (R3.map formC) 0)]))(W7:InI ((i_6:Int)+1)):
  Cont 0 (exec Tryz.prog (tab (n+9)) 0 93 (livesOf 17) big fel_C6) (livesOf 17 6) (fel_h6 a0 a1 out_6 out2_6 i_6 out3_6 mp_6) (fel_h6 a0 a1 out_6 out2_6 (i_6+1) R3 mR3):=by
 have C1_:i_6<a0.length:=by omega
 obtain ⟨EL2,EG2⟩:=List.getElem?_eq_some_iff.1 E2
 simp only [ratV,formV] at K3
 have K4:=r_sign (p:=r4) B4a
 have C5_:(sgR r4==0)=true:=by rw [C5];simp
 have C5_n:(sgR r4 !=0)=false:=by rw [C5];simp
 simp only [formV] at K6
 have W7_:IntKind.i64.wrap ((i_6:Int)+1)=(i_6:Int)+1:=wr64 W7.1 W7.2
 unfold Cont
 simp+decide [fel_h6,loopsOf, Tryz.f17,fel_C6,C1,C1_,EL2,EG2,E2,K3,K4,C5_,C5_n,K6,W7_]
theorem fel_r6_3(C5:¬sgR r4=0)(C6:sgR r4=1)(M7:out_6.length+1≤100000000)(W8:InI ((i_6:Int)+1)):
  Cont 0 (exec Tryz.prog (tab (n+9)) 0 93 (livesOf 17) big fel_C6) (livesOf 17 6) (fel_h6 a0 a1 out_6 out2_6 i_6 out3_6 mp_6) (fel_h6 a0 a1 (out_6++[(F3,q3)]) out2_6 (i_6+1) out3_6 mp_6):=by
 have C1_:i_6<a0.length:=by omega
 obtain ⟨EL2,EG2⟩:=List.getElem?_eq_some_iff.1 E2
 simp only [ratV,formV] at K3
 have K4:=r_sign (p:=r4) B4a
 have C5_:(sgR r4==0)=false:=by simpa using C5
 have C5_n:(sgR r4 !=0)=true:=by simpa using C5
 have C6_:(sgR r4==1)=true:=by rw [C6];simp
 have C6_n:(sgR r4 !=1)=false:=by rw [C6];simp
 have M7_:∀b,b≤10000→roomy (out_6.length+1) b=true:=fun b hb=>roomy_s M7 hb
 have W8_:IntKind.i64.wrap ((i_6:Int)+1)=(i_6:Int)+1:=wr64 W8.1 W8.2
 unfold Cont
 simp+decide [fel_h6,loopsOf, Tryz.f17,fel_C6,C1,C1_,EL2,EG2,E2,K3,K4,C5_,C5_n,C6_,C6_n,M7_,W8_]
theorem fel_r6_4(C5:¬sgR r4=0)(C6:¬sgR r4=1)(M7:out2_6.length+1≤100000000)(W8:InI ((i_6:Int)+1)):
  Cont 0 (exec Tryz.prog (tab (n+9)) 0 93 (livesOf 17) big fel_C6) (livesOf 17 6) (fel_h6 a0 a1 out_6 out2_6 i_6 out3_6 mp_6) (fel_h6 a0 a1 out_6 (out2_6++[(F3,q3)]) (i_6+1) out3_6 mp_6):=by
 have C1_:i_6<a0.length:=by omega
 obtain ⟨EL2,EG2⟩:=List.getElem?_eq_some_iff.1 E2
 simp only [ratV,formV] at K3
 have K4:=r_sign (p:=r4) B4a
 have C5_:(sgR r4==0)=false:=by simpa using C5
 have C5_n:(sgR r4 !=0)=true:=by simpa using C5
 have C6_:(sgR r4==1)=false:=by simpa using C6
 have C6_n:(sgR r4 !=1)=true:=by simpa using C6
 have M7_:∀b,b≤10000→roomy (out2_6.length+1) b=true:=fun b hb=>roomy_s M7 hb
 have W8_:IntKind.i64.wrap ((i_6:Int)+1)=(i_6:Int)+1:=wr64 W8.1 W8.2
 unfold Cont
 simp+decide [fel_h6,loopsOf, Tryz.f17,fel_C6,C1,C1_,EL2,EG2,E2,K3,K4,C5_,C5_n,C6_,C6_n,M7_,W8_]
end
theorem fel_x6_1(C1:¬(i_6:Int)<(a0.length:Int)):
  Leave 0 (exec Tryz.prog (tab (n+9)) 0 93 (livesOf 17) big fel_C6) (livesOf 17 (outOf 6)) (fel_h6 a0 a1 out_6 out2_6 i_6 out3_6 mp_6) (.exit 0) (fel_o6a a1 out_6 out2_6 out3_6 mp_6):=by
 have C1_:¬i_6<a0.length:=by omega
 unfold Leave
 simp+decide [fel_h6,loopsOf, Tryz.f17,fel_o6a,fel_C6,C1,C1_]
section
variable(C1:(i_20:Int)<(out2_6.length:Int))(G2:i_20<out2_6.length)(E3:out2_6[i_20]?=some (F15,q15))(K4:run (n+8) 45 [formV (F15,q15),.lit (.int .i64 a1)]=some (ratV r40))(B5a:H r40≤17179869184)(K6:run (n+8) 37 [formV (F12,q12),ratV (-r40)]=some (formV r41))(K7:run (n+8) 37 [formV (F15,q15),ratV r31]=some (formV r42))(K8:run (n+8) 48 [formV r41,formV r42]=some (formV r43))
include C1 G2 E3 K4 B5a K6 K7 K8
theorem fel_r20_1(K9:runL (n+8) 46 [.ptr 0 0,formV r43] [.box 78 [.own 1 out_20.length,.mp 2] false,.row 28 4 (out_20.map formC) 0,.mp mp_20]=some (.tup [],[(0,.box 78 [.own 1 out_20.length,.mp 2] false),(1,.row 28 4 (out_20.map formC) 0),(2,.mp mp_20)]))(W10:InI ((i_20:Int)+1)):
  Cont 0 (exec Tryz.prog (tab (n+9)) 0 93 (livesOf 17) big fel_C20) (livesOf 17 20) (fel_h20 a1 out2_6 out_6 i_16 i_20 out_20 mp_20 F12 q12 r31) (fel_h20 a1 out2_6 out_6 i_16 (i_20+1) out_20 mp_20 F12 q12 r31):=by
 have C1_:i_20<out2_6.length:=by omega
 obtain ⟨EL3,EG3⟩:=List.getElem?_eq_some_iff.1 E3
 simp only [ratV,formV] at K4
 have K5:=r_neg (p:=r40) B5a
 simp only [ratV,formV] at K6
 simp only [ratV,formV] at K7
 simp only [formV] at K8
 simp only [formV] at K9
 have W10_:IntKind.i64.wrap ((i_20:Int)+1)=(i_20:Int)+1:=wr64 W10.1 W10.2
 unfold Cont
 simp+decide [fel_h20,loopsOf, Tryz.f17,fel_C16,fel_C20,C1,C1_,G2,EL3,EG3,E3,K4,K5,K6,K7,K8,K9,W10_]
theorem fel_r20_2(K9:runL (n+8) 46 [.ptr 0 0,formV r43] [.box 78 [.own 1 out_20.length,.mp 2] false,.row 28 4 (out_20.map formC) 0,.mp mp_20]=some (.tup [],[(0,.box 78 [.own 6 R12.length,.mp 2] false),(2,.mp mR12),(6,.row 28 4 (R12.map formC) 0)]))(W10:InI ((i_20:Int)+1)):
  Cont 0 (exec Tryz.prog (tab (n+9)) 0 93 (livesOf 17) big fel_C20) (livesOf 17 20) (fel_h20 a1 out2_6 out_6 i_16 i_20 out_20 mp_20 F12 q12 r31) (fel_h20 a1 out2_6 out_6 i_16 (i_20+1) R12 mR12 F12 q12 r31):=by
 have C1_:i_20<out2_6.length:=by omega
 obtain ⟨EL3,EG3⟩:=List.getElem?_eq_some_iff.1 E3
 simp only [ratV,formV] at K4
 have K5:=r_neg (p:=r40) B5a
 simp only [ratV,formV] at K6
 simp only [ratV,formV] at K7
 simp only [formV] at K8
 simp only [formV] at K9
 have W10_:IntKind.i64.wrap ((i_20:Int)+1)=(i_20:Int)+1:=wr64 W10.1 W10.2
 unfold Cont
 simp+decide [fel_h20,loopsOf, Tryz.f17,fel_C16,fel_C20,C1,C1_,G2,EL3,EG3,E3,K4,K5,K6,K7,K8,K9,W10_]
end
theorem fel_x20_1(C1:¬(i_20:Int)<(out2_6.length:Int)):
  Leave 0 (exec Tryz.prog (tab (n+9)) 0 93 (livesOf 17) big fel_C20) (livesOf 17 (outOf 20)) (fel_h20 a1 out2_6 out_6 i_16 i_20 out_20 mp_20 F12 q12 r31) (.exit 5) (fel_o20a a1 out2_6 out_6 i_16 out_20 mp_20):=by
 have C1_:¬i_20<out2_6.length:=by omega
 unfold Leave
 simp+decide [fel_h20,loopsOf, Tryz.f17,fel_o20a,fel_C16,fel_C20,C1,C1_]
theorem fel_r16_1(C1:(i_16:Int)<(out_6.length:Int))(G2:i_16<out_6.length)(E3:out_6[i_16]?=some (F12,q12))(K4:run (n+8) 45 [formV (F12,q12),.lit (.int .i64 a1)]=some (ratV r31))(L5:loopG Tryz.prog (tab (n+9)) 0 93 (livesOf 17) 20 fel_C20 (fel_h20 a1 out2_6 out_6 i_16 0 out_16 mp_16 F12 q12 r31)=some (.exit 5,fel_o20a a1 out2_6 out_6 i_16 out_20 mp_20))(W6:InI ((i_16:Int)+1)):
  Cont 0 (exec Tryz.prog (tab (n+9)) 0 93 (livesOf 17) big fel_C16) (livesOf 17 16) (fel_h16 a1 out2_6 out_6 i_16 out_16 mp_16) (fel_h16 a1 out2_6 out_6 (i_16+1) out_20 mp_20):=by
 have C1_:i_16<out_6.length:=by omega
 obtain ⟨EL3,EG3⟩:=List.getElem?_eq_some_iff.1 E3
 simp only [ratV,formV] at K4
 have W6_:IntKind.i64.wrap ((i_16:Int)+1)=(i_16:Int)+1:=wr64 W6.1 W6.2
 unfold Cont
 simp+decide [fel_h16,loopsOf, Tryz.f17,fel_C16,C1,C1_,G2,EL3,EG3,E3,K4,W6_]
 rw [loopX_G (C':=fel_C20) (e:=(fel_h20 a1 out2_6 out_6 i_16 0 out_16 mp_16 F12 q12 r31)) ?_ ?_,L5]
 rotate_left
 ·kernel_rfl
 ·simp+decide [fel_h20,loopsOf, Tryz.f17,fel_C16,C1,C1_,G2,EL3,EG3,E3,K4,W6_]
 simp+decide [fel_o20a,loopsOf, Tryz.f17,fel_C16,C1,C1_,G2,EL3,EG3,E3,K4,W6_]
theorem fel_x16_1(C1:¬(i_16:Int)<(out_6.length:Int)):
  Leave 0 (exec Tryz.prog (tab (n+9)) 0 93 (livesOf 17) big fel_C16) (livesOf 17 (outOf 16)) (fel_h16 a1 out2_6 out_6 i_16 out_16 mp_16) (.exit 3) (fel_o16a out_16 mp_16):=by
 have C1_:¬i_16<out_6.length:=by omega
 unfold Leave
 simp+decide [fel_h16,loopsOf, Tryz.f17,fel_o16a,fel_C16,C1,C1_]
theorem fel_f4(C1:¬a1<0)(K2:run (n+8) 44 [.sl 4 (a0.map formC),.lit (.int .i64 4611686018427387904)]=some (.lit (.bool r)))(C3:r=true)(L4:loopG Tryz.prog (tab (n+9)) 0 93 (livesOf 17) 6 fel_C6 (fel_h6 a0 a1 [] [] 0 [] [])=some (.exit 0,fel_o6a a1 out_6 out2_6 out3_6 mp_6))(L5:loopG Tryz.prog (tab (n+9)) 0 93 (livesOf 17) 16 fel_C16 (fel_h16 a1 out2_6 out_6 0 out3_6 mp_6)=some (.exit 3,fel_o16a out_16 mp_16))(C6:¬4096<(out_16.length:Int)):
  run (n+9) 17 [.sl 4 (a0.map formC),.lit (.int .i64 a1)]=some (.tup [.sl 4 (out_16.map formC),.lit (.int .i64 0)]):=by
 have C6_:¬4096<out_16.length:=by omega
 unfold run fnP
 simp+decide [Tryz.f17,C1,K2,C3,C6,C6_]
 rw [loopX_G (C':=fel_C6) (e:=(fel_h6 a0 a1 [] [] 0 [] [])) ?_ ?_,L4]
 rotate_left
 ·kernel_rfl
 ·simp+decide [fel_h6,C1,K2,C3,C6,C6_]
 simp+decide [fel_o6a,C1,K2,C3,C6,C6_]
 rw [loopX_G (C':=fel_C16) (e:=(fel_h16 a1 out2_6 out_6 0 out3_6 mp_6)) ?_ ?_,L5]
 rotate_left
 ·kernel_rfl
 ·simp+decide [fel_h16,C1,K2,C3,C6,C6_]
 simp+decide [fel_o16a,C1,K2,C3,C6,C6_]
end
end
section
open Go.RowKit
end
section
open Go.RowKit
noncomputable def lva_C2:Code:=(loopsOf (bodyOf Tryz.f67)).getD 0 .skip
def lva_h2(a0:Form)(a1:Int)(i_2:Nat):St:=
 ⟨[(1,.lit (.int .i64 a1)),(2,.ptr 0 0),(8,.sl 4 (a0.1.map termC)),(9,.lit (.int .i64 (a0.1.length:Int))),(10,.lit (.int .i64 (i_2:Int)))],
  [(0,some (.box 28 [.sl 4 (a0.1.map termC),.lit (.bool (rawQ a0.2).s),natA (rawQ a0.2).l1,natA (rawQ a0.2).l2] false))],1⟩
def lva_o2a(a0:Form):St:=
 ⟨[(2,.ptr 0 0),(4,.lit (.bool false))],
  [(0,some (.box 28 [.sl 4 (a0.1.map termC),.lit (.bool (rawQ a0.2).s),natA (rawQ a0.2).l1,natA (rawQ a0.2).l2] false))],1⟩
def lva_o2b(a0:Form):St:=
 ⟨[(2,.ptr 0 0),(4,.any)],
  [(0,some (.box 28 [.sl 4 (a0.1.map termC),.lit (.bool (rawQ a0.2).s),natA (rawQ a0.2).l1,natA (rawQ a0.2).l2] false))],1⟩
section
variable {v4 : Int} {a0 : Form} {v5 : Int} {q4 : Rat} {a1 : Int} {i_2 : Nat} {n : Nat} {q5 : Rat}
section
variable(C1:(i_2:Int)<(a0.1.length:Int))(E2:a0.1[i_2]?=some (v4,q4))
include C1 E2
theorem lva_r2_1(C3:¬v4<0)(C4:¬a1≤v4)(C5:0<(i_2:Int))(W6:InI ((i_2:Int)-1))(E7:a0.1[i_2-1]?=some (v5,q5))(Z7:1≤i_2)(C8:¬v4≤v5)(B9a:H q4≤17179869184)(C10:¬sgR q4=0)(W12:InI ((i_2:Int)+1)):
  Cont 0 (exec Tryz.prog (tab n) 0 56 (livesOf 67) big lva_C2) (livesOf 67 2) (lva_h2 a0 a1 i_2) (lva_h2 a0 a1 (i_2+1)):=by
 have C1_:i_2<a0.1.length:=by omega
 obtain ⟨EL2,EG2⟩:=List.getElem?_eq_some_iff.1 E2
 have C5_:0<i_2:=by omega
 have C5_z:(i_2:Int)≠0:=by omega
 have C5_e:((i_2:Int)==0)=false:=by simpa using C5_z
 have C5_g:((i_2:Int) !=0)=true:=by simpa using C5_z
 have W6_:IntKind.i64.wrap ((i_2:Int)-1)=(i_2:Int)-1:=wr64 W6.1 W6.2
 obtain ⟨EL7,EG7⟩:=List.getElem?_eq_some_iff.1 E7
 have Z7_0:(1:Int)≤(i_2:Int):=by omega
 have Z7_1:0≤(i_2:Int)-1:=by omega
 have K9:=r_sign (p:=q4) B9a
 have C10_:(sgR q4==0)=false:=by simpa using C10
 have C10_n:(sgR q4 !=0)=true:=by simpa using C10
 have K11:=r_valid (p:=q4) B9a
 have W12_:IntKind.i64.wrap ((i_2:Int)+1)=(i_2:Int)+1:=wr64 W12.1 W12.2
 unfold Cont
 simp+decide [lva_h2,loopsOf, Tryz.f67,lva_C2,C1,C1_,EL2,EG2,E2,C3,C4,C5,C5_,C5_e,C5_g,W6_,EL7,EG7,E7,Z7,Z7_0,Z7_1,C8,K9,C10_,C10_n,K11,W12_]
theorem lva_r2_2(C3:¬v4<0)(C4:¬a1≤v4)(C5:¬0<(i_2:Int))(B6a:H q4≤17179869184)(C7:¬sgR q4=0)(W9:InI ((i_2:Int)+1)):
  Cont 0 (exec Tryz.prog (tab n) 0 56 (livesOf 67) big lva_C2) (livesOf 67 2) (lva_h2 a0 a1 i_2) (lva_h2 a0 a1 (i_2+1)):=by
 have C1_:i_2<a0.1.length:=by omega
 obtain ⟨EL2,EG2⟩:=List.getElem?_eq_some_iff.1 E2
 have C5_:¬0<i_2:=by omega
 have C5_z:(i_2:Int)=0:=by omega
 have C5_e:((i_2:Int)==0)=true:=by rw [C5_z];simp
 have C5_g:((i_2:Int) !=0)=false:=by rw [C5_z];simp
 have K6:=r_sign (p:=q4) B6a
 have C7_:(sgR q4==0)=false:=by simpa using C7
 have C7_n:(sgR q4 !=0)=true:=by simpa using C7
 have K8:=r_valid (p:=q4) B6a
 have W9_:IntKind.i64.wrap ((i_2:Int)+1)=(i_2:Int)+1:=wr64 W9.1 W9.2
 unfold Cont
 simp+decide [lva_h2,loopsOf, Tryz.f67,lva_C2,C1,C1_,EL2,EG2,E2,C3,C4,C5,C5_,C5_e,C5_g,K6,C7_,C7_n,K8,W9_]
theorem lva_x2_1(C3:v4<0):
  Leave 0 (exec Tryz.prog (tab n) 0 56 (livesOf 67) big lva_C2) (livesOf 67 (outOf 2)) (lva_h2 a0 a1 i_2) (.ret) (lva_o2a a0):=by
 have C1_:i_2<a0.1.length:=by omega
 obtain ⟨EL2,EG2⟩:=List.getElem?_eq_some_iff.1 E2
 unfold Leave
 simp+decide [lva_h2,loopsOf, Tryz.f67,lva_o2a,lva_C2,C1,C1_,EL2,EG2,E2,C3]
theorem lva_x2_2(C3:¬v4<0)(C4:a1≤v4):
  Leave 0 (exec Tryz.prog (tab n) 0 56 (livesOf 67) big lva_C2) (livesOf 67 (outOf 2)) (lva_h2 a0 a1 i_2) (.ret) (lva_o2a a0):=by
 have C1_:i_2<a0.1.length:=by omega
 obtain ⟨EL2,EG2⟩:=List.getElem?_eq_some_iff.1 E2
 unfold Leave
 simp+decide [lva_h2,loopsOf, Tryz.f67,lva_o2a,lva_C2,C1,C1_,EL2,EG2,E2,C3,C4]
theorem lva_x2_3(C3:¬v4<0)(C4:¬a1≤v4)(C5:0<(i_2:Int))(W6:InI ((i_2:Int)-1))(E7:a0.1[i_2-1]?=some (v5,q5))(Z7:1≤i_2)(C8:v4≤v5):
  Leave 0 (exec Tryz.prog (tab n) 0 56 (livesOf 67) big lva_C2) (livesOf 67 (outOf 2)) (lva_h2 a0 a1 i_2) (.ret) (lva_o2a a0):=by
 have C1_:i_2<a0.1.length:=by omega
 obtain ⟨EL2,EG2⟩:=List.getElem?_eq_some_iff.1 E2
 have C5_:0<i_2:=by omega
 have C5_z:(i_2:Int)≠0:=by omega
 have C5_e:((i_2:Int)==0)=false:=by simpa using C5_z
 have C5_g:((i_2:Int) !=0)=true:=by simpa using C5_z
 have W6_:IntKind.i64.wrap ((i_2:Int)-1)=(i_2:Int)-1:=wr64 W6.1 W6.2
 obtain ⟨EL7,EG7⟩:=List.getElem?_eq_some_iff.1 E7
 have Z7_0:(1:Int)≤(i_2:Int):=by omega
 have Z7_1:0≤(i_2:Int)-1:=by omega
 unfold Leave
 simp+decide [lva_h2,loopsOf, Tryz.f67,lva_o2a,lva_C2,C1,C1_,EL2,EG2,E2,C3,C4,C5,C5_,C5_e,C5_g,W6_,EL7,EG7,E7,Z7,Z7_0,Z7_1,C8]
theorem lva_x2_4(C3:¬v4<0)(C4:¬a1≤v4)(C5:0<(i_2:Int))(W6:InI ((i_2:Int)-1))(E7:a0.1[i_2-1]?=some (v5,q5))(Z7:1≤i_2)(C8:¬v4≤v5)(B9a:H q4≤17179869184)(C10:sgR q4=0):
  Leave 0 (exec Tryz.prog (tab n) 0 56 (livesOf 67) big lva_C2) (livesOf 67 (outOf 2)) (lva_h2 a0 a1 i_2) (.ret) (lva_o2a a0):=by
 have C1_:i_2<a0.1.length:=by omega
 obtain ⟨EL2,EG2⟩:=List.getElem?_eq_some_iff.1 E2
 have C5_:0<i_2:=by omega
 have C5_z:(i_2:Int)≠0:=by omega
 have C5_e:((i_2:Int)==0)=false:=by simpa using C5_z
 have C5_g:((i_2:Int) !=0)=true:=by simpa using C5_z
 have W6_:IntKind.i64.wrap ((i_2:Int)-1)=(i_2:Int)-1:=wr64 W6.1 W6.2
 obtain ⟨EL7,EG7⟩:=List.getElem?_eq_some_iff.1 E7
 have Z7_0:(1:Int)≤(i_2:Int):=by omega
 have Z7_1:0≤(i_2:Int)-1:=by omega
 have K9:=r_sign (p:=q4) B9a
 have C10_:(sgR q4==0)=true:=by rw [C10];simp
 have C10_n:(sgR q4 !=0)=false:=by rw [C10];simp
 unfold Leave
 simp+decide [lva_h2,loopsOf, Tryz.f67,lva_o2a,lva_C2,C1,C1_,EL2,EG2,E2,C3,C4,C5,C5_,C5_e,C5_g,W6_,EL7,EG7,E7,Z7,Z7_0,Z7_1,C8,K9,C10_,C10_n]
theorem lva_x2_5(C3:¬v4<0)(C4:¬a1≤v4)(C5:¬0<(i_2:Int))(B6a:H q4≤17179869184)(C7:sgR q4=0):
  Leave 0 (exec Tryz.prog (tab n) 0 56 (livesOf 67) big lva_C2) (livesOf 67 (outOf 2)) (lva_h2 a0 a1 i_2) (.ret) (lva_o2a a0):=by
 have C1_:i_2<a0.1.length:=by omega
 obtain ⟨EL2,EG2⟩:=List.getElem?_eq_some_iff.1 E2
 have C5_:¬0<i_2:=by omega
 have C5_z:(i_2:Int)=0:=by omega
 have C5_e:((i_2:Int)==0)=true:=by rw [C5_z];simp
 have C5_g:((i_2:Int) !=0)=false:=by rw [C5_z];simp
 have K6:=r_sign (p:=q4) B6a
 have C7_:(sgR q4==0)=true:=by rw [C7];simp
 have C7_n:(sgR q4 !=0)=false:=by rw [C7];simp
 unfold Leave
 simp+decide [lva_h2,loopsOf, Tryz.f67,lva_o2a,lva_C2,C1,C1_,EL2,EG2,E2,C3,C4,C5,C5_,C5_e,C5_g,K6,C7_,C7_n]
end
theorem lva_x2_6(C1:¬(i_2:Int)<(a0.1.length:Int)):
  Leave 0 (exec Tryz.prog (tab n) 0 56 (livesOf 67) big lva_C2) (livesOf 67 (outOf 2)) (lva_h2 a0 a1 i_2) (.exit 0) (lva_o2b a0):=by
 have C1_:¬i_2<a0.1.length:=by omega
 unfold Leave
 simp+decide [lva_h2,loopsOf, Tryz.f67,lva_o2b,lva_C2,C1,C1_]
theorem lva_f1(L1:loopG Tryz.prog (tab n) 0 56 (livesOf 67) 2 lva_C2 (lva_h2 a0 a1 0)=some (.ret,lva_o2a a0)):
  run n 67 [formV a0,.lit (.int .i64 a1)]=some (.lit (.bool false)):=by
 unfold run fnP
 simp+decide [Tryz.f67]
 rw [loopX_G (C':=lva_C2) (e:=(lva_h2 a0 a1 0)) ?_ ?_,L1]
 rotate_left
 ·kernel_rfl
 ·simp+decide [lva_h2]
 simp+decide [lva_o2a]
theorem lva_f2(L1:loopG Tryz.prog (tab n) 0 56 (livesOf 67) 2 lva_C2 (lva_h2 a0 a1 0)=some (.exit 0,lva_o2b a0))(B2a:H a0.2≤17179869184):
  run n 67 [formV a0,.lit (.int .i64 a1)]=some (.lit (.bool true)):=by
 have K2:=r_valid (p:=a0.2) B2a
 unfold run fnP
 simp+decide [Tryz.f67,K2]
 rw [loopX_G (C':=lva_C2) (e:=(lva_h2 a0 a1 0)) ?_ ?_,L1]
 rotate_left
 ·kernel_rfl
 ·simp+decide [lva_h2,K2]
 simp+decide [lva_o2b,K2]
end
end
section
open Go.RowKit
attribute [local irreducible] run runL loopG exec
theorem lvalid_c{n:Nat}{f:Form}{vars:Int}(hB:BdF 17179869184 f):run n 67 [formV f,.lit (.int .i64 vars)]=some (.lit (.bool (tv (OkFm f vars)))):=by
 have hl:=hB.l
 have L:=loopG_all (O:=tab n) (P:= Tryz.prog) (m:=0) (N:=56) (lives:=livesOf 67) (r:=2) (C:=lva_C2) (M:=f.1.length) (enc:=lva_h2 f vars) (p:=fun i=>tv (OkTm f.1 vars i)) (exN:=.exit 0) (exE:=.ret) (out:=lva_o2b f) (outE:=lva_o2a f) (by omega) (by simp) (by simp)
  (fun i hi hI=>by
   have hx:f.1[i]?=some f.1[i]:=List.getElem?_eq_getElem hi
   generalize f.1[i]=t at hx
   obtain ⟨v,c⟩:=t
   have hc:H c≤17179869184:=hB.t _ (List.mem_of_getElem? hx)
   have C1:(i:Int)<(f.1.length:Int):=by omega
   have W:InI ((i:Int)+1):=⟨by omega,by omega⟩
   have W2:InI ((i:Int)-1):=⟨by omega,by omega⟩
   have hs:sgR c=0↔c=0:=sgR_eq_zero
   by_cases h0:0<i
   ·have hy:f.1[i-1]?=some (f.1[i-1]'(by omega)):=List.getElem?_eq_getElem _
    generalize f.1[i-1]'(by omega)=t at hy
    obtain ⟨v',c'⟩:=t
    refine ⟨fun hp=>?_,fun hp=>?_⟩
    ·obtain ⟨a1,a2,a3,a4⟩:=tv_true hp v c hx
     have a5:=a4 v' c' h0 hy
     exact lva_r2_1 C1 hx (by omega) (by omega) (by omega) W2 hy (by omega) (by omega) hc (fun h=>a3 (hs.1 h)) W
    ·by_cases b1:v<0
     ·exact lva_x2_1 C1 hx b1
     ·by_cases b2:vars≤v
      ·exact lva_x2_2 C1 hx b1 b2
      ·by_cases b3:v≤v'
       ·exact lva_x2_3 C1 hx b1 b2 (by omega) W2 hy (by omega) b3
       ·by_cases b4:c=0
        ·exact lva_x2_4 C1 hx b1 b2 (by omega) W2 hy (by omega) b3 hc (hs.2 b4)
        ·refine absurd (fun u d hu=>?_) (tv_false hp)
         rw [hx] at hu;cases hu
         exact ⟨by omega,by omega,b4,fun v2 c2 _ h2=>by rw [hy] at h2;cases h2;omega⟩
   ·refine ⟨fun hp=>?_,fun hp=>?_⟩
    ·obtain ⟨a1,a2,a3,a4⟩:=tv_true hp v c hx
     exact lva_r2_2 C1 hx (by omega) (by omega) (by omega) hc (fun h=>a3 (hs.1 h)) W
    ·by_cases b1:v<0
     ·exact lva_x2_1 C1 hx b1
     ·by_cases b2:vars≤v
      ·exact lva_x2_2 C1 hx b1 b2
      ·by_cases b4:c=0
       ·exact lva_x2_5 C1 hx b1 b2 (by omega) hc (hs.2 b4)
       ·refine absurd (fun u d hu=>?_) (tv_false hp)
        rw [hx] at hu;cases hu
        exact ⟨by omega,by omega,b4,fun v2 c2 h2=>absurd h2 h0⟩)
  (lva_x2_6 (by omega))
 by_cases h:OkFm f vars
 ·rw [if_pos (fun i hi=>tv_t (h i hi))] at L
  rw [tv_t h]
  exact lva_f2 L hB.k
 ·rw [if_neg (fun h2=>h fun i hi=>tv_true (h2 i hi))] at L
  rw [tv_f h]
  exact lva_f1 L
end
section
open Go.RowKit
noncomputable def lco_C2:Code:=(loopsOf (bodyOf Tryz.f45)).getD 0 .skip
def lco_h2(a0:Form)(a1:Int)(i_2:Nat):St:=
 ⟨[(1,.lit (.int .i64 a1)),(4,.ptr 0 0),(8,.sl 4 (a0.1.map termC)),(9,.lit (.int .i64 (a0.1.length:Int))),(10,.lit (.int .i64 (i_2:Int)))],
  [(0,some (.box 26 [.lit (.bool false),.nl 1,.nl 1] false))],1⟩
def lco_o2a(r3:Rat):St:=
 ⟨[(4,.ptr 0 0)],
  [(0,some (.box 26 [.lit (.bool (rawQ r3).s),natA (rawQ r3).l1,natA (rawQ r3).l2] false))],1⟩
def lco_o2b:St:=
 ⟨[(4,.ptr 0 0)],
  [(0,some (.box 26 [.lit (.bool false),.nl 1,.nl 1] false))],1⟩
section
variable {a0 : Form} {a1 : Int} {v3 : Int} {i_2 : Nat} {n : Nat} {q3 : Rat} {r3 : Rat}
theorem lco_r2_1(C1:(i_2:Int)<(a0.1.length:Int))(E2:a0.1[i_2]?=some (v3,q3))(C3:¬v3=a1)(W4:InI ((i_2:Int)+1)):
  Cont 0 (exec Tryz.prog (tab (n+3)) 0 23 (livesOf 45) big lco_C2) (livesOf 45 2) (lco_h2 a0 a1 i_2) (lco_h2 a0 a1 (i_2+1)):=by
 have C1_:i_2<a0.1.length:=by omega
 obtain ⟨EL2,EG2⟩:=List.getElem?_eq_some_iff.1 E2
 have C3_:(v3==a1)=false:=by simpa using C3
 have C3_n:(v3 !=a1)=true:=by simpa using C3
 have W4_:IntKind.i64.wrap ((i_2:Int)+1)=(i_2:Int)+1:=wr64 W4.1 W4.2
 unfold Cont
 simp+decide [lco_h2,loopsOf, Tryz.f45,lco_C2,C1,C1_,EL2,EG2,E2,C3_,C3_n,W4_]
theorem lco_x2_1(C1:(i_2:Int)<(a0.1.length:Int))(E2:a0.1[i_2]?=some (v3,q3))(C3:v3=a1)(K4:run (n+2) 83 [ratV q3]=some (ratV r3)):
  Leave 0 (exec Tryz.prog (tab (n+3)) 0 23 (livesOf 45) big lco_C2) (livesOf 45 (outOf 2)) (lco_h2 a0 a1 i_2) (.ret) (lco_o2a r3):=by
 have C1_:i_2<a0.1.length:=by omega
 obtain ⟨EL2,EG2⟩:=List.getElem?_eq_some_iff.1 E2
 have C3_:(v3==a1)=true:=by rw [C3];simp
 have C3_n:(v3 !=a1)=false:=by rw [C3];simp
 simp only [ratV] at K4
 unfold Leave
 simp+decide [lco_h2,loopsOf, Tryz.f45,lco_o2a,lco_C2,C1,C1_,EL2,EG2,E2,C3_,C3_n,K4]
theorem lco_x2_2(C1:¬(i_2:Int)<(a0.1.length:Int)):
  Leave 0 (exec Tryz.prog (tab (n+3)) 0 23 (livesOf 45) big lco_C2) (livesOf 45 (outOf 2)) (lco_h2 a0 a1 i_2) (.exit 0) (lco_o2b):=by
 have C1_:¬i_2<a0.1.length:=by omega
 unfold Leave
 simp+decide [lco_h2,loopsOf, Tryz.f45,lco_o2b,lco_C2,C1,C1_]
theorem lco_f1(L1:loopG Tryz.prog (tab (n+3)) 0 23 (livesOf 45) 2 lco_C2 (lco_h2 a0 a1 0)=some (.ret,lco_o2a r3)):
  run (n+3) 45 [formV a0,.lit (.int .i64 a1)]=some (ratV r3):=by
 unfold run fnP
 simp+decide [Tryz.f45]
 rw [loopX_G (C':=lco_C2) (e:=(lco_h2 a0 a1 0)) ?_ ?_,L1]
 rotate_left
 ·kernel_rfl
 ·simp+decide [lco_h2]
 simp+decide [lco_o2a]
theorem lco_f2(L1:loopG Tryz.prog (tab (n+3)) 0 23 (livesOf 45) 2 lco_C2 (lco_h2 a0 a1 0)=some (.exit 0,lco_o2b)):
  run (n+3) 45 [formV a0,.lit (.int .i64 a1)]=some (.agg [.lit (.bool false),.sl 1 [],.sl 1 []]):=by
 unfold run fnP
 simp+decide [Tryz.f45]
 rw [loopX_G (C':=lco_C2) (e:=(lco_h2 a0 a1 0)) ?_ ?_,L1]
 rotate_left
 ·kernel_rfl
 ·simp+decide [lco_h2]
 simp+decide [lco_o2b]
end
theorem lcp_f1{n:Nat}{a0:Rat}{r:List Nat}{r2:List Nat}(K1:(oN1 (fun _=>true) fun x=>natA (lmb (val x))) [natA (rawQ a0).l1]=some (natA r))(K2:(oN1 (fun _=>true) fun x=>natA (lmb (val x))) [natA (rawQ a0).l2]=some (natA r2)):
  run (n+2) 83 [ratV a0]=some (.agg [.lit (.bool (rawQ a0).s),natA r,natA r2]):=by
 unfold run fnP
 simp+decide [Tryz.f83,K1,K2]
noncomputable def fco_C2:Code:=(loopsOf (bodyOf Tryz.f22)).getD 0 .skip
def fco_h2(a0:Form)(a1:Int)(i_2:Nat):St:=
 ⟨[(1,.lit (.int .i64 a1)),(2,.ptr 0 0),(4,.ptr 1 0),(5,.lit (.int .i64 (i_2:Int)))],
  [(0,some (.box 28 [.sl 4 (a0.1.map termC),.lit (.bool (rawQ a0.2).s),natA (rawQ a0.2).l1,natA (rawQ a0.2).l2] false)),
   (1,some (.box 26 [.lit (.bool false),.nl 1,.nl 1] false))],2⟩
def fco_o2a(q3:Rat):St:=
 ⟨[(4,.ptr 0 0)],
  [(0,some (.box 26 [.lit (.bool (rawQ q3).s),natA (rawQ q3).l1,natA (rawQ q3).l2] false))],1⟩
def fco_o2b:St:=
 ⟨[(4,.ptr 0 0)],
  [(0,some (.box 26 [.lit (.bool false),.nl 1,.nl 1] false))],1⟩
section
variable {a0 : Form} {a1 : Int} {v3 : Int} {i_2 : Nat} {n : Nat} {q3 : Rat}
theorem fco_r2_1(C1:(i_2:Int)<(a0.1.length:Int))(E2:a0.1[i_2]?=some (v3,q3))(C3:¬v3=a1)(W4:InI ((i_2:Int)+1)):
  Cont 0 (exec Tryz.prog (tab n) 0 28 (livesOf 22) big fco_C2) (livesOf 22 2) (fco_h2 a0 a1 i_2) (fco_h2 a0 a1 (i_2+1)):=by
 have C1_:i_2<a0.1.length:=by omega
 obtain ⟨EL2,EG2⟩:=List.getElem?_eq_some_iff.1 E2
 have C3_:(v3==a1)=false:=by simpa using C3
 have C3_n:(v3 !=a1)=true:=by simpa using C3
 have W4_:IntKind.i64.wrap ((i_2:Int)+1)=(i_2:Int)+1:=wr64 W4.1 W4.2
 unfold Cont
 simp+decide [fco_h2,loopsOf, Tryz.f22,fco_C2,C1,C1_,EL2,EG2,E2,C3_,C3_n,W4_]
theorem fco_x2_1(C1:(i_2:Int)<(a0.1.length:Int))(E2:a0.1[i_2]?=some (v3,q3))(C3:v3=a1):
  Leave 0 (exec Tryz.prog (tab n) 0 28 (livesOf 22) big fco_C2) (livesOf 22 (outOf 2)) (fco_h2 a0 a1 i_2) (.ret) (fco_o2a q3):=by
 have C1_:i_2<a0.1.length:=by omega
 obtain ⟨EL2,EG2⟩:=List.getElem?_eq_some_iff.1 E2
 have C3_:(v3==a1)=true:=by rw [C3];simp
 have C3_n:(v3 !=a1)=false:=by rw [C3];simp
 unfold Leave
 simp+decide [fco_h2,loopsOf, Tryz.f22,fco_o2a,fco_C2,C1,C1_,EL2,EG2,E2,C3_,C3_n]
theorem fco_x2_2(C1:¬(i_2:Int)<(a0.1.length:Int)):
  Leave 0 (exec Tryz.prog (tab n) 0 28 (livesOf 22) big fco_C2) (livesOf 22 (outOf 2)) (fco_h2 a0 a1 i_2) (.exit 0) (fco_o2b):=by
 have C1_:¬i_2<a0.1.length:=by omega
 unfold Leave
 simp+decide [fco_h2,loopsOf, Tryz.f22,fco_o2b,fco_C2,C1,C1_]
theorem fco_f1(L1:loopG Tryz.prog (tab n) 0 28 (livesOf 22) 2 fco_C2 (fco_h2 a0 a1 0)=some (.ret,fco_o2a q3)):
  run n 22 [formV a0,.lit (.int .i64 a1)]=some (ratV q3):=by
 unfold run fnP
 simp+decide [Tryz.f22]
 rw [loopX_G (C':=fco_C2) (e:=(fco_h2 a0 a1 0)) ?_ ?_,L1]
 rotate_left
 ·kernel_rfl
 ·simp+decide [fco_h2]
 simp+decide [fco_o2a]
theorem fco_f2(L1:loopG Tryz.prog (tab n) 0 28 (livesOf 22) 2 fco_C2 (fco_h2 a0 a1 0)=some (.exit 0,fco_o2b)):
  run n 22 [formV a0,.lit (.int .i64 a1)]=some (.agg [.lit (.bool false),.sl 1 [],.sl 1 []]):=by
 unfold run fnP
 simp+decide [Tryz.f22]
 rw [loopX_G (C':=fco_C2) (e:=(fco_h2 a0 a1 0)) ?_ ?_,L1]
 rotate_left
 ·kernel_rfl
 ·simp+decide [fco_h2]
 simp+decide [fco_o2b]
end
end
section
open Go.RowKit
attribute [local irreducible] run runL loopG exec
theorem nat_self{q:Rat}(hq:H q≤17179869184):(oN1 (fun _=>true) fun x=>natA (lmb (val x))) [natA (rawQ q).l1]=some (natA (rawQ q).l1)∧(oN1 (fun _=>true) fun x=>natA (lmb (val x))) [natA (rawQ q).l2]=some (natA (rawQ q).l2):=by
 have hb:=rawB_q hq
 have e1:lmb (val (rawQ q).l1)=(rawQ q).l1:=by unfold rawQ;dsimp only;rw [val_lmb]
 have e2:lmb (val (rawQ q).l2)=(rawQ q).l2:=by
  unfold rawQ dlmb
  dsimp only
  split
  ·decide+kernel
  ·rw [val_lmb]
 have f1:fewN (rawQ q).l1=true:=Nat.ble_eq_true_of_le (by have:=hb.bn;omega)
 have f2:fewN (rawQ q).l2=true:=Nat.ble_eq_true_of_le (by have:=hb.bd;omega)
 constructor
 ·simp only [oN1,decN_nat hb.n,f1,Bool.and_true,if_true,e1]
 ·simp only [oN1,decN_nat hb.d,f2,Bool.and_true,if_true,e2]
theorem lcp_c{n:Nat}{q:Rat}(hq:H q≤17179869184):run (n+2) 83 [ratV q]=some (ratV q):=lcp_f1 (nat_self hq).1 (nat_self hq).2
def cofE(v:Int)(_:Nat)(_:Unit)(t:Int × Rat):Except Rat Unit:=if t.1=v then .error t.2 else .ok ()
theorem cofE_cof{v:Int}:∀{l:List (Int × Rat)} (i:Nat),foldE (cofE v) i () l=(match foldE (cofE v) i () l with|.ok _=>.ok ()|.error _=>.error (cof l v))∧((∃u,foldE (cofE v) i () l=.ok u)→cof l v=0)
 | [],i=>⟨rfl,fun _=>rfl⟩
 | t::l,i=>by
   obtain ⟨h1,h2⟩:=cofE_cof (v:=v) (l:=l) (i+1)
   by_cases e:t.1=v
   ·have e1:cofE v i () t=.error t.2:=if_pos e
    have e2:foldE (cofE v) i () (t::l)=.error t.2:=by rw [foldE,e1]
    rw [e2]
    exact ⟨by rw [cof,if_pos e],fun ⟨u,h⟩=>by cases h⟩
   ·have e1:cofE v i () t=.ok ():=if_neg e
    have e2:foldE (cofE v) i () (t::l)=foldE (cofE v) (i+1) () l:=by rw [foldE,e1]
    have e3:cof (t::l) v=cof l v:=by rw [cof,if_neg e]
    rw [e2,e3]
    exact ⟨h1,h2⟩
theorem lco_c{n:Nat}{f:Form}{v:Int}(hB:BdF 17179869184 f):run (n+3) 45 [formV f,.lit (.int .i64 v)]=some (ratV (cof f.1 v)):=by
 have hl:=hB.l
 have L:=loopG_E (O:=tab (n+3)) (P:= Tryz.prog) (m:=0) (N:=23) (lives:=livesOf 45) (r:=2) (C:=lco_C2) (L:=f.1) (f:=cofE v) (enc:=fun i _=>lco_h2 f v i) (exN:=.exit 0) (exE:=.ret) (out:=fun _=>lco_o2b) (outE:=lco_o2a) (Inv:=fun _ _=>True) () trivial (by omega) (fun h=>by cases h) (fun h=>by cases h)
  (fun i t s hi hI=>by
   obtain ⟨u,c⟩:=t
   have hlt:=(List.getElem?_eq_some_iff.1 hi).1
   unfold cofE
   by_cases e:u=v
   ·rw [if_pos e]
    exact lco_x2_1 (by omega) hi e (lcp_c (hB.t _ (List.mem_of_getElem? hi)))
   ·rw [if_neg e]
    exact ⟨lco_r2_1 (by omega) hi e ⟨by omega,by omega⟩,trivial⟩)
  (fun b hI=>lco_x2_2 (by omega))
 obtain ⟨h1,h2⟩:=cofE_cof (v:=v) (l:=f.1) 0
 have L:=L.1
 cases hE:foldE (cofE v) 0 () f.1 with
 | ok s=>
   rw [hE] at L
   rw [h2 ⟨s,hE⟩]
   have h:=lco_f2 (a1:=v) L
   simpa using h
 | error s=>
   rw [hE] at L h1
   cases h1
   exact lco_f1 L
theorem fco_c{n:Nat}{f:Form}{v:Int}(hl:f.1.length≤100000000):run n 22 [formV f,.lit (.int .i64 v)]=some (ratV (cof f.1 v)):=by
 have L:=loopG_E (O:=tab n) (P:= Tryz.prog) (m:=0) (N:=28) (lives:=livesOf 22) (r:=2) (C:=fco_C2) (L:=f.1) (f:=cofE v) (enc:=fun i _=>fco_h2 f v i) (exN:=.exit 0) (exE:=.ret) (out:=fun _=>fco_o2b) (outE:=fco_o2a) (Inv:=fun _ _=>True) () trivial (by omega) (fun h=>by cases h) (fun h=>by cases h)
  (fun i t s hi hI=>by
   obtain ⟨u,c⟩:=t
   have hlt:=(List.getElem?_eq_some_iff.1 hi).1
   unfold cofE
   by_cases e:u=v
   ·rw [if_pos e]
    exact fco_x2_1 (by omega) hi e
   ·rw [if_neg e]
    exact ⟨fco_r2_1 (by omega) hi e ⟨by omega,by omega⟩,trivial⟩)
  (fun b hI=>fco_x2_2 (by omega))
 obtain ⟨h1,h2⟩:=cofE_cof (v:=v) (l:=f.1) 0
 have L:=L.1
 cases hE:foldE (cofE v) 0 () f.1 with
 | ok s=>
   rw [hE] at L
   rw [h2 ⟨s,hE⟩]
   have h:=fco_f2 (a1:=v) L
   simpa using h
 | error s=>
   rw [hE] at L h1
   cases h1
   exact fco_f1 L
end
end Go.Proofs.YtdaonnnlgfhlaaaGreatDoor
