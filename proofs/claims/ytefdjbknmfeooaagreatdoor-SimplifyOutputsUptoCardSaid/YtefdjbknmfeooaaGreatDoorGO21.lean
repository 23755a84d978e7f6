import Derived.Test.YtefdjbknmfeooaaGreatDoorGO16
import Derived.Test.YtefdjbknmfeooaaGreatDoorGO20
import Derived.Test.YtefdjbknmfeooaaGreatDoorGO17
set_option linter.all false
set_option maxHeartbeats 6400000
set_option maxRecDepth 100000
namespace Go.Proofs.YtefdjbknmfeooaaGreatDoor
open Go.RowKit
noncomputable def ltx_C4:Code:=(loopsOf (bodyOf Tryz.f62)).getD 0 .skip
def ltx_h4(a0:Form)(i_4:Nat):St:=
 ⟨[(1,.ptr 0 0),(3,.ptr 1 0),(4,.clo 88 [.ptr 1 0]),(11,.sl 4 (a0.1.map termC)),(12,.lit (.int .i64 (a0.1.length:Int))),(13,.lit (.int .i64 (i_4:Int)))],
  [(0,some (.box 45 [.sl 4 (a0.1.map termC),.lit (.bool (rawQ a0.2).s),natA (rawQ a0.2).l1,natA (rawQ a0.2).l2] false)),
   (1,some (.box 100 [(.lit (.pointer none)),.nl 1] false))],2⟩
def ltx_o4a(a0:Form):St:=
 ⟨[(1,.ptr 0 0),(3,.ptr 1 0),(4,.clo 88 [.ptr 1 0])],
  [(0,some (.box 45 [.sl 4 (a0.1.map termC),.lit (.bool (rawQ a0.2).s),natA (rawQ a0.2).l1,natA (rawQ a0.2).l2] false)),
   (1,some (.box 100 [(.lit (.pointer none)),.nl 1] false))],2⟩
theorem ltx_x4_1{n:Nat}{a0:Form}{i_4:Nat}(C1:¬(i_4:Int)<(a0.1.length:Int)):
  Leave 0 (exec Tryz.prog (tab (n+7)) 0 55 (livesOf 62) big ltx_C4) (livesOf 62 (outOf 4)) (ltx_h4 a0 i_4) (.exit 0) (ltx_o4a a0):=by
 unfold Leave
 simp+decide [ltx_h4,loopsOf, Tryz.f62,ltx_o4a,ltx_C4,C1]
def ltx_hN(a0:Form)(i_4:Nat)(ab:ByteArray):St:=
 ⟨[(1,.ptr 0 0),(3,.ptr 1 0),(4,.clo 88 [.ptr 1 0]),(11,.sl 4 (a0.1.map termC)),(12,.lit (.int .i64 (a0.1.length:Int))),(13,.lit (.int .i64 (i_4:Int)))],
  [(0,some (.box 45 [.sl 4 (a0.1.map termC),.lit (.bool (rawQ a0.2).s),natA (rawQ a0.2).l1,natA (rawQ a0.2).l2] false)),
   (1,some (.box 100 [.ptr 1 0,.own 2 ab.size] false)),
   (2,some (.row 5 1 (strEls ab) 0))],3⟩
def ltx_oN(a0:Form)(ab:ByteArray):St:=
 ⟨[(1,.ptr 0 0),(3,.ptr 1 0),(4,.clo 88 [.ptr 1 0])],
  [(0,some (.box 45 [.sl 4 (a0.1.map termC),.lit (.bool (rawQ a0.2).s),natA (rawQ a0.2).l1,natA (rawQ a0.2).l2] false)),
   (1,some (.box 100 [.ptr 1 0,.own 2 ab.size] false)),
   (2,some (.row 5 1 (strEls ab) 0))],3⟩
theorem ltE1_1{n:Nat}{rb:ByteArray}{a0:Form}{i_4:Nat}{v3:Int}{q3:Rat}{r5:ByteArray}{cat7:ByteArray}{r6:ByteArray}{cat8:ByteArray}{cat9:ByteArray}(C1:(i_4:Int)<(a0.1.length:Int))(E2:a0.1[i_4]?=some (v3,q3))(K3:(oItoa) [.lit (.int .i64 v3)]=some (.lit (.string r5)))(S4:(⟨#[120]⟩:ByteArray).size+r5.size≤9000000000000000000)(D4:cat7=(⟨#[120]⟩:ByteArray)++r5)(K5:run (n+6) 92 [ratV q3]=some (.lit (.string r6)))(C6:¬r6=(⟨#[49]⟩:ByteArray))(S7:r6.size+(⟨#[42]⟩:ByteArray).size≤9000000000000000000)(D7:cat8=r6++(⟨#[42]⟩:ByteArray))(S8:cat8.size+cat7.size≤9000000000000000000)(D8:cat9=cat8++cat7)(K9:runL (n+6) 88 [.lit (.bool (rawQ q3).s),.lit (.string cat9),.ptr 0 0] [.box 100 [(.lit (.pointer none)),.nl 1] false]=some (.tup [],[(0,.box 100 [.ptr 0 0,.own 1 rb.size] false),(1,.row 5 1 (strEls rb) 0)]))(W10:InI ((i_4:Int)+1)):
  Cont 0 (exec Tryz.prog (tab (n+7)) 0 55 (livesOf 62) big ltx_C4) (livesOf 62 4) (ltx_h4 a0 i_4) (ltx_hN a0 (i_4+1) rb):=by
 obtain ⟨ks0,hks0⟩:∃k:ByteArray,(⟨#[42]⟩:ByteArray)=k:=⟨_,rfl⟩
 rw [hks0] at S7 D7
 have C1_:i_4<a0.1.length:=by omega
 obtain ⟨EL2,EG2⟩:=List.getElem?_eq_some_iff.1 E2
 have S4_q:=cat_q S4 D4
 simp only [ratV] at K5
 have C6_:(r6.toList==(⟨#[49]⟩:ByteArray).toList)=false:=by rw [beq_eq_false_iff_ne];exact fun h=>C6 (ba_inj h)
 have C6_k:(r6.toList==([49]:List UInt8))=false:=by rw [show ([49]:List UInt8)=(⟨#[49]⟩:ByteArray).toList by rw [ba_toList]];exact C6_
 have S7_q:=cat_q S7 D7
 have S8_q:=cat_q S8 D8
 have W10_:IntKind.i64.wrap ((i_4:Int)+1)=(i_4:Int)+1:=wr64 W10.1 W10.2
 unfold Cont
 simp+decide [ltx_h4,ltx_hN,loopsOf, Tryz.f62,ltx_C4,C1,C1_,EG2,K3,S4_q,K5,C6_k,S7_q,S8_q,K9,W10_,hks0]
theorem ltE2_1{n:Nat}{rb:ByteArray}{a0:Form}{i_4:Nat}{v3:Int}{q3:Rat}{r5:ByteArray}{cat7:ByteArray}{r6:ByteArray}{cat8:ByteArray}{cat9:ByteArray}(C1:(i_4:Int)<(a0.1.length:Int))(E2:a0.1[i_4]?=some (v3,q3))(K3:(oItoa) [.lit (.int .i64 v3)]=some (.lit (.string r5)))(S4:(⟨#[120]⟩:ByteArray).size+r5.size≤9000000000000000000)(D4:cat7=(⟨#[120]⟩:ByteArray)++r5)(K5:run (n+6) 92 [ratV q3]=some (.lit (.string r6)))(C6:¬r6=(⟨#[49]⟩:ByteArray))(S7:r6.size+(⟨#[42]⟩:ByteArray).size≤9000000000000000000)(D7:cat8=r6++(⟨#[42]⟩:ByteArray))(S8:cat8.size+cat7.size≤9000000000000000000)(D8:cat9=cat8++cat7)(K9:runL (n+6) 88 [.lit (.bool (rawQ q3).s),.lit (.string cat9),.ptr 0 0] [.box 100 [(.lit (.pointer none)),.nl 1] false]=some (.tup [],[(0,.box 100 [.ptr 0 0,.own 2 rb.size] false),(2,.row 5 1 (strEls rb) 0)]))(W10:InI ((i_4:Int)+1)):
  Cont 0 (exec Tryz.prog (tab (n+7)) 0 55 (livesOf 62) big ltx_C4) (livesOf 62 4) (ltx_h4 a0 i_4) (ltx_hN a0 (i_4+1) rb):=by
 obtain ⟨ks0,hks0⟩:∃k:ByteArray,(⟨#[42]⟩:ByteArray)=k:=⟨_,rfl⟩
 rw [hks0] at S7 D7
 have C1_:i_4<a0.1.length:=by omega
 obtain ⟨EL2,EG2⟩:=List.getElem?_eq_some_iff.1 E2
 have S4_q:=cat_q S4 D4
 simp only [ratV] at K5
 have C6_:(r6.toList==(⟨#[49]⟩:ByteArray).toList)=false:=by rw [beq_eq_false_iff_ne];exact fun h=>C6 (ba_inj h)
 have C6_k:(r6.toList==([49]:List UInt8))=false:=by rw [show ([49]:List UInt8)=(⟨#[49]⟩:ByteArray).toList by rw [ba_toList]];exact C6_
 have S7_q:=cat_q S7 D7
 have S8_q:=cat_q S8 D8
 have W10_:IntKind.i64.wrap ((i_4:Int)+1)=(i_4:Int)+1:=wr64 W10.1 W10.2
 unfold Cont
 simp+decide [ltx_h4,ltx_hN,loopsOf, Tryz.f62,ltx_C4,C1,C1_,EG2,K3,S4_q,K5,C6_k,S7_q,S8_q,K9,W10_,hks0]
theorem ltN_1{n:Nat}{ab rb:ByteArray}{a0:Form}{i_4:Nat}{v3:Int}{q3:Rat}{r5:ByteArray}{cat7:ByteArray}{r6:ByteArray}{cat8:ByteArray}{cat9:ByteArray}(C1:(i_4:Int)<(a0.1.length:Int))(E2:a0.1[i_4]?=some (v3,q3))(K3:(oItoa) [.lit (.int .i64 v3)]=some (.lit (.string r5)))(S4:(⟨#[120]⟩:ByteArray).size+r5.size≤9000000000000000000)(D4:cat7=(⟨#[120]⟩:ByteArray)++r5)(K5:run (n+6) 92 [ratV q3]=some (.lit (.string r6)))(C6:¬r6=(⟨#[49]⟩:ByteArray))(S7:r6.size+(⟨#[42]⟩:ByteArray).size≤9000000000000000000)(D7:cat8=r6++(⟨#[42]⟩:ByteArray))(S8:cat8.size+cat7.size≤9000000000000000000)(D8:cat9=cat8++cat7)(K9:runL (n+6) 88 [.lit (.bool (rawQ q3).s),.lit (.string cat9),.ptr 0 0] [.box 100 [.ptr 0 0,.own 1 ab.size] false,.row 5 1 (strEls ab) 0]=some (.tup [],[(0,.box 100 [.ptr 0 0,.own 3 rb.size] false),(3,.row 5 1 (strEls rb) 0)]))(W10:InI ((i_4:Int)+1)):
  Cont 0 (exec Tryz.prog (tab (n+7)) 0 55 (livesOf 62) big ltx_C4) (livesOf 62 4) (ltx_hN a0 i_4 ab) (ltx_hN a0 (i_4+1) rb):=by
 obtain ⟨ks0,hks0⟩:∃k:ByteArray,(⟨#[42]⟩:ByteArray)=k:=⟨_,rfl⟩
 rw [hks0] at S7 D7
 have C1_:i_4<a0.1.length:=by omega
 obtain ⟨EL2,EG2⟩:=List.getElem?_eq_some_iff.1 E2
 have S4_q:=cat_q S4 D4
 simp only [ratV] at K5
 have C6_:(r6.toList==(⟨#[49]⟩:ByteArray).toList)=false:=by rw [beq_eq_false_iff_ne];exact fun h=>C6 (ba_inj h)
 have C6_k:(r6.toList==([49]:List UInt8))=false:=by rw [show ([49]:List UInt8)=(⟨#[49]⟩:ByteArray).toList by rw [ba_toList]];exact C6_
 have S7_q:=cat_q S7 D7
 have S8_q:=cat_q S8 D8
 have W10_:IntKind.i64.wrap ((i_4:Int)+1)=(i_4:Int)+1:=wr64 W10.1 W10.2
 unfold Cont
 simp+decide [ltx_hN,loopsOf, Tryz.f62,ltx_C4,C1,C1_,EG2,K3,S4_q,K5,C6_k,S7_q,S8_q,K9,W10_,hks0]
theorem ltE1_2{n:Nat}{rb:ByteArray}{a0:Form}{i_4:Nat}{v3:Int}{q3:Rat}{r5:ByteArray}{cat7:ByteArray}{r6:ByteArray}(C1:(i_4:Int)<(a0.1.length:Int))(E2:a0.1[i_4]?=some (v3,q3))(K3:(oItoa) [.lit (.int .i64 v3)]=some (.lit (.string r5)))(S4:(⟨#[120]⟩:ByteArray).size+r5.size≤9000000000000000000)(D4:cat7=(⟨#[120]⟩:ByteArray)++r5)(K5:run (n+6) 92 [ratV q3]=some (.lit (.string r6)))(C6:r6=(⟨#[49]⟩:ByteArray))(K7:runL (n+6) 88 [.lit (.bool (rawQ q3).s),.lit (.string cat7),.ptr 0 0] [.box 100 [(.lit (.pointer none)),.nl 1] false]=some (.tup [],[(0,.box 100 [.ptr 0 0,.own 1 rb.size] false),(1,.row 5 1 (strEls rb) 0)]))(W8:InI ((i_4:Int)+1)):
  Cont 0 (exec Tryz.prog (tab (n+7)) 0 55 (livesOf 62) big ltx_C4) (livesOf 62 4) (ltx_h4 a0 i_4) (ltx_hN a0 (i_4+1) rb):=by
 have C1_:i_4<a0.1.length:=by omega
 obtain ⟨EL2,EG2⟩:=List.getElem?_eq_some_iff.1 E2
 have S4_q:=cat_q S4 D4
 simp only [ratV] at K5
 have C6_:(r6.toList==(⟨#[49]⟩:ByteArray).toList)=true:=by rw [C6];simp
 have C6_k:(r6.toList==([49]:List UInt8))=true:=by rw [show ([49]:List UInt8)=(⟨#[49]⟩:ByteArray).toList by rw [ba_toList]];exact C6_
 have W8_:IntKind.i64.wrap ((i_4:Int)+1)=(i_4:Int)+1:=wr64 W8.1 W8.2
 unfold Cont
 simp+decide [ltx_h4,ltx_hN,loopsOf, Tryz.f62,ltx_C4,C1,C1_,EG2,K3,S4_q,K5,C6_k,K7,W8_]
theorem ltE2_2{n:Nat}{rb:ByteArray}{a0:Form}{i_4:Nat}{v3:Int}{q3:Rat}{r5:ByteArray}{cat7:ByteArray}{r6:ByteArray}(C1:(i_4:Int)<(a0.1.length:Int))(E2:a0.1[i_4]?=some (v3,q3))(K3:(oItoa) [.lit (.int .i64 v3)]=some (.lit (.string r5)))(S4:(⟨#[120]⟩:ByteArray).size+r5.size≤9000000000000000000)(D4:cat7=(⟨#[120]⟩:ByteArray)++r5)(K5:run (n+6) 92 [ratV q3]=some (.lit (.string r6)))(C6:r6=(⟨#[49]⟩:ByteArray))(K7:runL (n+6) 88 [.lit (.bool (rawQ q3).s),.lit (.string cat7),.ptr 0 0] [.box 100 [(.lit (.pointer none)),.nl 1] false]=some (.tup [],[(0,.box 100 [.ptr 0 0,.own 2 rb.size] false),(2,.row 5 1 (strEls rb) 0)]))(W8:InI ((i_4:Int)+1)):
  Cont 0 (exec Tryz.prog (tab (n+7)) 0 55 (livesOf 62) big ltx_C4) (livesOf 62 4) (ltx_h4 a0 i_4) (ltx_hN a0 (i_4+1) rb):=by
 have C1_:i_4<a0.1.length:=by omega
 obtain ⟨EL2,EG2⟩:=List.getElem?_eq_some_iff.1 E2
 have S4_q:=cat_q S4 D4
 simp only [ratV] at K5
 have C6_:(r6.toList==(⟨#[49]⟩:ByteArray).toList)=true:=by rw [C6];simp
 have C6_k:(r6.toList==([49]:List UInt8))=true:=by rw [show ([49]:List UInt8)=(⟨#[49]⟩:ByteArray).toList by rw [ba_toList]];exact C6_
 have W8_:IntKind.i64.wrap ((i_4:Int)+1)=(i_4:Int)+1:=wr64 W8.1 W8.2
 unfold Cont
 simp+decide [ltx_h4,ltx_hN,loopsOf, Tryz.f62,ltx_C4,C1,C1_,EG2,K3,S4_q,K5,C6_k,K7,W8_]
theorem ltN_2{n:Nat}{ab rb:ByteArray}{a0:Form}{i_4:Nat}{v3:Int}{q3:Rat}{r5:ByteArray}{cat7:ByteArray}{r6:ByteArray}(C1:(i_4:Int)<(a0.1.length:Int))(E2:a0.1[i_4]?=some (v3,q3))(K3:(oItoa) [.lit (.int .i64 v3)]=some (.lit (.string r5)))(S4:(⟨#[120]⟩:ByteArray).size+r5.size≤9000000000000000000)(D4:cat7=(⟨#[120]⟩:ByteArray)++r5)(K5:run (n+6) 92 [ratV q3]=some (.lit (.string r6)))(C6:r6=(⟨#[49]⟩:ByteArray))(K7:runL (n+6) 88 [.lit (.bool (rawQ q3).s),.lit (.string cat7),.ptr 0 0] [.box 100 [.ptr 0 0,.own 1 ab.size] false,.row 5 1 (strEls ab) 0]=some (.tup [],[(0,.box 100 [.ptr 0 0,.own 3 rb.size] false),(3,.row 5 1 (strEls rb) 0)]))(W8:InI ((i_4:Int)+1)):
  Cont 0 (exec Tryz.prog (tab (n+7)) 0 55 (livesOf 62) big ltx_C4) (livesOf 62 4) (ltx_hN a0 i_4 ab) (ltx_hN a0 (i_4+1) rb):=by
 have C1_:i_4<a0.1.length:=by omega
 obtain ⟨EL2,EG2⟩:=List.getElem?_eq_some_iff.1 E2
 have S4_q:=cat_q S4 D4
 simp only [ratV] at K5
 have C6_:(r6.toList==(⟨#[49]⟩:ByteArray).toList)=true:=by rw [C6];simp
 have C6_k:(r6.toList==([49]:List UInt8))=true:=by rw [show ([49]:List UInt8)=(⟨#[49]⟩:ByteArray).toList by rw [ba_toList]];exact C6_
 have W8_:IntKind.i64.wrap ((i_4:Int)+1)=(i_4:Int)+1:=wr64 W8.1 W8.2
 unfold Cont
 simp+decide [ltx_hN,loopsOf, Tryz.f62,ltx_C4,C1,C1_,EG2,K3,S4_q,K5,C6_k,K7,W8_]
theorem ltN_x{n:Nat}{ab:ByteArray}{a0:Form}{i_4:Nat}(C1:¬(i_4:Int)<(a0.1.length:Int)):
  Leave 0 (exec Tryz.prog (tab (n+7)) 0 55 (livesOf 62) big ltx_C4) (livesOf 62 (outOf 4)) (ltx_hN a0 i_4 ab) (.exit 0) (ltx_oN a0 ab):=by
 unfold Leave
 simp+decide [ltx_hN,loopsOf, Tryz.f62,ltx_oN,ltx_C4,C1]
theorem ltFE1{n:Nat}{rb:ByteArray}{a0:Form}{r8:ByteArray}{r10:ByteArray}(L1:loopG Tryz.prog (tab (n+7)) 0 55 (livesOf 62) 4 ltx_C4 (ltx_h4 a0 0)=some (.exit 0,ltx_o4a a0))(C2:0<((rawQ a0.2).l1.length:Int))(K3:run (n+6) 92 [ratV a0.2]=some (.lit (.string r8)))(K4:runL (n+6) 88 [.lit (.bool (rawQ a0.2).s),.lit (.string r8),.ptr 0 0] [.box 100 [(.lit (.pointer none)),.nl 1] false]=some (.tup [],[(0,.box 100 [.ptr 0 0,.own 1 rb.size] false),(1,.row 5 1 (strEls rb) 0)]))(K5:runL (n+6) 93 [.ptr 0 0] [.box 100 [.ptr 0 0,.own 1 rb.size] false,.row 5 1 (strEls rb) 0]=some (.lit (.string r10),[(0,.box 100 [.ptr 0 0,.own 1 rb.size] false)])):
  run (n+7) 62 [formV a0]=some (.lit (.string r10)):=by
 have C2_:0<(rawQ a0.2).l1.length:=by omega
 simp only [ratV] at K3
 unfold run fnP
 simp+decide [Tryz.f62]
 rw [loopX_G (C':=ltx_C4) (e:=(ltx_h4 a0 0)) ?_ ?_,L1]
 rotate_left
 ·kernel_rfl
 ·simp+decide [ltx_h4]
 simp+decide [ltx_o4a,C2_,K3,K4,K5]
theorem ltFE2{n:Nat}{rb:ByteArray}{a0:Form}{r8:ByteArray}{r10:ByteArray}(L1:loopG Tryz.prog (tab (n+7)) 0 55 (livesOf 62) 4 ltx_C4 (ltx_h4 a0 0)=some (.exit 0,ltx_o4a a0))(C2:0<((rawQ a0.2).l1.length:Int))(K3:run (n+6) 92 [ratV a0.2]=some (.lit (.string r8)))(K4:runL (n+6) 88 [.lit (.bool (rawQ a0.2).s),.lit (.string r8),.ptr 0 0] [.box 100 [(.lit (.pointer none)),.nl 1] false]=some (.tup [],[(0,.box 100 [.ptr 0 0,.own 2 rb.size] false),(2,.row 5 1 (strEls rb) 0)]))(K5:runL (n+6) 93 [.ptr 0 0] [.box 100 [.ptr 0 0,.own 1 rb.size] false,.row 5 1 (strEls rb) 0]=some (.lit (.string r10),[(0,.box 100 [.ptr 0 0,.own 1 rb.size] false)])):
  run (n+7) 62 [formV a0]=some (.lit (.string r10)):=by
 have C2_:0<(rawQ a0.2).l1.length:=by omega
 simp only [ratV] at K3
 unfold run fnP
 simp+decide [Tryz.f62]
 rw [loopX_G (C':=ltx_C4) (e:=(ltx_h4 a0 0)) ?_ ?_,L1]
 rotate_left
 ·kernel_rfl
 ·simp+decide [ltx_h4]
 simp+decide [ltx_o4a,C2_,K3,K4,K5]
theorem ltFE3{n:Nat}{rb:ByteArray}{a0:Form}{r7:Int}{r9:ByteArray}{r11:ByteArray}(L1:loopG Tryz.prog (tab (n+7)) 0 55 (livesOf 62) 4 ltx_C4 (ltx_h4 a0 0)=some (.exit 0,ltx_o4a a0))(C2:¬0<((rawQ a0.2).l1.length:Int))(K3:runL (n+6) 89 [.ptr 0 0] [.box 100 [(.lit (.pointer none)),.nl 1] false]=some (.lit (.int .i64 r7),[(0,.box 100 [(.lit (.pointer none)),.nl 1] false)]))(C4:r7=0)(K5:run (n+6) 92 [ratV a0.2]=some (.lit (.string r9)))(K6:runL (n+6) 88 [.lit (.bool (rawQ a0.2).s),.lit (.string r9),.ptr 0 0] [.box 100 [(.lit (.pointer none)),.nl 1] false]=some (.tup [],[(0,.box 100 [.ptr 0 0,.own 1 rb.size] false),(1,.row 5 1 (strEls rb) 0)]))(K7:runL (n+6) 93 [.ptr 0 0] [.box 100 [.ptr 0 0,.own 1 rb.size] false,.row 5 1 (strEls rb) 0]=some (.lit (.string r11),[(0,.box 100 [.ptr 0 0,.own 1 rb.size] false)])):
  run (n+7) 62 [formV a0]=some (.lit (.string r11)):=by
 have C2_:¬0<(rawQ a0.2).l1.length:=by omega
 have C4_:(r7==0)=true:=by rw [C4];simp
 simp only [ratV] at K5
 unfold run fnP
 simp+decide [Tryz.f62]
 rw [loopX_G (C':=ltx_C4) (e:=(ltx_h4 a0 0)) ?_ ?_,L1]
 rotate_left
 ·kernel_rfl
 ·simp+decide [ltx_h4]
 simp+decide [ltx_o4a,C2_,K3,C4_,K5,K6,K7]
theorem ltFN1{n:Nat}{ab rb:ByteArray}{a0:Form}{r8:ByteArray}{r10:ByteArray}(L1:loopG Tryz.prog (tab (n+7)) 0 55 (livesOf 62) 4 ltx_C4 (ltx_h4 a0 0)=some (.exit 0,ltx_oN a0 ab))(C2:0<((rawQ a0.2).l1.length:Int))(K3:run (n+6) 92 [ratV a0.2]=some (.lit (.string r8)))(K4:runL (n+6) 88 [.lit (.bool (rawQ a0.2).s),.lit (.string r8),.ptr 0 0] [.box 100 [.ptr 0 0,.own 1 ab.size] false,.row 5 1 (strEls ab) 0]=some (.tup [],[(0,.box 100 [.ptr 0 0,.own 3 rb.size] false),(3,.row 5 1 (strEls rb) 0)]))(K5:runL (n+6) 93 [.ptr 0 0] [.box 100 [.ptr 0 0,.own 1 rb.size] false,.row 5 1 (strEls rb) 0]=some (.lit (.string r10),[(0,.box 100 [.ptr 0 0,.own 1 rb.size] false)])):
  run (n+7) 62 [formV a0]=some (.lit (.string r10)):=by
 have C2_:0<(rawQ a0.2).l1.length:=by omega
 simp only [ratV] at K3
 unfold run fnP
 simp+decide [Tryz.f62]
 rw [loopX_G (C':=ltx_C4) (e:=(ltx_h4 a0 0)) ?_ ?_,L1]
 rotate_left
 ·kernel_rfl
 ·simp+decide [ltx_h4]
 simp+decide [ltx_oN,C2_,K3,K4,K5]
theorem ltFN2{n:Nat}{ab:ByteArray}{a0:Form}{r7:Int}{r12:ByteArray}(L1:loopG Tryz.prog (tab (n+7)) 0 55 (livesOf 62) 4 ltx_C4 (ltx_h4 a0 0)=some (.exit 0,ltx_oN a0 ab))(C2:¬0<((rawQ a0.2).l1.length:Int))(K3:runL (n+6) 89 [.ptr 0 0] [.box 100 [.ptr 0 0,.own 1 ab.size] false,.row 5 1 (strEls ab) 0]=some (.lit (.int .i64 r7),[(0,.box 100 [.ptr 0 0,.own 1 ab.size] false),(1,.row 5 1 (strEls ab) 0)]))(C4:¬r7=0)(K5:runL (n+6) 93 [.ptr 0 0] [.box 100 [.ptr 0 0,.own 1 ab.size] false,.row 5 1 (strEls ab) 0]=some (.lit (.string r12),[(0,.box 100 [.ptr 0 0,.own 1 ab.size] false)])):
  run (n+7) 62 [formV a0]=some (.lit (.string r12)):=by
 have C2_:¬0<(rawQ a0.2).l1.length:=by omega
 have C4_:(r7==0)=false:=by simpa using C4
 unfold run fnP
 simp+decide [Tryz.f62]
 rw [loopX_G (C':=ltx_C4) (e:=(ltx_h4 a0 0)) ?_ ?_,L1]
 rotate_left
 ·kernel_rfl
 ·simp+decide [ltx_h4]
 simp+decide [ltx_oN,C2_,K3,C4_,K5]
theorem blen_0{n:Nat}:runL n 89 [.ptr 0 0] [.box 100 [.lit (.pointer none),.nl 1] false]=some (.lit (.int .i64 0),[(0,.box 100 [.lit (.pointer none),.nl 1] false)]):=by
 unfold runL fnL
 simp+decide [Tryz.f89]
theorem blen_1{n:Nat}{k:Nat}{es:List (List AV)}:runL n 89 [.ptr 0 0] [.box 100 [.ptr 0 0,.own 1 k] false,.row 5 1 es 0]=some (.lit (.int .i64 k),[(0,.box 100 [.ptr 0 0,.own 1 k] false),(1,.row 5 1 es 0)]):=by
 unfold runL fnL
 simp+decide [Tryz.f89]
theorem bws_0{n:Nat}{s:ByteArray}(h:roomy s.size 1=true):runL (n+1) 90 [.ptr 0 0,.lit (.string s)] [.box 100 [.lit (.pointer none),.nl 1] false]=some (.tup [.lit (.int .i64 s.size),.lit .nilIface],[(0,.box 100 [.ptr 0 0,.own 1 s.size] false),(1,.row 5 1 (strEls s) 0)]):=by
 unfold runL fnL
 simp+decide [Tryz.f90,ccG,isSelf,enumB,apS,isNil,h]
theorem bws_1{n:Nat}{a s:ByteArray}(h:roomy (a.size+s.size) 1=true):runL (n+1) 90 [.ptr 0 0,.lit (.string s)] [.box 100 [.ptr 0 0,.own 1 a.size] false,.row 5 1 (strEls a) 0]=some (.tup [.lit (.int .i64 s.size),.lit .nilIface],[(0,.box 100 [.ptr 0 0,.own 2 (a.size+s.size)] false),(2,.row 5 1 (strEls (a++s)) 0)]):=by
 unfold runL fnL
 simp+decide [Tryz.f90,ccG,isSelf,enumB,apS,isNil,h]
theorem bstr_1{n:Nat}{a:ByteArray}(h0:0<a.size)(h:(a.size:Int)≤9223372036854775807):runL n 93 [.ptr 0 0] [.box 100 [.ptr 0 0,.own 1 a.size] false,.row 5 1 (strEls a) 0]=some (.lit (.string a),[(0,.box 100 [.ptr 0 0,.own 1 a.size] false)]):=by
 unfold runL fnL
 simp+decide [Tryz.f93,usdT,usT,h0,h]
theorem bpart_0{n:Nat}{s:ByteArray}(h:roomy s.size 1=true):runL (n+2) 88 [.lit (.bool false),.lit (.string s),.ptr 0 0] [.box 100 [.lit (.pointer none),.nl 1] false]=some (.tup [],[(0,.box 100 [.ptr 0 0,.own 1 s.size] false),(1,.row 5 1 (strEls s) 0)]):=by
 have K:=bws_0 (n:=n) h
 unfold runL fnL
 simp+decide [Tryz.f88,blen_0,K]
theorem bpart_1{n:Nat}{s:ByteArray}(h0:roomy 1 1=true)(h:roomy (1+s.size) 1=true):runL (n+2) 88 [.lit (.bool true),.lit (.string s),.ptr 0 0] [.box 100 [.lit (.pointer none),.nl 1] false]=some (.tup [],[(0,.box 100 [.ptr 0 0,.own 2 (1+s.size)] false),(2,.row 5 1 (strEls ((⟨#[45]⟩:ByteArray)++s)) 0)]):=by
 have K1:=bws_0 (n:=n) (s:=(⟨#[45]⟩:ByteArray)) h0
 have K2:=bws_1 (n:=n) (a:=(⟨#[45]⟩:ByteArray)) (s:=s) h
 unfold runL fnL
 simp+decide [Tryz.f88,blen_0,K1,K2]
theorem bpart_2{n:Nat}{a s:ByteArray}(ha:0<a.size)(h0:roomy (a.size+3) 1=true)(h:roomy (a.size+3+s.size) 1=true):runL (n+2) 88 [.lit (.bool false),.lit (.string s),.ptr 0 0] [.box 100 [.ptr 0 0,.own 1 a.size] false,.row 5 1 (strEls a) 0]=some (.tup [],[(0,.box 100 [.ptr 0 0,.own 3 (a.size+3+s.size)] false),(3,.row 5 1 (strEls (a++(⟨#[32,43,32]⟩:ByteArray)++s)) 0)]):=by
 have K1:=bws_1 (n:=n) (a:=a) (s:=(⟨#[32,43,32]⟩:ByteArray)) h0
 have K2:=bws_1 (n:=n) (a:=a++(⟨#[32,43,32]⟩:ByteArray)) (s:=s) (by rw [ByteArray.size_append];exact h)
 rw [ByteArray.size_append] at K2
 have e1:((a.size:Int)==0)=false:=by rw [beq_eq_false_iff_ne];omega
 unfold runL fnL
 simp+decide [Tryz.f88,blen_1,K1,K2,e1,ha]
theorem bpart_3{n:Nat}{a s:ByteArray}(ha:0<a.size)(h0:roomy (a.size+3) 1=true)(h:roomy (a.size+3+s.size) 1=true):runL (n+2) 88 [.lit (.bool true),.lit (.string s),.ptr 0 0] [.box 100 [.ptr 0 0,.own 1 a.size] false,.row 5 1 (strEls a) 0]=some (.tup [],[(0,.box 100 [.ptr 0 0,.own 3 (a.size+3+s.size)] false),(3,.row 5 1 (strEls (a++(⟨#[32,45,32]⟩:ByteArray)++s)) 0)]):=by
 have K1:=bws_1 (n:=n) (a:=a) (s:=(⟨#[32,45,32]⟩:ByteArray)) h0
 have K2:=bws_1 (n:=n) (a:=a++(⟨#[32,45,32]⟩:ByteArray)) (s:=s) (by rw [ByteArray.size_append];exact h)
 rw [ByteArray.size_append] at K2
 have e1:((a.size:Int)==0)=false:=by rw [beq_eq_false_iff_ne];omega
 unfold runL fnL
 simp+decide [Tryz.f88,blen_1,K1,K2,e1,ha]
section
open Lib (decDigits)
attribute [local irreducible] run runL loopG exec
def prt(t:Int × Rat):List UInt8:=(if absT t.2=[49] then [] else absT t.2++[42])++120::decDigits t.1.toNat
def ngT(q:Rat):Bool:=(rawQ q).s
def txS(a:List UInt8)(t:Int × Rat):List UInt8:=jn a (ngT t.2) (prt t)
def txL(l:List (Int × Rat)):List UInt8:=l.foldl txS []
def txt(f:Form):List UInt8:=if f.2≠0∨txL f.1=[] then jn (txL f.1) (ngT f.2) (absT f.2) else txL f.1
theorem jn_ne{a p:List UInt8}{neg:Bool}(h:p≠[]):jn a neg p≠[]:=by
 unfold jn
 split
 ·split
  ·simp
  ·exact h
 ·intro e
  have e2:=(List.append_eq_nil_iff.1 e).1
  contradiction
theorem prt_ne(t:Int × Rat):prt t≠[]:=fun e=>by
 have:=(List.append_eq_nil_iff.1 e).2
 cases this
theorem absT_ne(q:Rat):absT q≠[]:=fun e=>dd_ne _ (List.append_eq_nil_iff.1 e).1
theorem txL_snoc(l:List (Int × Rat))(t:Int × Rat):txL (l++[t])=txS (txL l) t:=by
 unfold txL
 rw [List.foldl_append]
 rfl
structure TxB (f:Form):Prop where
 l:f.1.length≤100
 t:∀t∈f.1,H t.2≤10000∧0≤t.1∧t.1<9223372036854775808
 k:H f.2≤10000
theorem dd_small{K m:Nat}(h:(lmb K).length≤m):(decDigits K).length≤32*m+1:=by
 have hb:K<2 ^ (32*(lmb K).length):=by
  have:=val_lt (lim_lmb K)
  rw [val_lmb] at this
  rwa [Nat.pow_mul]
 have:=dd_bits _ K hb
 omega
theorem absT_len2{q:Rat}(h:H q≤10000):(absT q).length≤640100:=by
 have a1:(lmb q.num.natAbs).length≤H q:=Nat.le_max_left _ _
 have a2:(lmb q.den).length≤H q:=Nat.le_max_right _ _
 have h1:=dd_small (K:=q.num.natAbs) (m:=10000) (by omega)
 have h2:=dd_small (K:=q.den) (m:=10000) (by omega)
 unfold absT
 rw [List.length_append]
 split
 ·simp;omega
 ·simp;omega
theorem prt_len{t:Int × Rat}(h:H t.2≤10000)(h0:0≤t.1)(h1:t.1<9223372036854775808):(prt t).length≤640300:=by
 have a1:=absT_len2 h
 have a2:(lmb t.1.toNat).length≤2:=lmb_len_le (by omega)
 have a3:=dd_small a2
 unfold prt
 rw [List.length_append,List.length_cons]
 split
 ·simp;omega
 ·rw [List.length_append];simp;omega
theorem txS_len{a:List UInt8}{t:Int × Rat}(h:H t.2≤10000∧0≤t.1∧t.1<9223372036854775808):(txS a t).length≤a.length+640303:=by
 have:=jn_len a (ngT t.2) (prt t)
 have:=prt_len h.1 h.2.1 h.2.2
 unfold txS
 omega
theorem txL_len:∀{l:List (Int × Rat)} {a:List UInt8},(∀t∈l,H t.2≤10000∧0≤t.1∧t.1<9223372036854775808)→(l.foldl txS a).length≤a.length+l.length*640303
 | [],a,_=>by simp
 | t::l,a,h=>by
   have h1:=txS_len (a:=a) (h t (by simp))
   have h2:=txL_len (l:=l) (a:=txS a t) (fun u hu=>h u (by simp [hu]))
   rw [List.foldl_cons,List.length_cons,Nat.add_mul]
   omega
theorem jn_e0(p:List UInt8):jn [] false p=p:=by simp [jn]
theorem jn_e1(p:List UInt8):jn [] true p=45::p:=by simp [jn]
theorem jn_n0{a:List UInt8}(h:a≠[])(p:List UInt8):jn a false p=a++[32,43,32]++p:=by simp [jn,h]
theorem jn_n1{a:List UInt8}(h:a≠[])(p:List UInt8):jn a true p=a++[32,45,32]++p:=by simp [jn,h]
section
variable {n : Nat}
theorem partE0{neg:Bool}{p:List UInt8}(hs:neg=false)(hp:p.length≤90000000):runL (n+6) 88 [.lit (.bool neg),.lit (.string (bs p)),.ptr 0 0] [.box 100 [.lit (.pointer none),.nl 1] false]=some (.tup [],[(0,.box 100 [.ptr 0 0,.own 1 (bs (jn [] neg p)).size] false),(1,.row 5 1 (strEls (bs (jn [] neg p))) 0)]):=by
 subst hs
 rw [jn_e0]
 exact bpart_0 (n:=n+4) (roomy_s (by rw [bs_size];omega) (by omega))
theorem partE1{neg:Bool}{p:List UInt8}(hs:neg=true)(hp:p.length≤90000000):runL (n+6) 88 [.lit (.bool neg),.lit (.string (bs p)),.ptr 0 0] [.box 100 [.lit (.pointer none),.nl 1] false]=some (.tup [],[(0,.box 100 [.ptr 0 0,.own 2 (bs (jn [] neg p)).size] false),(2,.row 5 1 (strEls (bs (jn [] neg p))) 0)]):=by
 subst hs
 have h:=bpart_1 (n:=n+4) (s:=bs p) (roomy_s (by omega) (by omega)) (roomy_s (by rw [bs_size];omega) (by omega))
 have h1:(⟨#[45]⟩:ByteArray)++bs p=bs (45::p):=bs_app [45] p
 have h2:1+(bs p).size=(bs (45::p)).size:=by rw [bs_size,bs_size,List.length_cons];omega
 rw [h1,h2] at h
 rw [jn_e1]
 exact h
theorem partN{a p:List UInt8}{neg:Bool}(ha:a≠[])(hp:a.length+p.length≤90000000):runL (n+6) 88 [.lit (.bool neg),.lit (.string (bs p)),.ptr 0 0] [.box 100 [.ptr 0 0,.own 1 (bs a).size] false,.row 5 1 (strEls (bs a)) 0]=some (.tup [],[(0,.box 100 [.ptr 0 0,.own 3 (bs (jn a neg p)).size] false),(3,.row 5 1 (strEls (bs (jn a neg p))) 0)]):=by
 have hs:0<(bs a).size:=by rw [bs_size];exact List.length_pos_iff.2 ha
 have c2:(⟨#[32,45,32]⟩:ByteArray)=bs [32,45,32]:=rfl
 have c3:(⟨#[32,43,32]⟩:ByteArray)=bs [32,43,32]:=rfl
 cases neg with
 | false=>
   have h:=bpart_2 (n:=n+4) (a:=bs a) (s:=bs p) hs (roomy_s (by rw [bs_size];omega) (by omega)) (roomy_s (by rw [bs_size,bs_size];omega) (by omega))
   have h2:(bs a).size+3+(bs p).size=(bs (a++[32,43,32]++p)).size:=by rw [bs_size,bs_size,bs_size,List.length_append,List.length_append];rfl
   rw [c3,bs_app,bs_app,h2] at h
   rw [jn_n0 ha]
   exact h
 | true=>
   have h:=bpart_3 (n:=n+4) (a:=bs a) (s:=bs p) hs (roomy_s (by rw [bs_size];omega) (by omega)) (roomy_s (by rw [bs_size,bs_size];omega) (by omega))
   have h2:(bs a).size+3+(bs p).size=(bs (a++[32,45,32]++p)).size:=by rw [bs_size,bs_size,bs_size,List.length_append,List.length_append];rfl
   rw [c2,bs_app,bs_app,h2] at h
   rw [jn_n1 ha]
   exact h
theorem bstr_c{a:List UInt8}(ha:a≠[])(hl:a.length≤90000000):runL (n+6) 93 [.ptr 0 0] [.box 100 [.ptr 0 0,.own 1 (bs a).size] false,.row 5 1 (strEls (bs a)) 0]=some (.lit (.string (bs a)),[(0,.box 100 [.ptr 0 0,.own 1 (bs a).size] false)]):=
 bstr_1 (n:=n+6) (by rw [bs_size];exact List.length_pos_iff.2 ha) (by rw [bs_size];omega)
theorem k_itoa{v:Int}(h0:0≤v)(h1:v<9223372036854775808):oItoa [.lit (.int .i64 v)]=some (.lit (.string (bs (decDigits v.toNat)))):=by
 simp only [oItoa]
 rw [if_pos ⟨by omega,by omega⟩]
 have e:Lib.itoa v=decDigits v.toNat:=by
  unfold Lib.itoa
  rw [if_neg (by omega)]
 rw [e]
 rfl
theorem prt_bs{t:Int × Rat}:(absT t.2=[49]→bs (prt t)=(⟨#[120]⟩:ByteArray)++bs (decDigits t.1.toNat))∧(absT t.2≠[49]→bs (prt t)=(bs (absT t.2)++(⟨#[42]⟩:ByteArray))++((⟨#[120]⟩:ByteArray)++bs (decDigits t.1.toNat))):=by
 have c1:(⟨#[120]⟩:ByteArray)=bs [120]:=rfl
 have c2:(⟨#[42]⟩:ByteArray)=bs [42]:=rfl
 unfold prt
 refine ⟨fun h=>?_,fun h=>?_⟩
 ·rw [if_pos h,c1,bs_app];rfl
 ·rw [if_neg h,c1,c2,bs_app,bs_app,bs_app];rfl
theorem ltx_c{f:Form}(hf:TxB f):run (n+7) 62 [formV f]=some (.lit (.string (bs (txt f)))):=by
 have hl:=hf.l
 have hT:∀i,i≤f.1.length→(txL (f.1.take i)).length≤i*640303:=fun i hi=>by
  have h:=txL_len (l:=f.1.take i) (a:=[]) (fun t ht=>hf.t t (List.mem_of_mem_take ht))
  rw [List.length_take] at h
  simp only [List.length_nil,Nat.zero_add] at h
  have:min i f.1.length*640303=i*640303:=by rw [Nat.min_eq_left hi]
  unfold txL
  exact Nat.le_trans h (Nat.le_of_eq this)
 obtain ⟨b,hL,hI1,hI2⟩:=loopG_R (O:=tab (n+7)) (P:= Tryz.prog) (m:=0) (N:=55) (lives:=livesOf 62) (r:=4) (C:=ltx_C4) (exN:=.exit 0) (M:=f.1.length)
  (enc:=fun i (b:List UInt8)=>if b=[] then ltx_h4 f i else ltx_hN f i (bs b)) (out:=fun b=>if b=[] then ltx_o4a f else ltx_oN f (bs b))
  (fun i b=>b=txL (f.1.take i)∧i≤f.1.length) [] ⟨rfl,Nat.zero_le _⟩ (by omega) (fun h=>by cases h)
  (fun i b hi hI=>by
   obtain ⟨hb,hle⟩:=hI
   have hx:f.1[i]?=some f.1[i]:=List.getElem?_eq_getElem hi
   obtain ⟨t,ht⟩:∃t,f.1[i]=t:=⟨_,rfl⟩
   rw [ht] at hx
   have htk:f.1.take (i+1)=f.1.take i++[t]:=by rw [List.take_add_one,hx];rfl
   obtain ⟨v,q⟩:=t
   obtain ⟨hq,hv0,hv1⟩:=hf.t _ (List.mem_of_getElem? hx)
   dsimp only at hq hv0 hv1
   have hbl:=hT i hle
   rw [←hb] at hbl
   have hi6:i*640303≤64030300:=Nat.mul_le_mul_right 640303 (show i≤100 by omega)
   have hpl:=prt_len (t:=(v,q)) hq hv0 hv1
   have hal:=absT_len2 hq
   have hdl:=dd_small (K:=v.toNat) (m:=2) (lmb_len_le (by omega))
   have K3:=k_itoa hv0 hv1
   have K5:=lsz_c (n:=n) (q:=q) (by omega)
   have C1:(i:Int)<(f.1.length:Int):=by omega
   have W:InI ((i:Int)+1):=⟨by omega,by omega⟩
   have e1:(⟨#[120]⟩:ByteArray).size=1:=rfl
   have e2:(⟨#[42]⟩:ByteArray).size=1:=rfl
   have c1:(⟨#[49]⟩:ByteArray)=bs [49]:=rfl
   have S4:(⟨#[120]⟩:ByteArray).size+(bs (decDigits v.toNat)).size≤9000000000000000000:=by rw [e1,bs_size];omega
   have S7:(bs (absT q)).size+(⟨#[42]⟩:ByteArray).size≤9000000000000000000:=by rw [e2,bs_size];omega
   have c4:(⟨#[120]⟩:ByteArray)++bs (decDigits v.toNat)=bs (120::decDigits v.toNat):=bs_app [120] _
   have c5:bs (absT q)++(⟨#[42]⟩:ByteArray)=bs (absT q++[42]):=bs_app _ [42]
   have S8:(bs (absT q)++(⟨#[42]⟩:ByteArray)).size+((⟨#[120]⟩:ByteArray)++bs (decDigits v.toNat)).size≤9000000000000000000:=by
    rw [c4,c5,bs_size,bs_size,List.length_append,List.length_cons];simp;omega
   have hne:jn b (rawQ q).s (prt (v,q))≠[]:=jn_ne (prt_ne _)
   refine ⟨jn b (rawQ q).s (prt (v,q)),?_,by rw [htk,txL_snoc,←hb];rfl,hi⟩
   rw [if_neg hne]
   by_cases h0:b=[]
   ·subst h0
    rw [if_pos rfl]
    rcases (Bool.eq_false_or_eq_true (rawQ q).s).symm with hs|hs
    ·have P0:=partE0 (n:=n) (p:=prt (v,q)) hs (by omega)
     by_cases h1:absT q=[49]
     ·have e:=prt_bs (t:=(v,q)).1 h1
      exact ltE1_2 C1 hx K3 S4 e K5 (by rw [h1];rfl) P0 W
     ·have e:=prt_bs (t:=(v,q)).2 h1
      exact ltE1_1 C1 hx K3 S4 rfl K5 (fun h=>h1 (bs_inj (h.trans c1))) S7 rfl S8 e P0 W
    ·have P0:=partE1 (n:=n) (p:=prt (v,q)) hs (by omega)
     by_cases h1:absT q=[49]
     ·have e:=prt_bs (t:=(v,q)).1 h1
      exact ltE2_2 C1 hx K3 S4 e K5 (by rw [h1];rfl) P0 W
     ·have e:=prt_bs (t:=(v,q)).2 h1
      exact ltE2_1 C1 hx K3 S4 rfl K5 (fun h=>h1 (bs_inj (h.trans c1))) S7 rfl S8 e P0 W
   ·rw [if_neg h0]
    have P0:=partN (n:=n) (a:=b) (p:=prt (v,q)) (neg:=(rawQ q).s) h0 (by omega)
    by_cases h1:absT q=[49]
    ·have e:=prt_bs (t:=(v,q)).1 h1
     exact ltN_2 C1 hx K3 S4 e K5 (by rw [h1];rfl) P0 W
    ·have e:=prt_bs (t:=(v,q)).2 h1
     exact ltN_1 C1 hx K3 S4 rfl K5 (fun h=>h1 (bs_inj (h.trans c1))) S7 rfl S8 e P0 W)
  (fun b hI=>by
   by_cases h0:b=[]
   ·rw [if_pos h0,if_pos h0];exact ltx_x4_1 (by omega)
   ·rw [if_neg h0,if_neg h0];exact ltN_x (by omega))
 rw [List.take_length] at hI1
 rw [if_pos rfl] at hL
 have hbl:=hT f.1.length (Nat.le_refl _)
 rw [List.take_length,←hI1] at hbl
 have hi6:f.1.length*640303≤64030300:=Nat.mul_le_mul_right 640303 hl
 have hkl:=absT_len2 hf.k
 have K3:=lsz_c (n:=n) (q:=f.2) (by have:=hf.k;omega)
 have hn0:(0<((rawQ f.2).l1.length:Int))↔f.2≠0:=by
  have h9:(rawQ f.2).l1=lmb f.2.num.natAbs:=rfl
  rw [h9]
  constructor
  ·intro h e
   rw [e] at h
   simp [lmb_zero] at h
  ·intro h
   have:0<f.2.num.natAbs:=by
    rcases Nat.eq_zero_or_pos f.2.num.natAbs with h1|h1
    ·exact absurd (Rat.num_eq_zero.1 (Int.natAbs_eq_zero.1 h1)) h
    ·exact h1
   rw [lmb_pos this]
   simp
 unfold txt ngT
 rw [←hI1]
 have hne:jn b (rawQ f.2).s (absT f.2)≠[]:=jn_ne (absT_ne _)
 have hjl:=jn_len b (rawQ f.2).s (absT f.2)
 have Z:=bstr_c (n:=n) hne (by omega)
 by_cases h0:b=[]
 ·rw [if_pos (.inr h0)]
  subst h0
  rw [if_pos rfl] at hL
  by_cases h2:f.2=0
  ·have hs:(rawQ f.2).s=false:=by rw [h2];decide+kernel
   have P0:=partE0 (n:=n) (p:=absT f.2) hs (by omega)
   exact ltFE3 hL (fun h=>hn0.1 h h2) (blen_0 (n:=n+6)) rfl K3 P0 Z
  ·rcases (Bool.eq_false_or_eq_true (rawQ f.2).s).symm with hs|hs
   ·have P0:=partE0 (n:=n) (p:=absT f.2) hs (by omega)
    exact ltFE1 hL (hn0.2 h2) K3 P0 Z
   ·have P0:=partE1 (n:=n) (p:=absT f.2) hs (by omega)
    exact ltFE2 hL (hn0.2 h2) K3 P0 Z
 ·rw [if_neg h0] at hL
  by_cases h2:f.2=0
  ·rw [if_neg (fun h=>h.elim (fun h=>h h2) h0)]
   have L0:=blen_1 (n:=n+6) (k:=(bs b).size) (es:=strEls (bs b))
   exact ltFN2 hL (fun h=>hn0.1 h h2) L0 (by rw [bs_size];have:=List.length_pos_iff.2 h0;omega) (bstr_c (n:=n) h0 (by omega))
  ·rw [if_pos (.inl h2)]
   exact ltFN1 hL (hn0.2 h2) K3 (partN (n:=n) h0 (by omega)) Z
end
end
section
open Lib (decDigits)
def isD(c:UInt8):Bool:=decide (48≤c.toNat∧c.toNat≤57)
def dgV(D:List UInt8)(n:Nat):Nat:=D.foldl (fun n c=>n*10+(c.toNat-48)) n
theorem dig_nat{k:Nat}(h:k<10):(dig k).toNat=48+k:=by
 unfold dig
 rw [UInt8.toNat_ofNat']
 omega
theorem dig_d{k:Nat}(h:k<10):isD (dig k)=true:=by
 unfold isD
 rw [dig_nat h]
 simp;omega
theorem dd_d:∀(m u:Nat),u≤m→(∀c∈decDigits u,isD c=true)∧dgV (decDigits u) 0=u∧(0<u→∃c r,decDigits u=c::r∧c≠48)
 | m,u,hm=>by
   by_cases h:u<10
   ·rw [dd_lt h]
    refine ⟨fun c hc=>by rw [List.mem_singleton.1 hc];exact dig_d h,?_,fun h0=>⟨dig u,[],rfl,fun e=>?_⟩⟩
    ·show 0*10+((dig u).toNat-48)=u
     rw [dig_nat h];omega
    ·have:=dig_nat h
     rw [e] at this
     have e2:(48:UInt8).toNat=48:=rfl
     omega
   ·cases m with
    | zero=>omega
    | succ m=>
      obtain ⟨a1,a2,a3⟩:=dd_d m (u / 10) (by omega)
      obtain ⟨c,r,e,hc⟩:=a3 (by omega)
      rw [dd_ge h]
      have hr:u % 10<10:=Nat.mod_lt _ (by omega)
      refine ⟨fun c hc=>?_,?_,fun _=>⟨c,r++[dig (u % 10)],by rw [e];rfl,hc⟩⟩
      ·rcases List.mem_append.1 hc with h1|h1
       ·exact a1 c h1
       ·rw [List.mem_singleton.1 h1];exact dig_d hr
      ·unfold dgV at a2 ⊢
       rw [List.foldl_append,a2]
       show u / 10*10+((dig (u % 10)).toNat-48)=u
       rw [dig_nat hr];omega
structure NB (q:Rat):Prop where
 n:(decDigits q.num.natAbs).length≤200
 d:(decDigits q.den).length≤200
def tlT(c:Rat):List (Int × Rat)→List UInt8
 | []=>if c≠0 then (if ngT c=true then [32,45,32] else [32,43,32])++absT c else []
 | t::l=>((if ngT t.2=true then [32,45,32] else [32,43,32])++prt t)++tlT c l
structure TmN (t:Int × Rat):Prop where
 q:NB t.2
 v0:0≤t.1
 v:(decDigits t.1.toNat).length≤9
theorem txL_tl(c:Rat):∀(l:List (Int × Rat)) (a:List UInt8),a≠[]→(if c≠0∨l.foldl txS a=[] then jn (l.foldl txS a) (ngT c) (absT c) else l.foldl txS a)=a++tlT c l
 | [],a,h=>by
   rw [List.foldl_nil]
   unfold tlT jn
   rw [if_neg h]
   by_cases hc:c=0
   ·rw [if_neg (by intro e;rcases e with e|e;exact e hc;exact h e),if_neg (fun e=>e hc),List.append_nil]
   ·rw [if_pos (.inl hc),if_pos hc]
 | t::l,a,h=>by
   rw [List.foldl_cons,txL_tl c l (txS a t) (jn_ne (prt_ne t))]
   show txS a t++tlT c l=a++(((if ngT t.2=true then [32,45,32] else [32,43,32])++prt t)++tlT c l)
   unfold txS jn
   rw [if_neg h,List.append_assoc]
def Beg(c:UInt8)(T:List UInt8):Prop:=T=[]∨∃r,T=c::r
theorem span_eq{c:UInt8}:∀{A A' T T':List UInt8},c ∉ A→c ∉ A'→Beg c T→Beg c T'→A++T=A'++T'→A=A'∧T=T'
 | [],[],T,T',_,_,_,_,h=>⟨rfl,h⟩
 | [],a::A',T,T',_,h2,h3,_,h=>by
   rcases h3 with rfl|⟨r,rfl⟩
   ·cases h
   ·rw [List.nil_append,List.cons_append,List.cons.injEq] at h
    exact absurd (h.1▸List.mem_cons_self) h2
 | a::A,[],T,T',h1,_,_,h4,h=>by
   rcases h4 with rfl|⟨r,rfl⟩
   ·cases h
   ·rw [List.nil_append,List.cons_append,List.cons.injEq] at h
    exact absurd (h.1▸List.mem_cons_self) h1
 | a::A,b::A',T,T',h1,h2,h3,h4,h=>by
   rw [List.cons_append,List.cons_append,List.cons.injEq] at h
   obtain ⟨rfl,h⟩:=h
   obtain ⟨rfl,e⟩:=span_eq (fun x=>h1 (List.mem_cons_of_mem _ x)) (fun x=>h2 (List.mem_cons_of_mem _ x)) h3 h4 h
   exact ⟨rfl,e⟩
theorem dd_no{k:Nat}{c:UInt8}(hc:isD c=false):c ∉ decDigits k:=fun h=>by
 have:=(dd_d k k (Nat.le_refl _)).1 c h
 rw [hc] at this
 cases this
theorem dd_eq{u v:Nat}(h:decDigits u=decDigits v):u=v:=by
 have a:=(dd_d u u (Nat.le_refl _)).2.1
 have b:=(dd_d v v (Nat.le_refl _)).2.1
 rw [h,b] at a
 exact a.symm
theorem abs_no{q:Rat}{c:UInt8}(hc:isD c=false)(h47:c≠47):c ∉ absT q:=fun h=>by
 unfold absT at h
 rcases List.mem_append.1 h with h|h
 ·exact dd_no hc h
 ·split at h
  ·cases h
  ·rcases List.mem_cons.1 h with h|h
   ·exact h47 h
   ·exact dd_no hc h
theorem abs_inj{q r:Rat}(hs:ngT q=ngT r)(h:absT q=absT r):q=r:=by
 unfold absT at h
 have b:∀q:Rat,Beg 47 (if q.den=1 then [] else 47::decDigits q.den):=fun q=>by
  split
  ·exact .inl rfl
  ·exact .inr ⟨_,rfl⟩
 obtain ⟨h1,h2⟩:=span_eq (dd_no (by decide)) (dd_no (by decide)) (b q) (b r) h
 have e1:=dd_eq h1
 have e2:q.den=r.den:=by
  by_cases a:q.den=1 <;>by_cases c:r.den=1
  ·rw [a,c]
  ·rw [if_pos a,if_neg c] at h2;cases h2
  ·rw [if_neg a,if_pos c] at h2;cases h2
  ·rw [if_neg a,if_neg c,List.cons.injEq] at h2;exact dd_eq h2.2
 have e3:(q.num<0)↔(r.num<0):=by
  have:decide (q.num<0)=decide (r.num<0):=hs
  exact decide_eq_decide.1 this
 exact Rat.ext (by omega) e2
theorem prt_no{t:Int × Rat}{c:UInt8}(hc:isD c=false)(h1:c≠47)(h2:c≠42)(h3:c≠120):c ∉ prt t:=fun h=>by
 unfold prt at h
 rcases List.mem_append.1 h with h|h
 ·split at h
  ·cases h
  ·rcases List.mem_append.1 h with h|h
   ·exact abs_no hc h1 h
   ·exact h2 (List.mem_singleton.1 h)
 ·rcases List.mem_cons.1 h with h|h
  ·exact h3 h
  ·exact dd_no hc h
theorem prt_inj{t u:Int × Rat}(h0:0≤t.1)(h1:0≤u.1)(hs:ngT t.2=ngT u.2)(h:prt t=prt u):t=u:=by
 have no:∀t:Int × Rat,(120:UInt8) ∉ (if absT t.2=[49] then [] else absT t.2++[42]):=fun t hm=>by
  split at hm
  ·cases hm
  ·rcases List.mem_append.1 hm with h|h
   ·exact abs_no (by decide) (by decide) h
   ·exact absurd (List.mem_singleton.1 h) (by decide)
 obtain ⟨a,b⟩:=span_eq (no t) (no u) (.inr ⟨_,rfl⟩) (.inr ⟨_,rfl⟩) h
 rw [List.cons.injEq] at b
 have e1:=dd_eq b.2
 have e2:absT t.2=absT u.2:=by
  by_cases c:absT t.2=[49] <;>by_cases d:absT u.2=[49]
  ·rw [c,d]
  ·rw [if_pos c,if_neg d] at a
   exact absurd a.symm (by simp)
  ·rw [if_neg c,if_pos d] at a
   exact absurd a (by simp)
  ·rw [if_neg c,if_neg d] at a
   exact List.append_cancel_right a
 exact Prod.ext (by omega) (abs_inj hs e2)
theorem tl_beg(c:Rat)(l:List (Int × Rat)):Beg 32 (tlT c l):=by
 cases l with
 | nil=>
   unfold tlT
   by_cases hc:c≠0
   ·rw [if_pos hc];split <;>exact .inr ⟨_,rfl⟩
   ·rw [if_neg hc];exact .inl rfl
 | cons t l=>
   unfold tlT
   split <;>exact .inr ⟨_,rfl⟩
def sepT(n:Bool):List UInt8:=if n=true then [32,45,32] else [32,43,32]
theorem sep_eq{m n:Bool}{P Q:List UInt8}(h:sepT m++P=sepT n++Q):m=n∧P=Q:=by
 cases m <;>cases n <;>simp [sepT] at h <;>first|exact ⟨rfl,h⟩|cases h
theorem tl_nil(c:Rat):tlT c []=if c≠0 then sepT (ngT c)++absT c else []:=rfl
theorem tl_cons(c:Rat)(t:Int × Rat)(l:List (Int × Rat)):tlT c (t::l)=sepT (ngT t.2)++(prt t++tlT c l):=by
 rw [←List.append_assoc]
 rfl
theorem prt_x(t:Int × Rat)(T:List UInt8):(120:UInt8)∈prt t++T:=by
 unfold prt
 simp
theorem tl_ne{c c':Rat}{t:Int × Rat}{l:List (Int × Rat)}(h:tlT c []=tlT c' (t::l)):False:=by
 rw [tl_nil,tl_cons] at h
 by_cases hc:c≠0
 ·rw [if_pos hc] at h
  have e:=(sep_eq h).2
  have:=prt_x t (tlT c' l)
  rw [←e] at this
  exact abs_no (by decide) (by decide) this
 ·rw [if_neg hc] at h
  have:=congrArg List.length h
  unfold sepT at this
  split at this <;>simp at this
theorem tl_inj:∀{l l':List (Int × Rat)} {c c':Rat},(∀t∈l,0≤t.1)→(∀t∈l',0≤t.1)→tlT c l=tlT c' l'→l=l'∧c=c'
 | [],[],c,c',_,_,h=>by
   rw [tl_nil,tl_nil] at h
   refine ⟨rfl,?_⟩
   have ln:∀c:Rat,(sepT (ngT c)++absT c).length≠0:=fun c=>by
    unfold sepT
    split <;>simp
   by_cases a:c≠0 <;>by_cases b:c'≠0
   ·rw [if_pos a,if_pos b] at h
    obtain ⟨e1,e2⟩:=sep_eq h
    exact abs_inj e1 e2
   ·rw [if_pos a,if_neg b] at h
    exact absurd (congrArg List.length h) (ln c)
   ·rw [if_neg a,if_pos b] at h
    exact absurd (congrArg List.length h).symm (ln c')
   ·have a':c=0:=Decidable.not_not.1 a
    have b':c'=0:=Decidable.not_not.1 b
    rw [a',b']
 | [],t::l',c,c',_,_,h=>(tl_ne h).elim
 | t::l,[],c,c',_,_,h=>(tl_ne h.symm).elim
 | t::l,u::l',c,c',h1,h2,h=>by
   rw [tl_cons,tl_cons] at h
   obtain ⟨e1,e2⟩:=sep_eq h
   have no:∀t:Int × Rat,(32:UInt8) ∉ prt t:=fun t=>prt_no (by decide) (by decide) (by decide) (by decide)
   obtain ⟨e3,e4⟩:=span_eq (no t) (no u) (tl_beg c l) (tl_beg c' l') e2
   obtain ⟨rfl,rfl⟩:=tl_inj (fun x hx=>h1 x (List.mem_cons_of_mem _ hx)) (fun x hx=>h2 x (List.mem_cons_of_mem _ hx)) e4
   rw [prt_inj (h1 t List.mem_cons_self) (h2 u List.mem_cons_self) e1 e3]
   exact ⟨rfl,rfl⟩
def sgT(n:Bool)(p:List UInt8):List UInt8:=if n=true then 45::p else p
theorem sg_eq{m n:Bool}{P Q:List UInt8}(hP:(45:UInt8) ∉ P)(hQ:(45:UInt8) ∉ Q)(h:sgT m P=sgT n Q):m=n∧P=Q:=by
 cases m <;>cases n
 ·exact ⟨rfl,h⟩
 ·have h':P=45::Q:=h
  rw [h'] at hP
  exact absurd List.mem_cons_self hP
 ·have h':45::P=Q:=h
  rw [←h'] at hQ
  exact absurd List.mem_cons_self hQ
 ·have h':(45:UInt8)::P=45::Q:=h
  rw [List.cons.injEq] at h'
  exact ⟨rfl,h'.2⟩
theorem sg_no{n:Bool}{P:List UInt8}{c:UInt8}(h:c ∉ P)(hc:c≠45):c ∉ sgT n P:=fun hm=>by
 unfold sgT at hm
 split at hm
 ·rcases List.mem_cons.1 hm with h1|h1
  ·exact hc h1
  ·exact h h1
 ·exact h hm
theorem txt_nil(c:Rat):txt ([],c)=sgT (ngT c) (absT c):=by
 unfold txt
 rw [if_pos (.inr rfl)]
 rfl
theorem txt_cons(t:Int × Rat)(F:List (Int × Rat))(c:Rat):txt (t::F,c)=sgT (ngT t.2) (prt t)++tlT c F:=by
 have h:=txL_tl c F (txS [] t) (jn_ne (prt_ne t))
 exact h
theorem txt_one{f g:Form}(hf:∀t∈f.1,0≤t.1)(hg:∀t∈g.1,0≤t.1)(h:txt f=txt g):f=g:=by
 obtain ⟨F,c⟩:=f
 obtain ⟨G,d⟩:=g
 have noA:∀(n:Bool) (q:Rat),(120:UInt8) ∉ sgT n (absT q):=fun n q=>sg_no (abs_no (by decide) (by decide)) (by decide)
 have inX:∀(n:Bool) (t:Int × Rat) (T:List UInt8),(120:UInt8)∈sgT n (prt t)++T:=fun n t T=>by
  have:=prt_x t T
  unfold sgT
  split
  ·exact List.mem_cons_of_mem _ this
  ·exact this
 cases F with
 | nil=>
   cases G with
   | nil=>
     rw [txt_nil,txt_nil] at h
     obtain ⟨e1,e2⟩:=sg_eq (abs_no (by decide) (by decide)) (abs_no (by decide) (by decide)) h
     rw [abs_inj e1 e2]
   | cons u G=>
     rw [txt_nil,txt_cons] at h
     have:=inX (ngT u.2) u (tlT d G)
     rw [←h] at this
     exact absurd this (noA _ _)
 | cons t F=>
   cases G with
   | nil=>
     rw [txt_nil,txt_cons] at h
     have:=inX (ngT t.2) t (tlT c F)
     rw [h] at this
     exact absurd this (noA _ _)
   | cons u G=>
     rw [txt_cons,txt_cons] at h
     have no:∀(n:Bool) (t:Int × Rat),(32:UInt8) ∉ sgT n (prt t):=fun n t=>sg_no (prt_no (by decide) (by decide) (by decide) (by decide)) (by decide)
     obtain ⟨e1,e2⟩:=span_eq (no _ t) (no _ u) (tl_beg c F) (tl_beg d G) h
     have no5:∀t:Int × Rat,(45:UInt8) ∉ prt t:=fun t=>prt_no (by decide) (by decide) (by decide) (by decide)
     obtain ⟨e3,e4⟩:=sg_eq (no5 t) (no5 u) e1
     obtain ⟨rfl,rfl⟩:=tl_inj (fun x hx=>hf x (List.mem_cons_of_mem _ hx)) (fun x hx=>hg x (List.mem_cons_of_mem _ hx)) e2
     rw [prt_inj (hf t List.mem_cons_self) (hg u List.mem_cons_self) e3 e4]
end
end Go.Proofs.YtefdjbknmfeooaaGreatDoor
