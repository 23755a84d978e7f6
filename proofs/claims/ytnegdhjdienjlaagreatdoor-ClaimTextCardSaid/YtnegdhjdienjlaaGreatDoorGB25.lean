import Derived.Test.YtnegdhjdienjlaaGreatDoorGB24
import Derived.Test.YtnegdhjdienjlaaGreatDoorGB22
import Derived.Test.YtnegdhjdienjlaaGreatDoorGB19
import Derived.Test.YtnegdhjdienjlaaGreatDoorGB20
import Derived.Test.YtnegdhjdienjlaaGreatDoorGB16
import Derived.Test.YtnegdhjdienjlaaGreatDoorGB17
set_option linter.all false
set_option maxHeartbeats 6400000
set_option maxRecDepth 100000
namespace Go.Proofs.YtnegdhjdienjlaaGreatDoor
section
open Go.RowKit
attribute [local irreducible] run runL loopG exec
section
variable {n k : Nat} {L l : List UInt8} {f : Form} {neg : Bool}
structure RsI (L:List UInt8) (x:Except (List UInt8) Form) (k:Nat) (l:List UInt8) (bad:Bool) (f:Form):Prop where
 s:l <:+L
 n:k+l.length≤L.length+1
 b:bad=true→x=.error l
 g:bad=false→RdF k f∧x=coL (L.length+1-k) f l
end
end
section
open Go.RowKit Go.Lib
attribute [local irreducible] run runL loopG exec
def fmF(L:List UInt8):Form × Bool:=if (120:UInt8)∈L then (([],0),false) else match psT (L.map (swp 121 120)) with|.ok g=>(g,true)|.error _=>(([],0),false)
theorem form0:formV (([],0):Form)=.agg [.sl 4 [],.lit (.bool false),.sl 1 [],.sl 1 []]:=by simp
section
variable {n : Nat} {L : List UInt8}
theorem parR_fm(M:List UInt8)(h:¬(120:UInt8)∈L)(e:M=L.map (swp 121 120)):∃a b,parR M (psT M)=.tup [formV (fmF L).1,.lit (.int .i64 a),.lit (.int .i64 b)]∧(b==0)=(fmF L).2:=by
 unfold fmF
 rw [if_neg h,←e]
 cases psT M with
 | ok g=>exact ⟨0,0,rfl,rfl⟩
 | error r=>
   refine ⟨po M r,4,?_,rfl⟩
   show AV.tup [.agg [.sl 4 [],.lit (.bool false),.sl 1 [],.sl 1 []],_,_]=_
   rw [form0]
theorem form_c(hL:L.length≤900):run (n+12) 61 [.lit (.string (bs L))]=some (.tup [formV (fmF L).1,.lit (.bool (fmF L).2)]):=by
 have K1:=contains_c (c:=120) (L:=L) (by omega)
 by_cases h:(120:UInt8)∈L
 ·rw [decide_eq_true h] at K1
  have R:=cfm_f1 (n:=n) K1 rfl
  rw [R]
  unfold fmF
  rw [if_pos h,form0]
 ·rw [decide_eq_false h] at K1
  have K3:=rep_c (a:=121) (b:=120) (by decide) (L:=L) (by omega)
  have K4:=parse_c (n:=n) (L:=L.map (swp 121 120)) (by rw [List.length_map];omega)
  obtain ⟨a,b,e1,e2⟩:=parR_fm _ h rfl
  rw [e1] at K4
  have R:=cfm_f2 (n:=n) K1 rfl K3 K4
  rw [R,e2]
theorem idx_c{t:List UInt8}(hL:L.length≤1000):oIndex [.lit (.string (bs L)),.lit (.string (bs t))]=some (.lit (.int .i64 (index L t))):=by
 unfold oIndex
 dsimp only
 rw [if_pos (by rw [bs_size];omega),bs_data,bs_data]
theorem split_c(hL:L.length≤1000):run (n+4) 123 [.lit (.string (bs L))]=some (.lit (.int .i64 (spF L))):=by
 have K1:=idx_c (t:=[62,61]) hL
 have K2:=idx_c (t:=[60,61]) hL
 unfold spF
 by_cases h1:index L [62,61]<0
 ·rw [if_pos h1];exact csp_f1 K1 K2 h1
 rw [if_neg h1]
 by_cases h2:0≤index L [60,61]
 ·by_cases h3:index L [60,61]<index L [62,61]
  ·rw [if_pos ⟨h2,h3⟩];exact csp_f2 K1 K2 h1 h2 h3
  ·rw [if_neg fun h=>h3 h.2];exact csp_f3 K1 K2 h1 h2 h3
 ·rw [if_neg fun h=>h2 h.1];exact csp_f4 K1 K2 h1 h2
end
end
section
open Go.RowKit
attribute [local irreducible] run runL loopG exec
theorem psL_rd{L:List UInt8}(hL:L.length≤1000):∀(K k:Nat) (f:Form) (neg:Bool) (l:List UInt8),l <:+L→RdF k f→k+K≤1000→∀g,psL K f neg l=.ok g→∃j,j≤k+K∧RdF j g
 | 0,k,f,neg,l,_,_,_,g,h=>by rw [psL] at h;cases h
 | K+1,k,f,neg,l,hl,hf,hk,g,h=>by
   have h1:=(skL_suf l).trans hl
   have P:=part_c (n:=0) (neg:=neg) hL h1 hf (by omega)
   rw [psL] at h
   cases e:paL f neg (skL l) with
   | error r=>rw [e] at h;cases h
   | ok p=>
     obtain ⟨g',r⟩:=p
     rw [e] at h P
     obtain ⟨s,hg,_⟩:=P
     dsimp only at s hg h
     cases e2:skL r with
     | nil=>
       rw [e2] at h
       cases h
       exact ⟨k+1,by omega,hg⟩
     | cons c r2=>
       rw [e2] at h
       dsimp only at h
       split at h
       ·obtain ⟨j,h3,h4⟩:=psL_rd hL K (k+1) g' _ r2 ((suf_tl (e2▸skL_suf r)).trans (s.trans h1)) hg (by omega) g h
        exact ⟨j,by omega,h4⟩
       ·cases h
theorem psT_rd{L:List UInt8}(hL:L.length≤900){g:Form}(h:psT L=.ok g):∃j,j≤901∧RdF j g:=by
 have h1:=skL_suf L
 unfold psT at h
 cases e:skL L with
 | nil=>
   rw [e] at h h1
   obtain ⟨j,a,b⟩:=psL_rd (L:=L) (by omega) _ 0 _ _ _ h1 RdF.zero (by omega) g h
   exact ⟨j,by omega,b⟩
 | cons c r=>
   rw [e] at h h1
   dsimp only at h
   split at h
   ·obtain ⟨j,a,b⟩:=psL_rd (L:=L) (by omega) _ 0 _ _ _ (suf_tl h1) RdF.zero (by omega) g h
    exact ⟨j,by omega,b⟩
   ·obtain ⟨j,a,b⟩:=psL_rd (L:=L) (by omega) _ 0 _ _ _ h1 RdF.zero (by omega) g h
    exact ⟨j,by omega,b⟩
theorem psT_rdl{L:List UInt8}(hL:L.length≤900){g:Form}(h:psT L=.ok g):∃j,j≤L.length+1∧RdF j g:=by
 have h1:=skL_suf L
 have hl:=h1.length_le
 unfold psT at h
 cases e:skL L with
 | nil=>
   rw [e] at h h1 hl
   obtain ⟨j,a,b⟩:=psL_rd (L:=L) (by omega) _ 0 _ _ _ h1 RdF.zero (by omega) g h
   exact ⟨j,by omega,b⟩
 | cons c r=>
   rw [e] at h h1 hl
   rw [List.length_cons] at hl
   dsimp only at h
   split at h
   ·obtain ⟨j,a,b⟩:=psL_rd (L:=L) (by omega) _ 0 _ _ _ (suf_tl h1) RdF.zero (by omega) g h
    exact ⟨j,by omega,b⟩
   ·obtain ⟨j,a,b⟩:=psL_rd (L:=L) (by omega) _ 0 _ _ _ h1 RdF.zero (by omega) g h
    exact ⟨j,by omega,b⟩
end
section
open Go.RowKit
end
section
open Go.RowKit
theorem nbr_f1{n:Nat}{a0:Rat}:
  run n 54 [ratV a0]=some (.agg [.sl 4 [],.lit (.bool (rawQ a0).s),natA (rawQ a0).l1,natA (rawQ a0).l2]):=by
 unfold run fnP
 simp+decide [Tryz.f54]
end
section
open Go.RowKit
section
variable {n : Nat} {a0 : Raw}
theorem shC_f1(C1:(a0.l1.length:Int)≤2):
  run n 45 [.agg [.lit (.bool a0.s),natA a0.l1,natA a0.l2]]=some (.lit (.bool (decide ((a0.l2.length:Int)≤2)))):=by
 have C1_:a0.l1.length≤2:=by omega
 unfold run fnP
 simp+decide [Tryz.f45,C1,C1_]
theorem shC_f2(C1:¬(a0.l1.length:Int)≤2):
  run n 45 [.agg [.lit (.bool a0.s),natA a0.l1,natA a0.l2]]=some (.lit (.bool false)):=by
 have C1_:¬a0.l1.length≤2:=by omega
 unfold run fnP
 simp+decide [Tryz.f45,C1,C1_]
end
noncomputable def fwC_C4:Code:=(loopsOf (bodyOf Tryz.f16)).getD 0 .skip
noncomputable def fwC_C9:Code:=(loopsOf fwC_C4).getD 0 .skip
def fwC_h9(a0:TClaimR)(i_4:Nat)(i_9:Nat):St:=
 ⟨[(1,.ptr 0 0),(3,.lit (.int .i64 (i_4:Int))),(4,.lit (.int .i64 (i_9:Int)))],
  [(0,some (.box 39 [.lit (.int .i64 (a0.Kind)),.lit (.int .i64 (a0.Target)),.lit (.bool a0.Margin.s),natA a0.Margin.l1,natA a0.Margin.l2,.sl 4 (a0.Rows.map formRC)] false))],1⟩
def fwC_h4(a0:TClaimR)(i_4:Nat):St:=
 ⟨[(1,.ptr 0 0),(3,.lit (.int .i64 (i_4:Int)))],
  [(0,some (.box 39 [.lit (.int .i64 (a0.Kind)),.lit (.int .i64 (a0.Target)),.lit (.bool a0.Margin.s),natA a0.Margin.l1,natA a0.Margin.l2,.sl 4 (a0.Rows.map formRC)] false))],1⟩
def fwC_o9a(a0:TClaimR)(i_4:Nat):St:=
 ⟨[(1,.ptr 0 0),(2,.lit (.bool false)),(3,.lit (.int .i64 (i_4:Int)))],
  [(0,some (.box 39 [.lit (.int .i64 (a0.Kind)),.lit (.int .i64 (a0.Target)),.lit (.bool a0.Margin.s),natA a0.Margin.l1,natA a0.Margin.l2,.sl 4 (a0.Rows.map formRC)] false))],1⟩
def fwC_o9b(a0:TClaimR)(i_4:Nat):St:=
 ⟨[(1,.ptr 0 0),(2,.any),(3,.lit (.int .i64 (i_4:Int)))],
  [(0,some (.box 39 [.lit (.int .i64 (a0.Kind)),.lit (.int .i64 (a0.Target)),.lit (.bool a0.Margin.s),natA a0.Margin.l1,natA a0.Margin.l2,.sl 4 (a0.Rows.map formRC)] false))],1⟩
def fwC_o4a:St:=
 ⟨[(2,.lit (.bool false))],
  [],0⟩
def fwC_o4b:St:=
 ⟨[(2,.any)],
  [],0⟩
section
variable{n:Nat}{i_4:Nat}{v9:Int}{r33:Raw}{r34:Bool}{a0:TClaimR}{F12:List (Int × Raw)}{i_9:Nat}{r32:Raw}{F9:List (Int × Raw)}{r25:Bool}{r24:Raw}{r:Bool}
theorem fwC_r9_1(E1:a0.Rows[i_4]?=some (F12,r32))(C2:(i_9:Int)<(F12.length:Int))(E3:F12[i_9]?=some (v9,r33))(K4:run n 45 [.agg [.lit (.bool r33.s),natA r33.l1,natA r33.l2]]=some (.lit (.bool r34)))(C5:r34=true)(W6:InI ((i_9:Int)+1)):
  Cont 0 (exec Tryz.prog (tab (n+1)) 0 63 (livesOf 16) big fwC_C9) (livesOf 16 9) (fwC_h9 a0 i_4 i_9) (fwC_h9 a0 i_4 (i_9+1)):=by
 obtain ⟨EL1,EG1⟩:=List.getElem?_eq_some_iff.1 E1
 have C2_:i_9<F12.length:=by omega
 obtain ⟨EL3,EG3⟩:=List.getElem?_eq_some_iff.1 E3
 have W6_:IntKind.i64.wrap ((i_9:Int)+1)=(i_9:Int)+1:=wr64 W6.1 W6.2
 unfold Cont
 simp+decide [fwC_h9,loopsOf, Tryz.f16,fwC_C4,fwC_C9,EL1,EG1,E1,C2,C2_,EL3,EG3,E3,K4,C5,W6_]
theorem fwC_x9_1(E1:a0.Rows[i_4]?=some (F12,r32))(C2:(i_9:Int)<(F12.length:Int))(E3:F12[i_9]?=some (v9,r33))(K4:run n 45 [.agg [.lit (.bool r33.s),natA r33.l1,natA r33.l2]]=some (.lit (.bool r34)))(C5:r34=false):
  Leave 0 (exec Tryz.prog (tab (n+1)) 0 63 (livesOf 16) big fwC_C9) (livesOf 16 (outOf 9)) (fwC_h9 a0 i_4 i_9) (.ret) (fwC_o9a a0 i_4):=by
 obtain ⟨EL1,EG1⟩:=List.getElem?_eq_some_iff.1 E1
 have C2_:i_9<F12.length:=by omega
 obtain ⟨EL3,EG3⟩:=List.getElem?_eq_some_iff.1 E3
 unfold Leave
 simp+decide [fwC_h9,loopsOf, Tryz.f16,fwC_o9a,fwC_C4,fwC_C9,EL1,EG1,E1,C2,C2_,EL3,EG3,E3,K4,C5]
theorem fwC_x9_2(E1:a0.Rows[i_4]?=some (F12,r32))(C2:¬(i_9:Int)<(F12.length:Int)):
  Leave 0 (exec Tryz.prog (tab (n+1)) 0 63 (livesOf 16) big fwC_C9) (livesOf 16 (outOf 9)) (fwC_h9 a0 i_4 i_9) (.exit 2) (fwC_o9b a0 i_4):=by
 obtain ⟨EL1,EG1⟩:=List.getElem?_eq_some_iff.1 E1
 have C2_:¬i_9<F12.length:=by omega
 unfold Leave
 simp+decide [fwC_h9,loopsOf, Tryz.f16,fwC_o9b,fwC_C4,fwC_C9,EL1,EG1,E1,C2,C2_]
section
variable(C1:(i_4:Int)<(a0.Rows.length:Int))(E2:a0.Rows[i_4]?=some (F9,r24))
include C1 E2
theorem fwC_r4_1(C3:¬6<(F9.length:Int))(K4:run n 45 [.agg [.lit (.bool r24.s),natA r24.l1,natA r24.l2]]=some (.lit (.bool r25)))(C5:r25=true)(L6:loopG Tryz.prog (tab (n+1)) 0 63 (livesOf 16) 9 fwC_C9 (fwC_h9 a0 i_4 0)=some (.exit 2,fwC_o9b a0 i_4))(W7:InI ((i_4:Int)+1)):
  Cont 0 (exec Tryz.prog (tab (n+1)) 0 63 (livesOf 16) big fwC_C4) (livesOf 16 4) (fwC_h4 a0 i_4) (fwC_h4 a0 (i_4+1)):=by
 have C1_:i_4<a0.Rows.length:=by omega
 obtain ⟨EL2,EG2⟩:=List.getElem?_eq_some_iff.1 E2
 have C3_:¬6<F9.length:=by omega
 have W7_:IntKind.i64.wrap ((i_4:Int)+1)=(i_4:Int)+1:=wr64 W7.1 W7.2
 unfold Cont
 simp+decide [fwC_h4,loopsOf, Tryz.f16,fwC_C4,C1,C1_,EL2,EG2,E2,C3,C3_,K4,C5,W7_]
 rw [loopX_G (C':=fwC_C9) (e:=(fwC_h9 a0 i_4 0)) ?_ ?_,L6]
 rotate_left
 ·kernel_rfl
 ·simp+decide [fwC_h9,loopsOf, Tryz.f16,fwC_C4,C1,C1_,EL2,EG2,E2,C3,C3_,K4,C5,W7_]
 simp+decide [fwC_o9b,loopsOf, Tryz.f16,fwC_C4,C1,C1_,EL2,EG2,E2,C3,C3_,K4,C5,W7_]
theorem fwC_x4_1(C3:6<(F9.length:Int)):
  Leave 0 (exec Tryz.prog (tab (n+1)) 0 63 (livesOf 16) big fwC_C4) (livesOf 16 (outOf 4)) (fwC_h4 a0 i_4) (.ret) (fwC_o4a):=by
 have C1_:i_4<a0.Rows.length:=by omega
 obtain ⟨EL2,EG2⟩:=List.getElem?_eq_some_iff.1 E2
 have C3_:6<F9.length:=by omega
 unfold Leave
 simp+decide [fwC_h4,loopsOf, Tryz.f16,fwC_o4a,fwC_C4,C1,C1_,EL2,EG2,E2,C3,C3_]
section
variable(C3:¬6<(F9.length:Int))(K4:run n 45 [.agg [.lit (.bool r24.s),natA r24.l1,natA r24.l2]]=some (.lit (.bool r25)))
include C3 K4
theorem fwC_x4_2(C5:r25=false):
  Leave 0 (exec Tryz.prog (tab (n+1)) 0 63 (livesOf 16) big fwC_C4) (livesOf 16 (outOf 4)) (fwC_h4 a0 i_4) (.ret) (fwC_o4a):=by
 have C1_:i_4<a0.Rows.length:=by omega
 obtain ⟨EL2,EG2⟩:=List.getElem?_eq_some_iff.1 E2
 have C3_:¬6<F9.length:=by omega
 unfold Leave
 simp+decide [fwC_h4,loopsOf, Tryz.f16,fwC_o4a,fwC_C4,C1,C1_,EL2,EG2,E2,C3,C3_,K4,C5]
theorem fwC_x4_3(C5:r25=true)(L6:loopG Tryz.prog (tab (n+1)) 0 63 (livesOf 16) 9 fwC_C9 (fwC_h9 a0 i_4 0)=some (.ret,fwC_o9a a0 i_4)):
  Leave 0 (exec Tryz.prog (tab (n+1)) 0 63 (livesOf 16) big fwC_C4) (livesOf 16 (outOf 4)) (fwC_h4 a0 i_4) (.ret) (fwC_o4a):=by
 have C1_:i_4<a0.Rows.length:=by omega
 obtain ⟨EL2,EG2⟩:=List.getElem?_eq_some_iff.1 E2
 have C3_:¬6<F9.length:=by omega
 unfold Leave
 simp+decide [fwC_h4,loopsOf, Tryz.f16,fwC_o4a,fwC_C4,C1,C1_,EL2,EG2,E2,C3,C3_,K4,C5]
 rw [loopX_G (C':=fwC_C9) (e:=(fwC_h9 a0 i_4 0)) ?_ ?_,L6]
 rotate_left
 ·kernel_rfl
 ·simp+decide [fwC_h9,loopsOf, Tryz.f16,fwC_o4a,fwC_C4,C1,C1_,EL2,EG2,E2,C3,C3_,K4,C5]
 simp+decide [fwC_o9a,loopsOf, Tryz.f16,fwC_o4a,fwC_C4,C1,C1_,EL2,EG2,E2,C3,C3_,K4,C5]
end
end
theorem fwC_x4_4(C1:¬(i_4:Int)<(a0.Rows.length:Int)):
  Leave 0 (exec Tryz.prog (tab (n+1)) 0 63 (livesOf 16) big fwC_C4) (livesOf 16 (outOf 4)) (fwC_h4 a0 i_4) (.exit 0) (fwC_o4b):=by
 have C1_:¬i_4<a0.Rows.length:=by omega
 unfold Leave
 simp+decide [fwC_h4,loopsOf, Tryz.f16,fwC_o4b,fwC_C4,C1,C1_]
theorem fwC_f1(C1:6<(a0.Rows.length:Int)):
  run (n+1) 16 [claimRV a0]=some (.lit (.bool false)):=by
 have C1_:6<a0.Rows.length:=by omega
 unfold run fnP
 simp+decide [Tryz.f16,C1,C1_]
section
variable(C1:¬6<(a0.Rows.length:Int))(K2:run n 45 [.agg [.lit (.bool a0.Margin.s),natA a0.Margin.l1,natA a0.Margin.l2]]=some (.lit (.bool r)))
include C1 K2
theorem fwC_f2(C3:r=false):
  run (n+1) 16 [claimRV a0]=some (.lit (.bool false)):=by
 have C1_:¬6<a0.Rows.length:=by omega
 unfold run fnP
 simp+decide [Tryz.f16,C1,C1_,K2,C3]
theorem fwC_f3(C3:r=true)(L4:loopG Tryz.prog (tab (n+1)) 0 63 (livesOf 16) 4 fwC_C4 (fwC_h4 a0 0)=some (.ret,fwC_o4a)):
  run (n+1) 16 [claimRV a0]=some (.lit (.bool false)):=by
 have C1_:¬6<a0.Rows.length:=by omega
 unfold run fnP
 simp+decide [Tryz.f16,C1,C1_,K2,C3]
 rw [loopX_G (C':=fwC_C4) (e:=(fwC_h4 a0 0)) ?_ ?_,L4]
 rotate_left
 ·kernel_rfl
 ·simp+decide [fwC_h4,C1,C1_,K2,C3]
 simp+decide [fwC_o4a,C1,C1_,K2,C3]
theorem fwC_f4(C3:r=true)(L4:loopG Tryz.prog (tab (n+1)) 0 63 (livesOf 16) 4 fwC_C4 (fwC_h4 a0 0)=some (.exit 0,fwC_o4b)):
  run (n+1) 16 [claimRV a0]=some (.lit (.bool true)):=by
 have C1_:¬6<a0.Rows.length:=by omega
 unfold run fnP
 simp+decide [Tryz.f16,C1,C1_,K2,C3]
 rw [loopX_G (C':=fwC_C4) (e:=(fwC_h4 a0 0)) ?_ ?_,L4]
 rotate_left
 ·kernel_rfl
 ·simp+decide [fwC_h4,C1,C1_,K2,C3]
 simp+decide [fwC_o4b,C1,C1_,K2,C3]
end
end
theorem cpC_f1{n:Nat}{a0:TClaimR}(M1:a0.Rows.length≤100000000):
  run n 18 [claimRV a0]=some (claimRV a0):=by
 have M1_:∀b,b≤10000→roomy (a0.Rows.length) b=true:=fun b hb=>roomy_s M1 hb
 unfold run fnP
 simp+decide [Tryz.f18,M1_]
end
section
open Go.RowKit
theorem cvcR_f1{n:Nat}{a0:FormR}{c0:Int}{r:Bool}(K1:run n 99 [.agg [.sl 4 (a0.1.map termRC),.lit (.bool a0.2.s),natA a0.2.l1,natA a0.2.l2],.lit (.int .i64 c0)]=some (.lit (.bool r))):
  run (n+1) 98 [.agg [.sl 4 (a0.1.map termRC),.lit (.bool a0.2.s),natA a0.2.l1,natA a0.2.l2],.mem [.lit (.int .i64 c0)]]=some (.lit (.bool (!r))):=by
 unfold run fnP
 simp+decide [Tryz.f98,K1]
noncomputable def ifgR_C2:Code:=(loopsOf (bodyOf Tryz.f159)).getD 0 .skip
def ifgR_h2(a0:List FormR)(c0:Int)(i_2:Nat):St:=
 ⟨[(0,.sl 4 (a0.map formRC)),(1,.clo 98 [.mem [.lit (.int .i64 c0)]]),(7,.lit (.int .i64 (a0.length:Int))),(8,.lit (.int .i64 (i_2:Int)))],
  [],0⟩
def ifgR_o2a(i_2:Nat):St:=
 ⟨[(4,.lit (.int .i64 (i_2:Int)))],
  [],0⟩
def ifgR_o2b:St:=
 ⟨[(4,.any)],
  [],0⟩
section
variable{n:Nat}{i_2:Nat}{r6:Bool}{a0:List FormR}{F3:List (Int × Raw)}{c0:Int}{r5:Raw}
section
variable(C1:(i_2:Int)<(a0.length:Int))(E2:a0[i_2]?=some (F3,r5))(K3:run (n+1) 98 [.agg [.sl 4 (F3.map termRC),.lit (.bool r5.s),natA r5.l1,natA r5.l2],.mem [.lit (.int .i64 c0)]]=some (.lit (.bool r6)))
include C1 E2 K3
theorem ifgR_r2_1(C4:r6=false)(W5:InI ((i_2:Int)+1)):
  Cont 0 (exec Tryz.prog (tab (n+2)) 0 19 (livesOf 159) big ifgR_C2) (livesOf 159 2) (ifgR_h2 a0 c0 i_2) (ifgR_h2 a0 c0 (i_2+1)):=by
 have C1_:i_2<a0.length:=by omega
 obtain ⟨EL2,EG2⟩:=List.getElem?_eq_some_iff.1 E2
 have W5_:IntKind.i64.wrap ((i_2:Int)+1)=(i_2:Int)+1:=wr64 W5.1 W5.2
 unfold Cont
 simp+decide [ifgR_h2,loopsOf, Tryz.f159,ifgR_C2,C1,C1_,EL2,EG2,E2,K3,C4,W5_]
theorem ifgR_x2_1(C4:r6=true):
  Leave 0 (exec Tryz.prog (tab (n+2)) 0 19 (livesOf 159) big ifgR_C2) (livesOf 159 (outOf 2)) (ifgR_h2 a0 c0 i_2) (.ret) (ifgR_o2a i_2):=by
 have C1_:i_2<a0.length:=by omega
 obtain ⟨EL2,EG2⟩:=List.getElem?_eq_some_iff.1 E2
 unfold Leave
 simp+decide [ifgR_h2,loopsOf, Tryz.f159,ifgR_o2a,ifgR_C2,C1,C1_,EL2,EG2,E2,K3,C4]
end
theorem ifgR_x2_2(C1:¬(i_2:Int)<(a0.length:Int)):
  Leave 0 (exec Tryz.prog (tab (n+2)) 0 19 (livesOf 159) big ifgR_C2) (livesOf 159 (outOf 2)) (ifgR_h2 a0 c0 i_2) (.exit 0) (ifgR_o2b):=by
 have C1_:¬i_2<a0.length:=by omega
 unfold Leave
 simp+decide [ifgR_h2,loopsOf, Tryz.f159,ifgR_o2b,ifgR_C2,C1,C1_]
theorem ifgR_f1(L1:loopG Tryz.prog (tab (n+2)) 0 19 (livesOf 159) 2 ifgR_C2 (ifgR_h2 a0 c0 0)=some (.ret,ifgR_o2a i_2)):
  run (n+2) 159 [.sl 4 (a0.map formRC),.clo 98 [.mem [.lit (.int .i64 c0)]]]=some (.lit (.int .i64 (i_2:Int))):=by
 unfold run fnP
 simp+decide [Tryz.f159]
 rw [loopX_G (C':=ifgR_C2) (e:=(ifgR_h2 a0 c0 0)) ?_ ?_,L1]
 rotate_left
 ·kernel_rfl
 ·simp+decide [ifgR_h2]
 simp+decide [ifgR_o2a]
theorem ifgR_f2(L1:loopG Tryz.prog (tab (n+2)) 0 19 (livesOf 159) 2 ifgR_C2 (ifgR_h2 a0 c0 0)=some (.exit 0,ifgR_o2b)):
  run (n+2) 159 [.sl 4 (a0.map formRC),.clo 98 [.mem [.lit (.int .i64 c0)]]]=some (.lit (.int .i64 (-1))):=by
 unfold run fnP
 simp+decide [Tryz.f159]
 rw [loopX_G (C':=ifgR_C2) (e:=(ifgR_h2 a0 c0 0)) ?_ ?_,L1]
 rotate_left
 ·kernel_rfl
 ·simp+decide [ifgR_h2]
 simp+decide [ifgR_o2b]
end
theorem cfgR_f1{n:Nat}{a0:List FormR}{c0:Int}{r:Int}(K1:run (n+2) 159 [.sl 4 (a0.map formRC),.clo 98 [.mem [.lit (.int .i64 c0)]]]=some (.lit (.int .i64 r))):
  run (n+3) 97 [.sl 4 (a0.map formRC),.clo 98 [.mem [.lit (.int .i64 c0)]]]=some (.lit (.bool (decide (0≤r)))):=by
 unfold run fnP
 simp+decide [Tryz.f97,K1]
section
variable {n : Nat} {a1 : Int} {a0 : TClaimR} {r : Bool}
theorem cvR_f1(C1:a1<1):
  run (n+4) 44 [claimRV a0,.lit (.int .i64 a1)]=some (.lit (.bool false)):=by
 unfold run fnP
 simp+decide [Tryz.f44,C1]
section
variable(C1:¬a1<1)
include C1
theorem cvR_f2(C2:256<a1):
  run (n+4) 44 [claimRV a0,.lit (.int .i64 a1)]=some (.lit (.bool false)):=by
 unfold run fnP
 simp+decide [Tryz.f44,C1,C2]
section
variable(C2:¬256<a1)(B3a:RawB a0.Margin)
include C2 B3a
theorem cvR_f3(C4:¬(RatV a0.Margin.s a0.Margin.l1 a0.Margin.l2)):
  run (n+4) 44 [claimRV a0,.lit (.int .i64 a1)]=some (.lit (.bool false)):=by
 have K3:=rr_valid B3a
 unfold run fnP
 simp+decide [Tryz.f44,C1,C2,K3,C4]
section
variable(C4:RatV a0.Margin.s a0.Margin.l1 a0.Margin.l2)
include C4
theorem cvR_f4(C6:sgR a0.Margin.q<0):
  run (n+4) 44 [claimRV a0,.lit (.int .i64 a1)]=some (.lit (.bool false)):=by
 have K3:=rr_valid B3a
 have K5:=rr_sign B3a
 unfold run fnP
 simp+decide [Tryz.f44,C1,C2,K3,C4,K5,C6]
section
variable(C6:¬sgR a0.Margin.q<0)
include C6
theorem cvR_f5(C7:a0.Kind=1)(C8:0≤a0.Target)(C9:a0.Target<a1):
  run (n+4) 44 [claimRV a0,.lit (.int .i64 a1)]=some (.lit (.bool (((a0.Rows.length:Int)==0)))):=by
 have K3:=rr_valid B3a
 have K5:=rr_sign B3a
 have C7_:(a0.Kind==1)=true:=by rw [C7];simp
 have C7_n:(a0.Kind !=1)=false:=by rw [C7];simp
 unfold run fnP
 simp+decide [Tryz.f44,C1,C2,K3,C4,K5,C6,C7_,C7_n,C8,C9]
theorem cvR_f6(C7:a0.Kind=1)(C8:0≤a0.Target)(C9:¬a0.Target<a1):
  run (n+4) 44 [claimRV a0,.lit (.int .i64 a1)]=some (.lit (.bool false)):=by
 have K3:=rr_valid B3a
 have K5:=rr_sign B3a
 have C7_:(a0.Kind==1)=true:=by rw [C7];simp
 have C7_n:(a0.Kind !=1)=false:=by rw [C7];simp
 unfold run fnP
 simp+decide [Tryz.f44,C1,C2,K3,C4,K5,C6,C7_,C7_n,C8,C9]
theorem cvR_f7(C7:a0.Kind=1)(C8:¬0≤a0.Target):
  run (n+4) 44 [claimRV a0,.lit (.int .i64 a1)]=some (.lit (.bool false)):=by
 have K3:=rr_valid B3a
 have K5:=rr_sign B3a
 have C7_:(a0.Kind==1)=true:=by rw [C7];simp
 have C7_n:(a0.Kind !=1)=false:=by rw [C7];simp
 unfold run fnP
 simp+decide [Tryz.f44,C1,C2,K3,C4,K5,C6,C7_,C7_n,C8]
theorem cvR_f8(C7:¬a0.Kind=1)(C8:a0.Kind=2)(C9:a0.Target=0)(C10:1≤(a0.Rows.length:Int))(C11:(a0.Rows.length:Int)≤256)(K12:run (n+3) 97 [.sl 4 (a0.Rows.map formRC),.clo 98 [.mem [.lit (.int .i64 a1)]]]=some (.lit (.bool r))):
  run (n+4) 44 [claimRV a0,.lit (.int .i64 a1)]=some (.lit (.bool (!r))):=by
 have K3:=rr_valid B3a
 have K5:=rr_sign B3a
 have C7_:(a0.Kind==1)=false:=by simpa using C7
 have C7_n:(a0.Kind !=1)=true:=by simpa using C7
 have C8_:(a0.Kind==2)=true:=by rw [C8];simp
 have C8_n:(a0.Kind !=2)=false:=by rw [C8];simp
 have C9_:(a0.Target==0)=true:=by rw [C9];simp
 have C9_n:(a0.Target !=0)=false:=by rw [C9];simp
 have C10_:1≤a0.Rows.length:=by omega
 have C11_:a0.Rows.length≤256:=by omega
 unfold run fnP
 simp+decide [Tryz.f44,C1,C2,K3,C4,K5,C6,C7_,C7_n,C8_,C8_n,C9_,C9_n,C10,C10_,C11,C11_,K12]
theorem cvR_f10(C7:¬a0.Kind=1)(C8:a0.Kind=2)(C9:a0.Target=0)(C10:¬1≤(a0.Rows.length:Int)):
  run (n+4) 44 [claimRV a0,.lit (.int .i64 a1)]=some (.lit (.bool false)):=by
 have K3:=rr_valid B3a
 have K5:=rr_sign B3a
 have C7_:(a0.Kind==1)=false:=by simpa using C7
 have C7_n:(a0.Kind !=1)=true:=by simpa using C7
 have C8_:(a0.Kind==2)=true:=by rw [C8];simp
 have C8_n:(a0.Kind !=2)=false:=by rw [C8];simp
 have C9_:(a0.Target==0)=true:=by rw [C9];simp
 have C9_n:(a0.Target !=0)=false:=by rw [C9];simp
 have C10_:¬1≤a0.Rows.length:=by omega
 unfold run fnP
 simp+decide [Tryz.f44,C1,C2,K3,C4,K5,C6,C7_,C7_n,C8_,C8_n,C9_,C9_n,C10,C10_]
theorem cvR_f11(C7:¬a0.Kind=1)(C8:a0.Kind=2)(C9:¬a0.Target=0):
  run (n+4) 44 [claimRV a0,.lit (.int .i64 a1)]=some (.lit (.bool false)):=by
 have K3:=rr_valid B3a
 have K5:=rr_sign B3a
 have C7_:(a0.Kind==1)=false:=by simpa using C7
 have C7_n:(a0.Kind !=1)=true:=by simpa using C7
 have C8_:(a0.Kind==2)=true:=by rw [C8];simp
 have C8_n:(a0.Kind !=2)=false:=by rw [C8];simp
 have C9_:(a0.Target==0)=false:=by simpa using C9
 have C9_n:(a0.Target !=0)=true:=by simpa using C9
 unfold run fnP
 simp+decide [Tryz.f44,C1,C2,K3,C4,K5,C6,C7_,C7_n,C8_,C8_n,C9_,C9_n]
theorem cvR_f12(C7:¬a0.Kind=1)(C8:¬a0.Kind=2):
  run (n+4) 44 [claimRV a0,.lit (.int .i64 a1)]=some (.lit (.bool false)):=by
 have K3:=rr_valid B3a
 have K5:=rr_sign B3a
 have C7_:(a0.Kind==1)=false:=by simpa using C7
 have C7_n:(a0.Kind !=1)=true:=by simpa using C7
 have C8_:(a0.Kind==2)=false:=by simpa using C8
 have C8_n:(a0.Kind !=2)=true:=by simpa using C8
 unfold run fnP
 simp+decide [Tryz.f44,C1,C2,K3,C4,K5,C6,C7_,C7_n,C8_,C8_n]
end
end
end
end
end
end
section
open Go.RowKit
noncomputable def vlR_C2:Code:=(loopsOf (bodyOf Tryz.f55)).getD 0 .skip
def vlR_h2(a0:List FormR)(a1:Int)(i_2:Nat):St:=
 ⟨[(0,.sl 4 (a0.map formRC)),(1,.lit (.int .i64 a1)),(5,.lit (.int .i64 (i_2:Int)))],
  [],0⟩
def vlR_o2a:St:=
 ⟨[(4,.lit (.bool false))],
  [],0⟩
def vlR_o2b:St:=
 ⟨[(4,.any)],
  [],0⟩
section
variable{n:Nat}{i_2:Nat}{r6:Bool}{a1:Int}{a0:List FormR}{F3:List (Int × Raw)}{r5:Raw}
section
variable(C1:(i_2:Int)<(a0.length:Int))(E2:a0[i_2]?=some (F3,r5))(K3:run n 113 [.agg [.sl 4 (F3.map termRC),.lit (.bool r5.s),natA r5.l1,natA r5.l2],.lit (.int .i64 a1)]=some (.lit (.bool r6)))
include C1 E2 K3
theorem vlR_r2_1(C4:r6=true)(W5:InI ((i_2:Int)+1)):
  Cont 0 (exec Tryz.prog (tab (n+1)) 0 19 (livesOf 55) big vlR_C2) (livesOf 55 2) (vlR_h2 a0 a1 i_2) (vlR_h2 a0 a1 (i_2+1)):=by
 have C1_:i_2<a0.length:=by omega
 obtain ⟨EL2,EG2⟩:=List.getElem?_eq_some_iff.1 E2
 have W5_:IntKind.i64.wrap ((i_2:Int)+1)=(i_2:Int)+1:=wr64 W5.1 W5.2
 unfold Cont
 simp+decide [vlR_h2,loopsOf, Tryz.f55,vlR_C2,C1,C1_,EL2,EG2,E2,K3,C4,W5_]
theorem vlR_x2_1(C4:r6=false):
  Leave 0 (exec Tryz.prog (tab (n+1)) 0 19 (livesOf 55) big vlR_C2) (livesOf 55 (outOf 2)) (vlR_h2 a0 a1 i_2) (.ret) (vlR_o2a):=by
 have C1_:i_2<a0.length:=by omega
 obtain ⟨EL2,EG2⟩:=List.getElem?_eq_some_iff.1 E2
 unfold Leave
 simp+decide [vlR_h2,loopsOf, Tryz.f55,vlR_o2a,vlR_C2,C1,C1_,EL2,EG2,E2,K3,C4]
end
theorem vlR_x2_2(C1:¬(i_2:Int)<(a0.length:Int)):
  Leave 0 (exec Tryz.prog (tab (n+1)) 0 19 (livesOf 55) big vlR_C2) (livesOf 55 (outOf 2)) (vlR_h2 a0 a1 i_2) (.exit 0) (vlR_o2b):=by
 have C1_:¬i_2<a0.length:=by omega
 unfold Leave
 simp+decide [vlR_h2,loopsOf, Tryz.f55,vlR_o2b,vlR_C2,C1,C1_]
theorem vlR_f1(L1:loopG Tryz.prog (tab (n+1)) 0 19 (livesOf 55) 2 vlR_C2 (vlR_h2 a0 a1 0)=some (.ret,vlR_o2a)):
  run (n+1) 55 [.sl 4 (a0.map formRC),.lit (.int .i64 a1)]=some (.lit (.bool false)):=by
 unfold run fnP
 simp+decide [Tryz.f55]
 rw [loopX_G (C':=vlR_C2) (e:=(vlR_h2 a0 a1 0)) ?_ ?_,L1]
 rotate_left
 ·kernel_rfl
 ·simp+decide [vlR_h2]
 simp+decide [vlR_o2a]
theorem vlR_f2(L1:loopG Tryz.prog (tab (n+1)) 0 19 (livesOf 55) 2 vlR_C2 (vlR_h2 a0 a1 0)=some (.exit 0,vlR_o2b)):
  run (n+1) 55 [.sl 4 (a0.map formRC),.lit (.int .i64 a1)]=some (.lit (.bool true)):=by
 unfold run fnP
 simp+decide [Tryz.f55]
 rw [loopX_G (C':=vlR_C2) (e:=(vlR_h2 a0 a1 0)) ?_ ?_,L1]
 rotate_left
 ·kernel_rfl
 ·simp+decide [vlR_h2]
 simp+decide [vlR_o2b]
end
section
variable {n : Nat} {a1 : Int} {a0 : TClaimR} {r : Bool}
theorem fVR_f1(C1:a1<1):
  run (n+2) 20 [claimRV a0,.lit (.int .i64 a1)]=some (.lit (.bool false)):=by
 unfold run fnP
 simp+decide [Tryz.f20,C1]
section
variable(C1:¬a1<1)
include C1
theorem fVR_f2(C2:256<a1):
  run (n+2) 20 [claimRV a0,.lit (.int .i64 a1)]=some (.lit (.bool false)):=by
 unfold run fnP
 simp+decide [Tryz.f20,C1,C2]
section
variable(C2:¬256<a1)(B3a:RawB a0.Margin)
include C2 B3a
theorem fVR_f3(C4:¬(RatV a0.Margin.s a0.Margin.l1 a0.Margin.l2)):
  run (n+2) 20 [claimRV a0,.lit (.int .i64 a1)]=some (.lit (.bool false)):=by
 have K3:=rr_valid B3a
 unfold run fnP
 simp+decide [Tryz.f20,C1,C2,K3,C4]
section
variable(C4:RatV a0.Margin.s a0.Margin.l1 a0.Margin.l2)
include C4
theorem fVR_f4(C6:sgR a0.Margin.q<0):
  run (n+2) 20 [claimRV a0,.lit (.int .i64 a1)]=some (.lit (.bool false)):=by
 have K3:=rr_valid B3a
 have K5:=rr_sign B3a
 unfold run fnP
 simp+decide [Tryz.f20,C1,C2,K3,C4,K5,C6]
section
variable(C6:¬sgR a0.Margin.q<0)
include C6
theorem fVR_f5(C7:a0.Kind=1)(C8:0≤a0.Target)(C9:a0.Target<a1):
  run (n+2) 20 [claimRV a0,.lit (.int .i64 a1)]=some (.lit (.bool (((a0.Rows.length:Int)==0)))):=by
 have K3:=rr_valid B3a
 have K5:=rr_sign B3a
 have C7_:(a0.Kind==1)=true:=by rw [C7];simp
 have C7_n:(a0.Kind !=1)=false:=by rw [C7];simp
 unfold run fnP
 simp+decide [Tryz.f20,C1,C2,K3,C4,K5,C6,C7_,C7_n,C8,C9]
theorem fVR_f6(C7:a0.Kind=1)(C8:0≤a0.Target)(C9:¬a0.Target<a1):
  run (n+2) 20 [claimRV a0,.lit (.int .i64 a1)]=some (.lit (.bool false)):=by
 have K3:=rr_valid B3a
 have K5:=rr_sign B3a
 have C7_:(a0.Kind==1)=true:=by rw [C7];simp
 have C7_n:(a0.Kind !=1)=false:=by rw [C7];simp
 unfold run fnP
 simp+decide [Tryz.f20,C1,C2,K3,C4,K5,C6,C7_,C7_n,C8,C9]
theorem fVR_f7(C7:a0.Kind=1)(C8:¬0≤a0.Target):
  run (n+2) 20 [claimRV a0,.lit (.int .i64 a1)]=some (.lit (.bool false)):=by
 have K3:=rr_valid B3a
 have K5:=rr_sign B3a
 have C7_:(a0.Kind==1)=true:=by rw [C7];simp
 have C7_n:(a0.Kind !=1)=false:=by rw [C7];simp
 unfold run fnP
 simp+decide [Tryz.f20,C1,C2,K3,C4,K5,C6,C7_,C7_n,C8]
theorem fVR_f8(C7:¬a0.Kind=1)(C8:a0.Kind=2)(C9:a0.Target=0)(C10:1≤(a0.Rows.length:Int))(C11:(a0.Rows.length:Int)≤256)(K12:run (n+1) 55 [.sl 4 (a0.Rows.map formRC),.lit (.int .i64 a1)]=some (.lit (.bool r))):
  run (n+2) 20 [claimRV a0,.lit (.int .i64 a1)]=some (.lit (.bool r)):=by
 have K3:=rr_valid B3a
 have K5:=rr_sign B3a
 have C7_:(a0.Kind==1)=false:=by simpa using C7
 have C7_n:(a0.Kind !=1)=true:=by simpa using C7
 have C8_:(a0.Kind==2)=true:=by rw [C8];simp
 have C8_n:(a0.Kind !=2)=false:=by rw [C8];simp
 have C9_:(a0.Target==0)=true:=by rw [C9];simp
 have C9_n:(a0.Target !=0)=false:=by rw [C9];simp
 have C10_:1≤a0.Rows.length:=by omega
 have C11_:a0.Rows.length≤256:=by omega
 unfold run fnP
 simp+decide [Tryz.f20,C1,C2,K3,C4,K5,C6,C7_,C7_n,C8_,C8_n,C9_,C9_n,C10,C10_,C11,C11_,K12]
theorem fVR_f10(C7:¬a0.Kind=1)(C8:a0.Kind=2)(C9:a0.Target=0)(C10:¬1≤(a0.Rows.length:Int)):
  run (n+2) 20 [claimRV a0,.lit (.int .i64 a1)]=some (.lit (.bool false)):=by
 have K3:=rr_valid B3a
 have K5:=rr_sign B3a
 have C7_:(a0.Kind==1)=false:=by simpa using C7
 have C7_n:(a0.Kind !=1)=true:=by simpa using C7
 have C8_:(a0.Kind==2)=true:=by rw [C8];simp
 have C8_n:(a0.Kind !=2)=false:=by rw [C8];simp
 have C9_:(a0.Target==0)=true:=by rw [C9];simp
 have C9_n:(a0.Target !=0)=false:=by rw [C9];simp
 have C10_:¬1≤a0.Rows.length:=by omega
 unfold run fnP
 simp+decide [Tryz.f20,C1,C2,K3,C4,K5,C6,C7_,C7_n,C8_,C8_n,C9_,C9_n,C10,C10_]
theorem fVR_f11(C7:¬a0.Kind=1)(C8:a0.Kind=2)(C9:¬a0.Target=0):
  run (n+2) 20 [claimRV a0,.lit (.int .i64 a1)]=some (.lit (.bool false)):=by
 have K3:=rr_valid B3a
 have K5:=rr_sign B3a
 have C7_:(a0.Kind==1)=false:=by simpa using C7
 have C7_n:(a0.Kind !=1)=true:=by simpa using C7
 have C8_:(a0.Kind==2)=true:=by rw [C8];simp
 have C8_n:(a0.Kind !=2)=false:=by rw [C8];simp
 have C9_:(a0.Target==0)=false:=by simpa using C9
 have C9_n:(a0.Target !=0)=true:=by simpa using C9
 unfold run fnP
 simp+decide [Tryz.f20,C1,C2,K3,C4,K5,C6,C7_,C7_n,C8_,C8_n,C9_,C9_n]
theorem fVR_f12(C7:¬a0.Kind=1)(C8:¬a0.Kind=2):
  run (n+2) 20 [claimRV a0,.lit (.int .i64 a1)]=some (.lit (.bool false)):=by
 have K3:=rr_valid B3a
 have K5:=rr_sign B3a
 have C7_:(a0.Kind==1)=false:=by simpa using C7
 have C7_n:(a0.Kind !=1)=true:=by simpa using C7
 have C8_:(a0.Kind==2)=false:=by simpa using C8
 have C8_n:(a0.Kind !=2)=true:=by simpa using C8
 unfold run fnP
 simp+decide [Tryz.f20,C1,C2,K3,C4,K5,C6,C7_,C7_n,C8_,C8_n]
end
end
end
end
end
end
section
open Go.RowKit
attribute [local irreducible] run runL loopG exec
end
section
open Go.RowKit
noncomputable def vaR_C2:Code:=(loopsOf (bodyOf Tryz.f113)).getD 0 .skip
def vaR_h2(a0:FormR)(a1:Int)(i_2:Nat):St:=
 ⟨[(1,.lit (.int .i64 a1)),(2,.ptr 0 0),(5,.lit (.int .i64 (i_2:Int)))],
  [(0,some (.box 79 [.sl 4 (a0.1.map termRC),.lit (.bool a0.2.s),natA a0.2.l1,natA a0.2.l2] false))],1⟩
def vaR_o2a(a0:FormR):St:=
 ⟨[(2,.ptr 0 0),(4,.lit (.bool false))],
  [(0,some (.box 79 [.sl 4 (a0.1.map termRC),.lit (.bool a0.2.s),natA a0.2.l1,natA a0.2.l2] false))],1⟩
def vaR_o2b(a0:FormR):St:=
 ⟨[(2,.ptr 0 0),(4,.any)],
  [(0,some (.box 79 [.sl 4 (a0.1.map termRC),.lit (.bool a0.2.s),natA a0.2.l1,natA a0.2.l2] false))],1⟩
section
variable {r4 : Raw} {n : Nat} {i_2 : Nat} {v5 : Int} {a1 : Int} {a0 : FormR} {v4 : Int} {r5 : Raw}
section
variable(C1:(i_2:Int)<(a0.1.length:Int))(E2:a0.1[i_2]?=some (v4,r4))
include C1 E2
theorem vaR_r2_1(C3:¬v4<0)(C4:¬a1≤v4)(C5:0<(i_2:Int))(W6:InI ((i_2:Int)-1))(E7:a0.1[i_2-1]?=some (v5,r5))(Z7:1≤i_2)(C8:¬v4≤v5)(B9a:RawB r4)(C10:¬sgR r4.q=0)(C12:RatV r4.s r4.l1 r4.l2)(W13:InI ((i_2:Int)+1)):
  Cont 0 (exec Tryz.prog (tab n) 0 59 (livesOf 113) big vaR_C2) (livesOf 113 2) (vaR_h2 a0 a1 i_2) (vaR_h2 a0 a1 (i_2+1)):=by
 have C1_:i_2<a0.1.length:=by omega
 obtain ⟨EL2,EG2⟩:=List.getElem?_eq_some_iff.1 E2
 have C5_:0<i_2:=by omega
 have C5_z:(i_2:Int)≠0:=by omega
 have C5_e:((i_2:Int)==0)=false:=by simpa using C5_z
 have C5_g:((i_2:Int) !=0)=true:=by simpa using C5_z
 have W6_:IntKind.i64.wrap ((i_2:Int)-1)=(i_2:Int)-1:=wr64 W6.1 W6.2
 obtain ⟨EL7,EG7⟩:=List.getElem?_eq_some_iff.1 E7
 have Z7_0:(1:Int)≤(i_2:Int):=by omega
 have Z7_1:0≤(i_2:Int)-1:=by omega
 have K9:=rr_sign B9a
 have C10_:(sgR r4.q==0)=false:=by simpa using C10
 have C10_n:(sgR r4.q !=0)=true:=by simpa using C10
 have K11:=rr_valid B9a
 have W13_:IntKind.i64.wrap ((i_2:Int)+1)=(i_2:Int)+1:=wr64 W13.1 W13.2
 unfold Cont
 simp+decide [vaR_h2,loopsOf, Tryz.f113,vaR_C2,C1,C1_,EL2,EG2,E2,C3,C4,C5,C5_,C5_e,C5_g,W6_,EL7,EG7,E7,Z7,Z7_0,Z7_1,C8,K9,C10_,C10_n,K11,C12,W13_]
theorem vaR_r2_2(C3:¬v4<0)(C4:¬a1≤v4)(C5:¬0<(i_2:Int))(B6a:RawB r4)(C7:¬sgR r4.q=0)(C9:RatV r4.s r4.l1 r4.l2)(W10:InI ((i_2:Int)+1)):
  Cont 0 (exec Tryz.prog (tab n) 0 59 (livesOf 113) big vaR_C2) (livesOf 113 2) (vaR_h2 a0 a1 i_2) (vaR_h2 a0 a1 (i_2+1)):=by
 have C1_:i_2<a0.1.length:=by omega
 obtain ⟨EL2,EG2⟩:=List.getElem?_eq_some_iff.1 E2
 have C5_:¬0<i_2:=by omega
 have C5_z:(i_2:Int)=0:=by omega
 have C5_e:((i_2:Int)==0)=true:=by rw [C5_z];simp
 have C5_g:((i_2:Int) !=0)=false:=by rw [C5_z];simp
 have K6:=rr_sign B6a
 have C7_:(sgR r4.q==0)=false:=by simpa using C7
 have C7_n:(sgR r4.q !=0)=true:=by simpa using C7
 have K8:=rr_valid B6a
 have W10_:IntKind.i64.wrap ((i_2:Int)+1)=(i_2:Int)+1:=wr64 W10.1 W10.2
 unfold Cont
 simp+decide [vaR_h2,loopsOf, Tryz.f113,vaR_C2,C1,C1_,EL2,EG2,E2,C3,C4,C5,C5_,C5_e,C5_g,K6,C7_,C7_n,K8,C9,W10_]
theorem vaR_x2_1(C3:v4<0):
  Leave 0 (exec Tryz.prog (tab n) 0 59 (livesOf 113) big vaR_C2) (livesOf 113 (outOf 2)) (vaR_h2 a0 a1 i_2) (.ret) (vaR_o2a a0):=by
 have C1_:i_2<a0.1.length:=by omega
 obtain ⟨EL2,EG2⟩:=List.getElem?_eq_some_iff.1 E2
 unfold Leave
 simp+decide [vaR_h2,loopsOf, Tryz.f113,vaR_o2a,vaR_C2,C1,C1_,EL2,EG2,E2,C3]
theorem vaR_x2_2(C3:¬v4<0)(C4:a1≤v4):
  Leave 0 (exec Tryz.prog (tab n) 0 59 (livesOf 113) big vaR_C2) (livesOf 113 (outOf 2)) (vaR_h2 a0 a1 i_2) (.ret) (vaR_o2a a0):=by
 have C1_:i_2<a0.1.length:=by omega
 obtain ⟨EL2,EG2⟩:=List.getElem?_eq_some_iff.1 E2
 unfold Leave
 simp+decide [vaR_h2,loopsOf, Tryz.f113,vaR_o2a,vaR_C2,C1,C1_,EL2,EG2,E2,C3,C4]
section
variable(C3:¬v4<0)(C4:¬a1≤v4)
include C3 C4
section
variable(C5:0<(i_2:Int))(W6:InI ((i_2:Int)-1))(E7:a0.1[i_2-1]?=some (v5,r5))(Z7:1≤i_2)
include C5 W6 E7 Z7
theorem vaR_x2_3(C8:v4≤v5):
  Leave 0 (exec Tryz.prog (tab n) 0 59 (livesOf 113) big vaR_C2) (livesOf 113 (outOf 2)) (vaR_h2 a0 a1 i_2) (.ret) (vaR_o2a a0):=by
 have C1_:i_2<a0.1.length:=by omega
 obtain ⟨EL2,EG2⟩:=List.getElem?_eq_some_iff.1 E2
 have C5_:0<i_2:=by omega
 have C5_z:(i_2:Int)≠0:=by omega
 have C5_e:((i_2:Int)==0)=false:=by simpa using C5_z
 have C5_g:((i_2:Int) !=0)=true:=by simpa using C5_z
 have W6_:IntKind.i64.wrap ((i_2:Int)-1)=(i_2:Int)-1:=wr64 W6.1 W6.2
 obtain ⟨EL7,EG7⟩:=List.getElem?_eq_some_iff.1 E7
 have Z7_0:(1:Int)≤(i_2:Int):=by omega
 have Z7_1:0≤(i_2:Int)-1:=by omega
 unfold Leave
 simp+decide [vaR_h2,loopsOf, Tryz.f113,vaR_o2a,vaR_C2,C1,C1_,EL2,EG2,E2,C3,C4,C5,C5_,C5_e,C5_g,W6_,EL7,EG7,E7,Z7,Z7_0,Z7_1,C8]
theorem vaR_x2_4(C8:¬v4≤v5)(B9a:RawB r4)(C10:sgR r4.q=0):
  Leave 0 (exec Tryz.prog (tab n) 0 59 (livesOf 113) big vaR_C2) (livesOf 113 (outOf 2)) (vaR_h2 a0 a1 i_2) (.ret) (vaR_o2a a0):=by
 have C1_:i_2<a0.1.length:=by omega
 obtain ⟨EL2,EG2⟩:=List.getElem?_eq_some_iff.1 E2
 have C5_:0<i_2:=by omega
 have C5_z:(i_2:Int)≠0:=by omega
 have C5_e:((i_2:Int)==0)=false:=by simpa using C5_z
 have C5_g:((i_2:Int) !=0)=true:=by simpa using C5_z
 have W6_:IntKind.i64.wrap ((i_2:Int)-1)=(i_2:Int)-1:=wr64 W6.1 W6.2
 obtain ⟨EL7,EG7⟩:=List.getElem?_eq_some_iff.1 E7
 have Z7_0:(1:Int)≤(i_2:Int):=by omega
 have Z7_1:0≤(i_2:Int)-1:=by omega
 have K9:=rr_sign B9a
 have C10_:(sgR r4.q==0)=true:=by rw [C10];simp
 have C10_n:(sgR r4.q !=0)=false:=by rw [C10];simp
 unfold Leave
 simp+decide [vaR_h2,loopsOf, Tryz.f113,vaR_o2a,vaR_C2,C1,C1_,EL2,EG2,E2,C3,C4,C5,C5_,C5_e,C5_g,W6_,EL7,EG7,E7,Z7,Z7_0,Z7_1,C8,K9,C10_,C10_n]
theorem vaR_x2_5(C8:¬v4≤v5)(B9a:RawB r4)(C10:¬sgR r4.q=0)(C12:¬(RatV r4.s r4.l1 r4.l2)):
  Leave 0 (exec Tryz.prog (tab n) 0 59 (livesOf 113) big vaR_C2) (livesOf 113 (outOf 2)) (vaR_h2 a0 a1 i_2) (.ret) (vaR_o2a a0):=by
 have C1_:i_2<a0.1.length:=by omega
 obtain ⟨EL2,EG2⟩:=List.getElem?_eq_some_iff.1 E2
 have C5_:0<i_2:=by omega
 have C5_z:(i_2:Int)≠0:=by omega
 have C5_e:((i_2:Int)==0)=false:=by simpa using C5_z
 have C5_g:((i_2:Int) !=0)=true:=by simpa using C5_z
 have W6_:IntKind.i64.wrap ((i_2:Int)-1)=(i_2:Int)-1:=wr64 W6.1 W6.2
 obtain ⟨EL7,EG7⟩:=List.getElem?_eq_some_iff.1 E7
 have Z7_0:(1:Int)≤(i_2:Int):=by omega
 have Z7_1:0≤(i_2:Int)-1:=by omega
 have K9:=rr_sign B9a
 have C10_:(sgR r4.q==0)=false:=by simpa using C10
 have C10_n:(sgR r4.q !=0)=true:=by simpa using C10
 have K11:=rr_valid B9a
 unfold Leave
 simp+decide [vaR_h2,loopsOf, Tryz.f113,vaR_o2a,vaR_C2,C1,C1_,EL2,EG2,E2,C3,C4,C5,C5_,C5_e,C5_g,W6_,EL7,EG7,E7,Z7,Z7_0,Z7_1,C8,K9,C10_,C10_n,K11,C12]
end
theorem vaR_x2_6(C5:¬0<(i_2:Int))(B6a:RawB r4)(C7:sgR r4.q=0):
  Leave 0 (exec Tryz.prog (tab n) 0 59 (livesOf 113) big vaR_C2) (livesOf 113 (outOf 2)) (vaR_h2 a0 a1 i_2) (.ret) (vaR_o2a a0):=by
 have C1_:i_2<a0.1.length:=by omega
 obtain ⟨EL2,EG2⟩:=List.getElem?_eq_some_iff.1 E2
 have C5_:¬0<i_2:=by omega
 have C5_z:(i_2:Int)=0:=by omega
 have C5_e:((i_2:Int)==0)=true:=by rw [C5_z];simp
 have C5_g:((i_2:Int) !=0)=false:=by rw [C5_z];simp
 have K6:=rr_sign B6a
 have C7_:(sgR r4.q==0)=true:=by rw [C7];simp
 have C7_n:(sgR r4.q !=0)=false:=by rw [C7];simp
 unfold Leave
 simp+decide [vaR_h2,loopsOf, Tryz.f113,vaR_o2a,vaR_C2,C1,C1_,EL2,EG2,E2,C3,C4,C5,C5_,C5_e,C5_g,K6,C7_,C7_n]
theorem vaR_x2_7(C5:¬0<(i_2:Int))(B6a:RawB r4)(C7:¬sgR r4.q=0)(C9:¬(RatV r4.s r4.l1 r4.l2)):
  Leave 0 (exec Tryz.prog (tab n) 0 59 (livesOf 113) big vaR_C2) (livesOf 113 (outOf 2)) (vaR_h2 a0 a1 i_2) (.ret) (vaR_o2a a0):=by
 have C1_:i_2<a0.1.length:=by omega
 obtain ⟨EL2,EG2⟩:=List.getElem?_eq_some_iff.1 E2
 have C5_:¬0<i_2:=by omega
 have C5_z:(i_2:Int)=0:=by omega
 have C5_e:((i_2:Int)==0)=true:=by rw [C5_z];simp
 have C5_g:((i_2:Int) !=0)=false:=by rw [C5_z];simp
 have K6:=rr_sign B6a
 have C7_:(sgR r4.q==0)=false:=by simpa using C7
 have C7_n:(sgR r4.q !=0)=true:=by simpa using C7
 have K8:=rr_valid B6a
 unfold Leave
 simp+decide [vaR_h2,loopsOf, Tryz.f113,vaR_o2a,vaR_C2,C1,C1_,EL2,EG2,E2,C3,C4,C5,C5_,C5_e,C5_g,K6,C7_,C7_n,K8,C9]
end
end
theorem vaR_x2_8(C1:¬(i_2:Int)<(a0.1.length:Int)):
  Leave 0 (exec Tryz.prog (tab n) 0 59 (livesOf 113) big vaR_C2) (livesOf 113 (outOf 2)) (vaR_h2 a0 a1 i_2) (.exit 0) (vaR_o2b a0):=by
 have C1_:¬i_2<a0.1.length:=by omega
 unfold Leave
 simp+decide [vaR_h2,loopsOf, Tryz.f113,vaR_o2b,vaR_C2,C1,C1_]
theorem vaR_f1(L1:loopG Tryz.prog (tab n) 0 59 (livesOf 113) 2 vaR_C2 (vaR_h2 a0 a1 0)=some (.ret,vaR_o2a a0)):
  run n 113 [.agg [.sl 4 (a0.1.map termRC),.lit (.bool a0.2.s),natA a0.2.l1,natA a0.2.l2],.lit (.int .i64 a1)]=some (.lit (.bool false)):=by
 unfold run fnP
 simp+decide [Tryz.f113]
 rw [loopX_G (C':=vaR_C2) (e:=(vaR_h2 a0 a1 0)) ?_ ?_,L1]
 rotate_left
 ·kernel_rfl
 ·simp+decide [vaR_h2]
 simp+decide [vaR_o2a]
theorem vaR_f2(L1:loopG Tryz.prog (tab n) 0 59 (livesOf 113) 2 vaR_C2 (vaR_h2 a0 a1 0)=some (.exit 0,vaR_o2b a0))(B2a:RawB a0.2):
  run n 113 [.agg [.sl 4 (a0.1.map termRC),.lit (.bool a0.2.s),natA a0.2.l1,natA a0.2.l2],.lit (.int .i64 a1)]=some (.lit (.bool (decide (RatV a0.2.s a0.2.l1 a0.2.l2)))):=by
 have K2:=rr_valid B2a
 unfold run fnP
 simp+decide [Tryz.f113,K2]
 rw [loopX_G (C':=vaR_C2) (e:=(vaR_h2 a0 a1 0)) ?_ ?_,L1]
 rotate_left
 ·kernel_rfl
 ·simp+decide [vaR_h2,K2]
 simp+decide [vaR_o2b,K2]
end
end
section
open Go.RowKit
attribute [local irreducible] run runL loopG exec
def frV(f:FormR):AV:=.agg [.sl 4 (f.1.map termRC),.lit (.bool f.2.s),natA f.2.l1,natA f.2.l2]
def LimR2(r:Raw):Prop:=Lim r.l1∧Lim r.l2
structure LimF (f:FormR):Prop where
 t:∀t∈f.1,LimR2 t.2
 k:LimR2 f.2
def Two(r:Raw):Prop:=r.l1.length≤2∧r.l2.length≤2
def FewR(l:List (Int × Raw))(c:Raw):Prop:=l.length≤8∧Two c∧∀t∈l,Two t.2
theorem Two.rb{r:Raw}(h:Two r)(hl:LimR2 r):RawB r:=⟨hl.1,hl.2,by have:=h.1;omega,by have:=h.2;omega⟩
def Cn(r:Raw):Prop:=RatV r.s r.l1 r.l2
theorem Cn.raw{r:Raw}(h:Cn r):r=rawQ r.q:=by
 obtain ⟨s,l1,l2⟩:=r
 obtain ⟨h1,h2,h3⟩:=h
 dsimp only at h1 h2 h3
 unfold Raw.q rawQ
 dsimp only
 rw [←h1,←h2,←h3]
theorem dlmb_H(d:Nat):(lmb d).length≤max 1 (dlmb d).length:=by
 unfold dlmb
 split
 ·rename_i h;subst h;rw [lmb_one];simp
 ·exact Nat.le_max_right _ _
theorem Cn.HB{r:Raw}{m:Nat}(h:Cn r)(hm:1≤m)(h1:r.l1.length≤m)(h2:r.l2.length≤m):H r.q≤m:=by
 have e:=h.raw
 have a1:(lmb r.q.num.natAbs).length≤m:=by have:=congrArg Raw.l1 e;rw [this] at h1;exact h1
 have a2:(dlmb r.q.den).length≤m:=by have:=congrArg Raw.l2 e;rw [this] at h2;exact h2
 have a3:=dlmb_H r.q.den
 unfold Go.Proofs.YtnegdhjdienjlaaGreatDoor.H
 omega
theorem Cn.H{r:Raw}(h:Cn r)(ht:Two r):H r.q≤2:=h.HB (by omega) ht.1 ht.2
def OkTmR(F:List (Int × Raw))(vars:Int)(i:Nat):Prop:=∀v c,F[i]?=some (v,c)→0≤v∧v<vars∧c.q≠0∧Cn c∧∀v' c',0<i→F[i-1]?=some (v',c')→v'<v
def OkFR(f:FormR)(vars:Int):Prop:=(∀i,i<f.1.length→OkTmR f.1 vars i)∧Cn f.2
theorem validRB_c{n:Nat}{f:FormR}{vars:Int}(h8:f.1.length≤100000)(hrbs:∀t∈f.1,RawB t.2)(hkb:RawB f.2):run n 113 [frV f,.lit (.int .i64 vars)]=some (.lit (.bool (tv (OkFR f vars)))):=by
 have L:=loopG_all (O:=tab n) (P:= Tryz.prog) (m:=0) (N:=59) (lives:=livesOf 113) (r:=2) (C:=vaR_C2) (M:=f.1.length) (enc:=vaR_h2 f vars) (p:=fun i=>tv (OkTmR f.1 vars i)) (exN:=.exit 0) (exE:=.ret) (out:=vaR_o2b f) (outE:=vaR_o2a f) (by omega) (fun h=>by cases h) (fun h=>by cases h)
  (fun i hi _=>by
   have hx:f.1[i]?=some f.1[i]:=List.getElem?_eq_getElem hi
   obtain ⟨t,ht⟩:∃t,f.1[i]=t:=⟨_,rfl⟩
   rw [ht] at hx
   obtain ⟨v,r⟩:=t
   have hm:(v,r)∈f.1:=List.mem_of_getElem? hx
   have hrb:RawB r:=hrbs _ hm
   have C1:(i:Int)<(f.1.length:Int):=by omega
   have hp:0<i→∃v' r',f.1[i-1]?=some (v',r'):=fun h0=>⟨(f.1[i-1]'(by omega)).1,(f.1[i-1]'(by omega)).2,List.getElem?_eq_getElem _⟩
   refine ⟨fun hp'=>?_,fun hp'=>?_⟩
   ·obtain ⟨a1,a2,a3,a4,a5⟩:=tv_true hp' v r hx
    have s0:¬sgR r.q=0:=fun h=>a3 (sgR_eq_zero.1 h)
    by_cases h0:0<i
    ·obtain ⟨v',r',hx'⟩:=hp h0
     have:=a5 v' r' h0 hx'
     exact vaR_r2_1 C1 hx (by omega) (by omega) (by omega) ⟨by omega,by omega⟩ hx' (by omega) (by omega) hrb s0 a4 ⟨by omega,by omega⟩
    ·exact vaR_r2_2 C1 hx (by omega) (by omega) (by omega) hrb s0 a4 ⟨by omega,by omega⟩
   ·have hq:=tv_false hp'
    by_cases b1:v<0
    ·exact vaR_x2_1 C1 hx b1
    by_cases b2:vars≤v
    ·exact vaR_x2_2 C1 hx b1 b2
    by_cases h0:0<i
    ·obtain ⟨v',r',hx'⟩:=hp h0
     by_cases b3:v≤v'
     ·exact vaR_x2_3 C1 hx b1 b2 (by omega) ⟨by omega,by omega⟩ hx' (by omega) b3
     by_cases b4:sgR r.q=0
     ·exact vaR_x2_4 C1 hx b1 b2 (by omega) ⟨by omega,by omega⟩ hx' (by omega) b3 hrb b4
     refine vaR_x2_5 C1 hx b1 b2 (by omega) ⟨by omega,by omega⟩ hx' (by omega) b3 hrb b4 fun b5=>hq fun v2 c2 h2=>?_
     rw [hx] at h2;cases h2
     refine ⟨by omega,by omega,fun h=>b4 (sgR_eq_zero.2 h),b5,fun v3 c3 _ h3=>?_⟩
     rw [hx'] at h3;cases h3
     omega
    ·by_cases b4:sgR r.q=0
     ·exact vaR_x2_6 C1 hx b1 b2 (by omega) hrb b4
     refine vaR_x2_7 C1 hx b1 b2 (by omega) hrb b4 fun b5=>hq fun v2 c2 h2=>?_
     rw [hx] at h2;cases h2
     exact ⟨by omega,by omega,fun h=>b4 (sgR_eq_zero.2 h),b5,fun v3 c3 h9 h3=>absurd h9 h0⟩)
  (vaR_x2_8 (by omega))
 by_cases hA:∀i,i<f.1.length→tv (OkTmR f.1 vars i)=true
 ·rw [if_pos hA] at L
  have h:=vaR_f2 L hkb
  have e:decide (RatV f.2.s f.2.l1 f.2.l2)=tv (OkFR f vars):=by
   by_cases hk:Cn f.2
   ·rw [tv_t ⟨fun i hi=>tv_true (hA i hi),hk⟩];exact decide_eq_true hk
   ·rw [tv_f fun h=>hk h.2];exact decide_eq_false hk
  rw [e] at h
  exact h
 ·rw [if_neg hA] at L
  rw [tv_f fun h=>hA fun i hi=>tv_t (h.1 i hi)]
  exact vaR_f1 L
theorem validR_c{n:Nat}{f:FormR}{vars:Int}(hl:LimF f)(hf:FewR f.1 f.2):run n 113 [frV f,.lit (.int .i64 vars)]=some (.lit (.bool (tv (OkFR f vars)))):=
 validRB_c (by have:=hf.1;omega) (fun t ht=>(hf.2.2 t ht).rb (hl.t t ht)) (hf.2.1.rb hl.k)
def unR(f:FormR):Form:=(f.1.map fun t=>(t.1,t.2.q),f.2.q)
theorem small_formB{f:FormR}{vars:Int}{m:Nat}(hm:1≤m)(ht:∀t∈f.1,t.2.l1.length≤m∧t.2.l2.length≤m)(hk:f.2.l1.length≤m∧f.2.l2.length≤m)(ho:OkFR f vars):frV f=formV (unR f)∧(unR f).1.length=f.1.length∧(∀t∈(unR f).1,H t.2≤m)∧H (unR f).2≤m∧OkFm (unR f) vars:=by
 have hc:∀t∈f.1,Cn t.2:=fun t ht=>by
  obtain ⟨i,hi⟩:=List.mem_iff_getElem?.1 ht
  exact (ho.1 i (List.getElem?_eq_some_iff.1 hi).1 t.1 t.2 hi).2.2.2.1
 refine ⟨?_,by simp [unR],fun t h9=>?_,ho.2.HB hm hk.1 hk.2,fun i hi v c h=>?_⟩
 ·have e1:f.1.map termRC=(unR f).1.map termC:=by
   simp only [unR,List.map_map]
   apply List.map_congr_left
   intro t ht
   have e:=(hc t ht).raw
   simp only [Function.comp,termRC,termC,ratC]
   rw [←e]
  have e2:=ho.2.raw
  unfold frV
  simp only [formV,e1]
  have e3:rawQ (unR f).2=f.2:=e2.symm
  rw [e3]
 ·simp only [unR,List.mem_map] at h9
  obtain ⟨u,hu,rfl⟩:=h9
  exact (hc u hu).HB hm (ht u hu).1 (ht u hu).2
 ·simp only [unR,List.length_map] at hi
  simp only [unR,List.getElem?_map] at h
  obtain ⟨u,hu,he⟩:=Option.map_eq_some_iff.1 h
  cases he
  obtain ⟨a1,a2,a3,_,a5⟩:=ho.1 i hi u.1 u.2 hu
  refine ⟨a1,a2,a3,fun v' c' h0 h'=>?_⟩
  simp only [unR,List.getElem?_map] at h'
  obtain ⟨u',hu',he'⟩:=Option.map_eq_some_iff.1 h'
  cases he'
  exact a5 u'.1 u'.2 h0 hu'
end
end Go.Proofs.YtnegdhjdienjlaaGreatDoor
