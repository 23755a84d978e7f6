import Derived.Test.YtefdjbknmfeooaaGreatDoorGO18
import Derived.Test.YtefdjbknmfeooaaGreatDoorGO17
import Derived.Test.YtefdjbknmfeooaaGreatDoorGO13
import Derived.Test.YtefdjbknmfeooaaGreatDoorGO16
set_option linter.all false
set_option maxHeartbeats 6400000
set_option maxRecDepth 100000
namespace Go.Proofs.YtefdjbknmfeooaaGreatDoor
section
open Go.RowKit
attribute [local irreducible] run runL loopG exec
theorem rst_plus{F:List (Int × Rat)}{v:Int}(h:Srt F):plusV false F v (-(cof F v))=rst F v:=by
 obtain ⟨a1,a2,_⟩:=plus_srt (v:=v) (c:=-(cof F v)) h
 refine srt_ext a1 (rst_srt h) fun u=>?_
 rw [a2,rst_cof]
 split
 ·rename_i e;subst e;grind
 ·grind
def lstC(v:Int):Rat→List (Int × Rat)→Rat
 | s,[]=>s
 | s,t::F=>lstC v (if t.1=v then t.2 else s) F
theorem lstC_no{v:Int}:∀{F:List (Int × Rat)} {s:Rat},(∀t∈F,t.1≠v)→lstC v s F=s
 | [],_,_=>rfl
 | t::F,s,h=>by
   rw [lstC,if_neg (h t (by simp))]
   exact lstC_no fun u hu=>h u (by simp [hu])
theorem lstC_cof{v:Int}:∀{F:List (Int × Rat)},Srt F→lstC v 0 F=cof F v
 | [],_=>rfl
 | t::F,h=>by
   rw [lstC]
   by_cases e:t.1=v
   ·rw [if_pos e,cof_hd e.symm]
    exact lstC_no fun u hu=>by have:=h.head u hu;omega
   ·rw [if_neg e,cof_tl (by omega)]
    exact lstC_cof h.tail
def sbF(v:Int)(_:Nat)(b:List (Int × Rat) × Rat)(t:Int × Rat):List (Int × Rat) × Rat:=if t.1=v then (b.1,t.2) else (b.1++[t],b.2)
theorem sbF_fold{v:Int}:∀{F:List (Int × Rat)} {i:Nat} {b:List (Int × Rat) × Rat},foldI (sbF v) i b F=(b.1++rst F v,lstC v b.2 F)
 | [],i,b=>by
   have e:rst [] v=[]:=rfl
   rw [foldI,e,List.append_nil,lstC]
 | t::F,i,b=>by
   rw [foldI,sbF_fold,lstC]
   unfold sbF
   by_cases e:t.1=v
   ·rw [if_pos e,if_pos e,rst_eq e]
   ·rw [if_neg e,if_neg e,rst_ne e]
    simp
theorem lsb_c{n:Nat}{f g:Form}{v:Int}{b:Nat}(hS:Srt f.1)(hF:∀t∈f.1,H t.2≤b)(hG:∀t∈g.1,H t.2≤b)(hb:b≤1000000)(h1:1≤b)(hk:H f.2≤1000000)(hk2:H g.2≤1000000)(hlf:f.1.length≤1000000)(hlg:g.1.length≤1000000):
  run (n+2) 105 [formV f,.lit (.int .i64 v),formV g]=some (formV (mergeV (rst f.1 v) g.1 (cof f.1 v),f.2+g.2*cof f.1 v)):=by
 have L:=loopG_I (O:=tab (n+2)) (P:= Tryz.prog) (m:=0) (N:=39) (lives:=livesOf 105) (r:=4) (C:=lsb_C4) (L:=f.1) (f:=sbF v) (enc:=fun i b=>lsb_h4 f v g i b.1 b.2) (exN:=.exit 0) (out:=fun b=>lsb_o4a f g b.1 b.2) (Inv:=fun i b=>b.1.length≤i∧i≤f.1.length) ([],0) ⟨by simp,by omega⟩ (by omega) (fun h=>by cases h)
  (fun i t s hi hI=>by
   obtain ⟨u,c⟩:=t
   obtain ⟨hI,_⟩:=hI
   have hlt:=(List.getElem?_eq_some_iff.1 hi).1
   unfold sbF
   by_cases e:u=v
   ·rw [if_pos e]
    exact ⟨lsb_r4_1 (by omega) hi e ⟨by omega,by omega⟩,by dsimp only;omega,hlt⟩
   ·rw [if_neg e]
    exact ⟨lsb_r4_2 (by omega) hi e (by omega) ⟨by omega,by omega⟩,by simp;omega,hlt⟩)
  (fun b hI=>lsb_x4_1 (by have:=hI.2;omega))
 have L:=L.1
 rw [sbF_fold] at L
 dsimp only at L
 rw [List.nil_append,lstC_cof hS] at L
 have hc:H (cof f.1 v)≤b:=cof_H hF h1
 have hr:=rst_len f.1 v
 exact lsb_f1 L (merge_c (n:=n) (f:=(rst f.1 v,f.2)) (b:=b) (fun t ht=>hF t (rst_mem ht)) hG hb (by omega) hk hk2 (by dsimp only;omega) hlg)
end
theorem Cont_m{m:Nat}{step:St→Option (Ex × St)}{live:List Nat}{s t:St}(h:(match step s with|some (.nrm,s')=>gc m live s'=some t|_=>False)):Cont m step live s t:=by
 revert h
 split
 ·next s' h=>exact fun h2=>⟨s',h,h2⟩
 ·exact False.elim
theorem Leave_m{m:Nat}{step:St→Option (Ex × St)}{live:List Nat}{s t:St}{ex:Ex}(h:(match step s with|some (e,s')=>e=ex∧gc m live s'=some t|none=>False)):Leave m step live s ex t:=by
 revert h
 split
 ·next e s' h=>exact fun h2=>⟨s',by rw [h,h2.1],h2.2⟩
 ·exact False.elim
section
open Go.RowKit
noncomputable def low_C3:Code:=(loopsOf (bodyOf Tryz.f58)).getD 0 .skip
def low_h3(a0:Form)(a1:Int)(i_3:Nat)(out_3:List (Int × Rat)):St:=
 ⟨[(1,.lit (.int .i64 a1)),(2,.ptr 0 0),(4,.ptr 1 0),(5,.ptr 2 0),(6,.lit (.int .i64 (i_3:Int)))],
  [(0,some (.box 45 [.sl 4 (a0.1.map termC),.lit (.bool (rawQ a0.2).s),natA (rawQ a0.2).l1,natA (rawQ a0.2).l2] false)),
   (1,some (.box 45 [.nl 4,.lit (.bool false),.nl 1,.nl 1] false)),
   (2,some (.box 45 [.own 3 out_3.length,.lit (.bool (rawQ a0.2).s),natA (rawQ a0.2).l1,natA (rawQ a0.2).l2] false)),
   (3,some (.row 57 4 (out_3.map termC) 0))],4⟩
def low_o3a(a0:Form)(out_3:List (Int × Rat)):St:=
 ⟨[(4,.ptr 0 0),(5,.ptr 1 0)],
  [(0,some (.box 45 [.nl 4,.lit (.bool false),.nl 1,.nl 1] false)),
   (1,some (.box 45 [.own 2 out_3.length,.lit (.bool (rawQ a0.2).s),natA (rawQ a0.2).l1,natA (rawQ a0.2).l2] false)),
   (2,some (.row 57 4 (out_3.map termC) 0))],3⟩
section
variable{n:Nat}{v3:Int}{a1:Int}{q3:Rat}{i_3:Nat}{a0:Form}{out_3:List (Int × Rat)}
theorem low_r3_1(C1:(i_3:Int)<(a0.1.length:Int))(E2:a0.1[i_3]?=some (v3,q3))(C3:a1<v3)(W4:InI (v3-1))(M5:out_3.length+1≤100000000)(W6:InI ((i_3:Int)+1)):
  Cont 0 (exec Tryz.prog (tab n) 0 38 (livesOf 58) big low_C3) (livesOf 58 3) (low_h3 a0 a1 i_3 out_3) (low_h3 a0 a1 (i_3+1) (out_3++[(v3-1,q3)])):=by
 have C1_:i_3<a0.1.length:=by omega
 obtain ⟨EL2,EG2⟩:=List.getElem?_eq_some_iff.1 E2
 have W4_:IntKind.i64.wrap (v3-1)=v3-1:=wr64 W4.1 W4.2
 have M5_:∀b,b≤10000→roomy (out_3.length+1) b=true:=fun b hb=>roomy_s M5 hb
 have M5_r:1+(out_3.length)=out_3.length+1:=Nat.add_comm _ _
 have W6_:IntKind.i64.wrap ((i_3:Int)+1)=(i_3:Int)+1:=wr64 W6.1 W6.2
 apply Cont_m
 simp+decide [low_h3,loopsOf, Tryz.f58,low_C3,C1,C1_,EL2,EG2,E2,C3,W4_,M5_,M5_r,W6_]
theorem low_r3_2(C1:(i_3:Int)<(a0.1.length:Int))(E2:a0.1[i_3]?=some (v3,q3))(C3:¬a1<v3)(M4:out_3.length+1≤100000000)(W5:InI ((i_3:Int)+1)):
  Cont 0 (exec Tryz.prog (tab n) 0 38 (livesOf 58) big low_C3) (livesOf 58 3) (low_h3 a0 a1 i_3 out_3) (low_h3 a0 a1 (i_3+1) (out_3++[(v3,q3)])):=by
 have C1_:i_3<a0.1.length:=by omega
 obtain ⟨EL2,EG2⟩:=List.getElem?_eq_some_iff.1 E2
 have M4_:∀b,b≤10000→roomy (out_3.length+1) b=true:=fun b hb=>roomy_s M4 hb
 have M4_r:1+(out_3.length)=out_3.length+1:=Nat.add_comm _ _
 have W5_:IntKind.i64.wrap ((i_3:Int)+1)=(i_3:Int)+1:=wr64 W5.1 W5.2
 apply Cont_m
 simp+decide [low_h3,loopsOf, Tryz.f58,low_C3,C1,C1_,EL2,EG2,E2,C3,M4_,M4_r,W5_]
theorem low_x3_1(C1:¬(i_3:Int)<(a0.1.length:Int)):
  Leave 0 (exec Tryz.prog (tab n) 0 38 (livesOf 58) big low_C3) (livesOf 58 (outOf 3)) (low_h3 a0 a1 i_3 out_3) (.exit 0) (low_o3a a0 out_3):=by
 have C1_:¬i_3<a0.1.length:=by omega
 apply Leave_m
 simp+decide [low_h3,loopsOf, Tryz.f58,low_o3a,low_C3,C1,C1_]
theorem low_f1(L1:loopG Tryz.prog (tab n) 0 38 (livesOf 58) 3 low_C3 (low_h3 a0 a1 0 [])=some (.exit 0,low_o3a a0 out_3)):
  run n 58 [formV a0,.lit (.int .i64 a1)]=some (formV (out_3,a0.2)):=by
 unfold run fnP
 simp+decide [Tryz.f58]
 rw [loopX_G (C':=low_C3) (e:=(low_h3 a0 a1 0 [])) ?_ ?_,L1]
 rotate_left
 ·kernel_rfl
 ·simp+decide [low_h3]
 simp+decide [low_o3a]
end
noncomputable def has_C2:Code:=(loopsOf (bodyOf Tryz.f48)).getD 0 .skip
def has_h2(a0:Form)(a1:Int)(i_2:Nat):St:=
 ⟨[(1,.lit (.int .i64 a1)),(2,.ptr 0 0),(5,.lit (.int .i64 (i_2:Int)))],
  [(0,some (.box 45 [.sl 4 (a0.1.map termC),.lit (.bool (rawQ a0.2).s),natA (rawQ a0.2).l1,natA (rawQ a0.2).l2] false))],1⟩
def has_o2a:St:=
 ⟨[(4,.lit (.bool true))],
  [],0⟩
def has_o2b:St:=
 ⟨[(4,.any)],
  [],0⟩
section
variable {n : Nat} {v3 : Int} {a1 : Int} {i_2 : Nat} {q3 : Rat} {a0 : Form}
theorem has_r2_1(C1:(i_2:Int)<(a0.1.length:Int))(E2:a0.1[i_2]?=some (v3,q3))(C3:¬v3=a1)(W4:InI ((i_2:Int)+1)):
  Cont 0 (exec Tryz.prog (tab n) 0 21 (livesOf 48) big has_C2) (livesOf 48 2) (has_h2 a0 a1 i_2) (has_h2 a0 a1 (i_2+1)):=by
 have C1_:i_2<a0.1.length:=by omega
 obtain ⟨EL2,EG2⟩:=List.getElem?_eq_some_iff.1 E2
 have C3_:(v3==a1)=false:=by simpa using C3
 have C3_n:(v3 !=a1)=true:=by simpa using C3
 have W4_:IntKind.i64.wrap ((i_2:Int)+1)=(i_2:Int)+1:=wr64 W4.1 W4.2
 apply Cont_m
 simp+decide [has_h2,loopsOf, Tryz.f48,has_C2,C1,C1_,EL2,EG2,E2,C3_,C3_n,W4_]
theorem has_x2_1(C1:(i_2:Int)<(a0.1.length:Int))(E2:a0.1[i_2]?=some (v3,q3))(C3:v3=a1):
  Leave 0 (exec Tryz.prog (tab n) 0 21 (livesOf 48) big has_C2) (livesOf 48 (outOf 2)) (has_h2 a0 a1 i_2) (.ret) (has_o2a):=by
 have C1_:i_2<a0.1.length:=by omega
 obtain ⟨EL2,EG2⟩:=List.getElem?_eq_some_iff.1 E2
 have C3_:(v3==a1)=true:=by rw [C3];simp
 have C3_n:(v3 !=a1)=false:=by rw [C3];simp
 apply Leave_m
 simp+decide [has_h2,loopsOf, Tryz.f48,has_o2a,has_C2,C1,C1_,EL2,EG2,E2,C3_,C3_n]
theorem has_x2_2(C1:¬(i_2:Int)<(a0.1.length:Int)):
  Leave 0 (exec Tryz.prog (tab n) 0 21 (livesOf 48) big has_C2) (livesOf 48 (outOf 2)) (has_h2 a0 a1 i_2) (.exit 0) (has_o2b):=by
 have C1_:¬i_2<a0.1.length:=by omega
 apply Leave_m
 simp+decide [has_h2,loopsOf, Tryz.f48,has_o2b,has_C2,C1,C1_]
theorem has_f1(L1:loopG Tryz.prog (tab n) 0 21 (livesOf 48) 2 has_C2 (has_h2 a0 a1 0)=some (.ret,has_o2a)):
  run n 48 [formV a0,.lit (.int .i64 a1)]=some (.lit (.bool true)):=by
 unfold run fnP
 simp+decide [Tryz.f48]
 rw [loopX_G (C':=has_C2) (e:=(has_h2 a0 a1 0)) ?_ ?_,L1]
 rotate_left
 ·kernel_rfl
 ·simp+decide [has_h2]
 simp+decide [has_o2a]
theorem has_f2(L1:loopG Tryz.prog (tab n) 0 21 (livesOf 48) 2 has_C2 (has_h2 a0 a1 0)=some (.exit 0,has_o2b)):
  run n 48 [formV a0,.lit (.int .i64 a1)]=some (.lit (.bool false)):=by
 unfold run fnP
 simp+decide [Tryz.f48]
 rw [loopX_G (C':=has_C2) (e:=(has_h2 a0 a1 0)) ?_ ?_,L1]
 rotate_left
 ·kernel_rfl
 ·simp+decide [has_h2]
 simp+decide [has_o2b]
end
noncomputable def rRp_C4:Code:=(loopsOf (bodyOf Tryz.f37)).getD 0 .skip
noncomputable def rRp_C11:Code:=(loopsOf (bodyOf Tryz.f37)).getD 1 .skip
def rRp_h4(a0:TGraph)(a1:Int)(a2:Form)(i_4:Nat)(out_4:List Form):St:=
 ⟨[(1,.lit (.int .i64 a1)),(3,.ptr 0 0),(5,.ptr 1 0),(6,.ptr 2 0),(7,.lit (.int .i64 (a0.Inputs+a1))),(8,.ptr 3 0),(9,.lit (.int .i64 (i_4:Int)))],
  [(0,some (.box 24 [.lit (.int .i64 (a0.Inputs)),.sl 4 (a0.Units.map formC),.sl 4 (a0.Outputs.map formC)] false)),
   (1,some (.box 45 [.sl 4 (a2.1.map termC),.lit (.bool (rawQ a2.2).s),natA (rawQ a2.2).l1,natA (rawQ a2.2).l2] false)),
   (2,some (.box 24 [.lit (.int .i64 0),.nl 4,.nl 4] false)),
   (3,some (.box 24 [.lit (.int .i64 (a0.Inputs)),.own 4 out_4.length,.nl 4] false)),
   (4,some (.row 45 4 (out_4.map formC) 0))],5⟩
def rRp_h11(a0:TGraph)(a1:Int)(a2:Form)(i_11:Nat)(out_4:List Form)(out_11:List Form):St:=
 ⟨[(3,.ptr 0 0),(5,.ptr 1 0),(6,.ptr 2 0),(7,.lit (.int .i64 (a0.Inputs+a1))),(8,.ptr 3 0),(10,.lit (.int .i64 (i_11:Int)))],
  [(0,some (.box 24 [.lit (.int .i64 (a0.Inputs)),.sl 4 (a0.Units.map formC),.sl 4 (a0.Outputs.map formC)] false)),
   (1,some (.box 45 [.sl 4 (a2.1.map termC),.lit (.bool (rawQ a2.2).s),natA (rawQ a2.2).l1,natA (rawQ a2.2).l2] false)),
   (2,some (.box 24 [.lit (.int .i64 0),.nl 4,.nl 4] false)),
   (3,some (.box 24 [.lit (.int .i64 (a0.Inputs)),.own 4 out_4.length,.own 5 out_11.length] false)),
   (4,some (.row 45 4 (out_4.map formC) 0)),
   (5,some (.row 45 4 (out_11.map formC) 0))],6⟩
def rRp_o4a(a0:TGraph)(a1:Int)(a2:Form)(out_4:List Form):St:=
 ⟨[(3,.ptr 0 0),(5,.ptr 1 0),(6,.ptr 2 0),(7,.lit (.int .i64 (a0.Inputs+a1))),(8,.ptr 3 0)],
  [(0,some (.box 24 [.lit (.int .i64 (a0.Inputs)),.sl 4 (a0.Units.map formC),.sl 4 (a0.Outputs.map formC)] false)),
   (1,some (.box 45 [.sl 4 (a2.1.map termC),.lit (.bool (rawQ a2.2).s),natA (rawQ a2.2).l1,natA (rawQ a2.2).l2] false)),
   (2,some (.box 24 [.lit (.int .i64 0),.nl 4,.nl 4] false)),
   (3,some (.box 24 [.lit (.int .i64 (a0.Inputs)),.own 4 out_4.length,.nl 4] false)),
   (4,some (.row 45 4 (out_4.map formC) 0))],5⟩
def rRp_o11a(a0:TGraph)(out_4:List Form)(out_11:List Form):St:=
 ⟨[(6,.ptr 0 0),(8,.ptr 1 0)],
  [(0,some (.box 24 [.lit (.int .i64 0),.nl 4,.nl 4] false)),
   (1,some (.box 24 [.lit (.int .i64 (a0.Inputs)),.own 2 out_4.length,.own 3 out_11.length] false)),
   (2,some (.row 45 4 (out_4.map formC) 0)),
   (3,some (.row 45 4 (out_11.map formC) 0))],4⟩
section
variable{q5:Rat}{n:Nat}{r11:Form}{a1:Int}{i_4:Nat}{a0:TGraph}{a2:Form}{F5:List (Int × Rat)}{out_4:List Form}{F6:List (Int × Rat)}{q6:Rat}{r14:Form}{r15:Form}{r21:Form}{r20:Form}{q9:Rat}{out_11:List Form}{i_11:Nat}{F9:List (Int × Rat)}
theorem rRp_r4_2(C1:(i_4:Int)<(a0.Units.length:Int))(C2:(i_4:Int)<a1)(E3:a0.Units[i_4]?=some (F5,q5))(K4:run (n+3) 58 [formV (F5,q5),.lit (.int .i64 (a0.Inputs+a1))]=some (formV r11))(M5:out_4.length+1≤100000000)(C6:¬a1<(i_4:Int))(W7:InI ((i_4:Int)+1)):
  Cont 0 (exec Tryz.prog (tab (n+4)) 0 81 (livesOf 37) big rRp_C4) (livesOf 37 4) (rRp_h4 a0 a1 a2 i_4 out_4) (rRp_h4 a0 a1 a2 (i_4+1) (out_4++[r11])):=by
 have C1_:i_4<a0.Units.length:=by omega
 obtain ⟨EL3,EG3⟩:=List.getElem?_eq_some_iff.1 E3
 simp only [formV] at K4
 have M5_:∀b,b≤10000→roomy (out_4.length+1) b=true:=fun b hb=>roomy_s M5 hb
 have M5_r:1+(out_4.length)=out_4.length+1:=Nat.add_comm _ _
 have W7_:IntKind.i64.wrap ((i_4:Int)+1)=(i_4:Int)+1:=wr64 W7.1 W7.2
 apply Cont_m
 simp+decide [rRp_h4,loopsOf, Tryz.f37,rRp_C4,C1,C1_,C2,EL3,EG3,E3,K4,M5_,M5_r,C6,W7_]
theorem rRp_r4_3(C1:(i_4:Int)<(a0.Units.length:Int))(C2:¬(i_4:Int)<a1)(C3:a1<(i_4:Int))(E4:a0.Units[i_4]?=some (F6,q6))(K5:run (n+3) 59 [formV (F6,q6),.lit (.int .i64 (a0.Inputs+a1)),formV a2]=some (formV r14))(K6:run (n+3) 58 [formV r14,.lit (.int .i64 (a0.Inputs+a1))]=some (formV r15))(M7:out_4.length+1≤100000000)(W8:InI ((i_4:Int)+1)):
  Cont 0 (exec Tryz.prog (tab (n+4)) 0 81 (livesOf 37) big rRp_C4) (livesOf 37 4) (rRp_h4 a0 a1 a2 i_4 out_4) (rRp_h4 a0 a1 a2 (i_4+1) (out_4++[r15])):=by
 have C1_:i_4<a0.Units.length:=by omega
 obtain ⟨EL4,EG4⟩:=List.getElem?_eq_some_iff.1 E4
 simp only [formV] at K5
 simp only [formV] at K6
 have M7_:∀b,b≤10000→roomy (out_4.length+1) b=true:=fun b hb=>roomy_s M7 hb
 have M7_r:1+(out_4.length)=out_4.length+1:=Nat.add_comm _ _
 have W8_:IntKind.i64.wrap ((i_4:Int)+1)=(i_4:Int)+1:=wr64 W8.1 W8.2
 apply Cont_m
 simp+decide [rRp_h4,loopsOf, Tryz.f37,rRp_C4,C1,C1_,C2,C3,EL4,EG4,E4,K5,K6,M7_,M7_r,W8_]
theorem rRp_r4_4(C1:(i_4:Int)<(a0.Units.length:Int))(C2:¬(i_4:Int)<a1)(C3:¬a1<(i_4:Int))(W4:InI ((i_4:Int)+1)):
  Cont 0 (exec Tryz.prog (tab (n+4)) 0 81 (livesOf 37) big rRp_C4) (livesOf 37 4) (rRp_h4 a0 a1 a2 i_4 out_4) (rRp_h4 a0 a1 a2 (i_4+1) out_4):=by
 have C1_:i_4<a0.Units.length:=by omega
 have W4_:IntKind.i64.wrap ((i_4:Int)+1)=(i_4:Int)+1:=wr64 W4.1 W4.2
 apply Cont_m
 simp+decide [rRp_h4,loopsOf, Tryz.f37,rRp_C4,C1,C1_,C2,C3,W4_]
theorem rRp_x4_1(C1:¬(i_4:Int)<(a0.Units.length:Int)):
  Leave 0 (exec Tryz.prog (tab (n+4)) 0 81 (livesOf 37) big rRp_C4) (livesOf 37 (outOf 4)) (rRp_h4 a0 a1 a2 i_4 out_4) (.exit 0) (rRp_o4a a0 a1 a2 out_4):=by
 have C1_:¬i_4<a0.Units.length:=by omega
 apply Leave_m
 simp+decide [rRp_h4,loopsOf, Tryz.f37,rRp_o4a,rRp_C4,C1,C1_]
theorem rRp_r11_1(C1:(i_11:Int)<(a0.Outputs.length:Int))(E2:a0.Outputs[i_11]?=some (F9,q9))(K3:run (n+3) 59 [formV (F9,q9),.lit (.int .i64 (a0.Inputs+a1)),formV a2]=some (formV r20))(K4:run (n+3) 58 [formV r20,.lit (.int .i64 (a0.Inputs+a1))]=some (formV r21))(M5:out_11.length+1≤100000000)(W6:InI ((i_11:Int)+1)):
  Cont 0 (exec Tryz.prog (tab (n+4)) 0 81 (livesOf 37) big rRp_C11) (livesOf 37 11) (rRp_h11 a0 a1 a2 i_11 out_4 out_11) (rRp_h11 a0 a1 a2 (i_11+1) out_4 (out_11++[r21])):=by
 have C1_:i_11<a0.Outputs.length:=by omega
 obtain ⟨EL2,EG2⟩:=List.getElem?_eq_some_iff.1 E2
 simp only [formV] at K3
 simp only [formV] at K4
 have M5_:∀b,b≤10000→roomy (out_11.length+1) b=true:=fun b hb=>roomy_s M5 hb
 have M5_r:1+(out_11.length)=out_11.length+1:=Nat.add_comm _ _
 have W6_:IntKind.i64.wrap ((i_11:Int)+1)=(i_11:Int)+1:=wr64 W6.1 W6.2
 apply Cont_m
 simp+decide [rRp_h11,loopsOf, Tryz.f37,rRp_C11,C1,C1_,EL2,EG2,E2,K3,K4,M5_,M5_r,W6_]
theorem rRp_x11_1(C1:¬(i_11:Int)<(a0.Outputs.length:Int)):
  Leave 0 (exec Tryz.prog (tab (n+4)) 0 81 (livesOf 37) big rRp_C11) (livesOf 37 (outOf 11)) (rRp_h11 a0 a1 a2 i_11 out_4 out_11) (.exit 2) (rRp_o11a a0 out_4 out_11):=by
 have C1_:¬i_11<a0.Outputs.length:=by omega
 apply Leave_m
 simp+decide [rRp_h11,loopsOf, Tryz.f37,rRp_o11a,rRp_C11,C1,C1_]
theorem rRp_f1(W1:InI (a0.Inputs+a1))(L2:loopG Tryz.prog (tab (n+4)) 0 81 (livesOf 37) 4 rRp_C4 (rRp_h4 a0 a1 a2 0 [])=some (.exit 0,rRp_o4a a0 a1 a2 out_4))(L3:loopG Tryz.prog (tab (n+4)) 0 81 (livesOf 37) 11 rRp_C11 (rRp_h11 a0 a1 a2 0 out_4 [])=some (.exit 2,rRp_o11a a0 out_4 out_11)):
  run (n+4) 37 [graphV a0,.lit (.int .i64 a1),formV a2]=some (.agg [.lit (.int .i64 (a0.Inputs)),.sl 4 (out_4.map formC),.sl 4 (out_11.map formC)]):=by
 have W1_:IntKind.i64.wrap (a0.Inputs+a1)=a0.Inputs+a1:=wr64 W1.1 W1.2
 unfold run fnP
 simp+decide [Tryz.f37,W1_]
 rw [loopX_G (C':=rRp_C4) (e:=(rRp_h4 a0 a1 a2 0 [])) ?_ ?_,L2]
 rotate_left
 ·kernel_rfl
 ·simp+decide [rRp_h4,W1_]
 simp+decide [rRp_o4a,W1_]
 rw [loopX_G (C':=rRp_C11) (e:=(rRp_h11 a0 a1 a2 0 out_4 [])) ?_ ?_,L3]
 rotate_left
 ·kernel_rfl
 ·simp+decide [rRp_h11,W1_]
 simp+decide [rRp_o11a,W1_]
end
noncomputable def rCo_C4:Code:=(loopsOf (bodyOf Tryz.f14)).getD 0 .skip
def rCo_h4(i_4:Nat)(i2_4:Int)(l_4:List Form)(l2_4:List Form):St:=
 ⟨[(1,.ptr 0 0),(2,.ptr 1 0),(3,.lit (.int .i64 (i_4:Int)))],
  [(0,some (.box 24 [.lit (.int .i64 i2_4),.sl 4 (l_4.map formC),.sl 4 (l2_4.map formC)] false)),
   (1,some (.box 24 [.lit (.int .i64 0),.nl 4,.nl 4] false))],2⟩
def rCo_o4a(i2_4:Int)(l_4:List Form)(l2_4:List Form):St:=
 ⟨[(1,.ptr 0 0),(2,.ptr 1 0)],
  [(0,some (.box 24 [.lit (.int .i64 i2_4),.sl 4 (l_4.map formC),.sl 4 (l2_4.map formC)] false)),
   (1,some (.box 24 [.lit (.int .i64 0),.nl 4,.nl 4] false))],2⟩
section
variable{n:Nat}{i_4:Nat}{q3:Rat}{F3:List (Int × Rat)}{l2_4:List Form}{l_4:List Form}{r6:Rat}{r7:TGraph}{i2_4:Int}{a0:TGraph}{r:Bool}
theorem rCo_r4_1(C1:(i_4:Int)<(l_4.length:Int))(E2:l_4[i_4]?=some (F3,q3))(C3:(F3.length:Int)=0)(K4:run (n+4) 38 [ratV q3,.agg [.lit (.bool false),.sl 1 [],.sl 1 []]]=some (ratV r6))(K5:run (n+4) 37 [.agg [.lit (.int .i64 i2_4),.sl 4 (l_4.map formC),.sl 4 (l2_4.map formC)],.lit (.int .i64 (i_4:Int)),.agg [.sl 4 [],.lit (.bool (rawQ r6).s),natA (rawQ r6).l1,natA (rawQ r6).l2]]=some (graphV r7)):
  Cont 0 (exec Tryz.prog (tab (n+5)) 0 36 (livesOf 14) big rCo_C4) (livesOf 14 4) (rCo_h4 i_4 i2_4 l_4 l2_4) (rCo_h4 i_4 r7.Inputs r7.Units r7.Outputs):=by
 have C1_:i_4<l_4.length:=by omega
 obtain ⟨EL2,EG2⟩:=List.getElem?_eq_some_iff.1 E2
 have C3_:((F3.length:Int)==0)=true:=by rw [C3];simp
 have C3_n:((F3.length:Int) !=0)=false:=by rw [C3];simp
 have C3_l:¬0<(F3.length:Int):=by omega
 simp only [ratV] at K4
 simp only [graphV] at K5
 apply Cont_m
 simp+decide [rCo_h4,loopsOf, Tryz.f14,rCo_C4,C1,C1_,EL2,EG2,E2,C3_,C3_n,C3_l,K4,K5]
theorem rCo_r4_2(C1:(i_4:Int)<(l_4.length:Int))(E2:l_4[i_4]?=some (F3,q3))(C3:¬(F3.length:Int)=0)(W4:InI ((i_4:Int)+1)):
  Cont 0 (exec Tryz.prog (tab (n+5)) 0 36 (livesOf 14) big rCo_C4) (livesOf 14 4) (rCo_h4 i_4 i2_4 l_4 l2_4) (rCo_h4 (i_4+1) i2_4 l_4 l2_4):=by
 have C1_:i_4<l_4.length:=by omega
 obtain ⟨EL2,EG2⟩:=List.getElem?_eq_some_iff.1 E2
 have C3_:((F3.length:Int)==0)=false:=by simpa using C3
 have C3_n:((F3.length:Int) !=0)=true:=by simpa using C3
 have C3_l:0<(F3.length:Int):=by omega
 have W4_:IntKind.i64.wrap ((i_4:Int)+1)=(i_4:Int)+1:=wr64 W4.1 W4.2
 apply Cont_m
 simp+decide [rCo_h4,loopsOf, Tryz.f14,rCo_C4,C1,C1_,EL2,EG2,E2,C3_,C3_n,C3_l,W4_]
theorem rCo_x4_1(C1:¬(i_4:Int)<(l_4.length:Int)):
  Leave 0 (exec Tryz.prog (tab (n+5)) 0 36 (livesOf 14) big rCo_C4) (livesOf 14 (outOf 4)) (rCo_h4 i_4 i2_4 l_4 l2_4) (.exit 0) (rCo_o4a i2_4 l_4 l2_4):=by
 have C1_:¬i_4<l_4.length:=by omega
 apply Leave_m
 simp+decide [rCo_h4,loopsOf, Tryz.f14,rCo_o4a,rCo_C4,C1,C1_]
theorem rCo_f1(K1:run (n+4) 21 [graphV a0]=some (.lit (.bool r)))(C2:r=false):
  run (n+5) 14 [graphV a0]=some (.agg [.lit (.int .i64 0),.sl 4 [],.sl 4 []]):=by
 simp only [graphV] at K1
 unfold run fnP
 simp+decide [Tryz.f14,K1,C2]
theorem rCo_f2(K1:run (n+4) 21 [graphV a0]=some (.lit (.bool r)))(C2:r=true)(L3:loopG Tryz.prog (tab (n+5)) 0 36 (livesOf 14) 4 rCo_C4 (rCo_h4 0 a0.Inputs a0.Units a0.Outputs)=some (.exit 0,rCo_o4a i2_4 l_4 l2_4)):
  run (n+5) 14 [graphV a0]=some (.agg [.lit (.int .i64 i2_4),.sl 4 (l_4.map formC),.sl 4 (l2_4.map formC)]):=by
 simp only [graphV] at K1
 unfold run fnP
 simp+decide [Tryz.f14,K1,C2]
 rw [loopX_G (C':=rCo_C4) (e:=(rCo_h4 0 a0.Inputs a0.Units a0.Outputs)) ?_ ?_,L3]
 rotate_left
 ·kernel_rfl
 ·simp+decide [rCo_h4,K1,C2]
 simp+decide [rCo_o4a,K1,C2]
end
noncomputable def rDu_C4:Code:=(loopsOf (bodyOf Tryz.f18)).getD 0 .skip
noncomputable def rDu_C6:Code:=(loopsOf rDu_C4).getD 0 .skip
def rDu_h6(i_4:Nat)(i_6:Nat)(i2_4:Int)(l_4:List Form)(l2_4:List Form):St:=
 ⟨[(1,.ptr 0 0),(2,.ptr 1 0),(3,.lit (.int .i64 (i_4:Int))),(4,.lit (.int .i64 (i_6:Int)))],
  [(0,some (.box 24 [.lit (.int .i64 i2_4),.sl 4 (l_4.map formC),.sl 4 (l2_4.map formC)] false)),
   (1,some (.box 24 [.lit (.int .i64 0),.nl 4,.nl 4] false))],2⟩
def rDu_h4(i_4:Nat)(i2_4:Int)(l_4:List Form)(l2_4:List Form):St:=
 ⟨[(1,.ptr 0 0),(2,.ptr 1 0),(3,.lit (.int .i64 (i_4:Int)))],
  [(0,some (.box 24 [.lit (.int .i64 i2_4),.sl 4 (l_4.map formC),.sl 4 (l2_4.map formC)] false)),
   (1,some (.box 24 [.lit (.int .i64 0),.nl 4,.nl 4] false))],2⟩
def rDu_o6a(i_4:Nat)(i_6:Nat)(i2_4:Int)(l_4:List Form)(l2_4:List Form):St:=
 ⟨[(1,.ptr 0 0),(2,.ptr 1 0),(3,.lit (.int .i64 (i_4:Int))),(4,.lit (.int .i64 (i_6:Int)))],
  [(0,some (.box 24 [.lit (.int .i64 i2_4),.sl 4 (l_4.map formC),.sl 4 (l2_4.map formC)] false)),
   (1,some (.box 24 [.lit (.int .i64 0),.nl 4,.nl 4] false))],2⟩
def rDu_o4a(i2_4:Int)(l_4:List Form)(l2_4:List Form):St:=
 ⟨[(1,.ptr 0 0),(2,.ptr 1 0)],
  [(0,some (.box 24 [.lit (.int .i64 i2_4),.sl 4 (l_4.map formC),.sl 4 (l2_4.map formC)] false)),
   (1,some (.box 24 [.lit (.int .i64 0),.nl 4,.nl 4] false))],2⟩
section
variable{F17:List (Int × Rat)}{n:Nat}{q16:Rat}{q17:Rat}{i_4:Nat}{i_6:Nat}{F16:List (Int × Rat)}{l2_4:List Form}{l_4:List Form}{r12:Bool}{i2_4:Int}{r13:TGraph}{a0:TGraph}{r:Bool}
section
variable(E1:l_4[i_6]?=some (F16,q16))(E2:l_4[i_4]?=some (F17,q17))(K3:run (n+4) 42 [formV (F16,q16),formV (F17,q17)]=some (.lit (.bool r12)))
include E1 E2 K3
theorem rDu_r6_1(C4:r12=false)(W5:InI ((i_6:Int)+1)):
  Cont 0 (exec Tryz.prog (tab (n+5)) 0 45 (livesOf 18) big rDu_C6) (livesOf 18 6) (rDu_h6 i_4 i_6 i2_4 l_4 l2_4) (rDu_h6 i_4 (i_6+1) i2_4 l_4 l2_4):=by
 obtain ⟨EL1,EG1⟩:=List.getElem?_eq_some_iff.1 E1
 obtain ⟨EL2,EG2⟩:=List.getElem?_eq_some_iff.1 E2
 simp only [formV] at K3
 have W5_:IntKind.i64.wrap ((i_6:Int)+1)=(i_6:Int)+1:=wr64 W5.1 W5.2
 apply Cont_m
 simp+decide [rDu_h6,loopsOf, Tryz.f18,rDu_C4,rDu_C6,EL1,EG1,E1,EL2,EG2,E2,K3,C4,W5_]
theorem rDu_x6_1(C4:r12=true):
  Leave 0 (exec Tryz.prog (tab (n+5)) 0 45 (livesOf 18) big rDu_C6) (livesOf 18 (outOf 6)) (rDu_h6 i_4 i_6 i2_4 l_4 l2_4) (.exit 2) (rDu_o6a i_4 i_6 i2_4 l_4 l2_4):=by
 obtain ⟨EL1,EG1⟩:=List.getElem?_eq_some_iff.1 E1
 obtain ⟨EL2,EG2⟩:=List.getElem?_eq_some_iff.1 E2
 simp only [formV] at K3
 apply Leave_m
 simp+decide [rDu_h6,loopsOf, Tryz.f18,rDu_o6a,rDu_C4,rDu_C6,EL1,EG1,E1,EL2,EG2,E2,K3,C4]
end
section
variable(C1:(i_4:Int)<(l_4.length:Int))(L2:loopG Tryz.prog (tab (n+5)) 0 45 (livesOf 18) 6 rDu_C6 (rDu_h6 i_4 0 i2_4 l_4 l2_4)=some (.exit 2,rDu_o6a i_4 i_6 i2_4 l_4 l2_4))
include C1 L2
theorem rDu_r4_1(C3:(i_6:Int)<(i_4:Int))(W4:InI (i2_4+(i_6:Int)))(K6:run (n+4) 37 [.agg [.lit (.int .i64 i2_4),.sl 4 (l_4.map formC),.sl 4 (l2_4.map formC)],.lit (.int .i64 (i_4:Int)),.agg [.sl 4 [[.lit (.int .i64 (i2_4+(i_6:Int))),.lit (.bool (rawQ (ofQ 1)).s),natA (rawQ (ofQ 1)).l1,natA (rawQ (ofQ 1)).l2]],.lit (.bool false),.sl 1 [],.sl 1 []]]=some (graphV r13)):
  Cont 0 (exec Tryz.prog (tab (n+5)) 0 45 (livesOf 18) big rDu_C4) (livesOf 18 4) (rDu_h4 i_4 i2_4 l_4 l2_4) (rDu_h4 i_4 r13.Inputs r13.Units r13.Outputs):=by
 have C1_:i_4<l_4.length:=by omega
 have C3_:i_6<i_4:=by omega
 have W4_:IntKind.i64.wrap (i2_4+(i_6:Int))=i2_4+(i_6:Int):=wr64 W4.1 W4.2
 have K5:=r_ofq (z:=1) (by omega) (by omega)
 simp only [graphV] at K6
 apply Cont_m
 simp+decide [rDu_h4,loopsOf, Tryz.f18,rDu_C4,C1,C1_,C3,C3_,W4_,K5,K6]
 rw [loopX_G (C':=rDu_C6) (e:=(rDu_h6 i_4 0 i2_4 l_4 l2_4)) ?_ ?_,L2]
 rotate_left
 ·kernel_rfl
 ·simp+decide [rDu_h6,loopsOf, Tryz.f18,rDu_C4,C1,C1_,C3,C3_,W4_,K5,K6]
 simp+decide [rDu_o6a,loopsOf, Tryz.f18,rDu_C4,C1,C1_,C3,C3_,W4_,K5,K6]
theorem rDu_r4_2(C3:¬(i_6:Int)<(i_4:Int))(W4:InI ((i_4:Int)+1)):
  Cont 0 (exec Tryz.prog (tab (n+5)) 0 45 (livesOf 18) big rDu_C4) (livesOf 18 4) (rDu_h4 i_4 i2_4 l_4 l2_4) (rDu_h4 (i_4+1) i2_4 l_4 l2_4):=by
 have C1_:i_4<l_4.length:=by omega
 have C3_:¬i_6<i_4:=by omega
 have W4_:IntKind.i64.wrap ((i_4:Int)+1)=(i_4:Int)+1:=wr64 W4.1 W4.2
 apply Cont_m
 simp+decide [rDu_h4,loopsOf, Tryz.f18,rDu_C4,C1,C1_,C3,C3_,W4_]
 rw [loopX_G (C':=rDu_C6) (e:=(rDu_h6 i_4 0 i2_4 l_4 l2_4)) ?_ ?_,L2]
 rotate_left
 ·kernel_rfl
 ·simp+decide [rDu_h6,loopsOf, Tryz.f18,rDu_C4,C1,C1_,C3,C3_,W4_]
 simp+decide [rDu_o6a,loopsOf, Tryz.f18,rDu_C4,C1,C1_,C3,C3_,W4_]
end
theorem rDu_x4_1(C1:¬(i_4:Int)<(l_4.length:Int)):
  Leave 0 (exec Tryz.prog (tab (n+5)) 0 45 (livesOf 18) big rDu_C4) (livesOf 18 (outOf 4)) (rDu_h4 i_4 i2_4 l_4 l2_4) (.exit 0) (rDu_o4a i2_4 l_4 l2_4):=by
 have C1_:¬i_4<l_4.length:=by omega
 apply Leave_m
 simp+decide [rDu_h4,loopsOf, Tryz.f18,rDu_o4a,rDu_C4,C1,C1_]
theorem rDu_f1(K1:run (n+4) 21 [graphV a0]=some (.lit (.bool r)))(C2:r=false):
  run (n+5) 18 [graphV a0]=some (.agg [.lit (.int .i64 0),.sl 4 [],.sl 4 []]):=by
 simp only [graphV] at K1
 unfold run fnP
 simp+decide [Tryz.f18,K1,C2]
theorem rDu_f2(K1:run (n+4) 21 [graphV a0]=some (.lit (.bool r)))(C2:r=true)(L3:loopG Tryz.prog (tab (n+5)) 0 45 (livesOf 18) 4 rDu_C4 (rDu_h4 0 a0.Inputs a0.Units a0.Outputs)=some (.exit 0,rDu_o4a i2_4 l_4 l2_4)):
  run (n+5) 18 [graphV a0]=some (.agg [.lit (.int .i64 i2_4),.sl 4 (l_4.map formC),.sl 4 (l2_4.map formC)]):=by
 simp only [graphV] at K1
 unfold run fnP
 simp+decide [Tryz.f18,K1,C2]
 rw [loopX_G (C':=rDu_C4) (e:=(rDu_h4 0 a0.Inputs a0.Units a0.Outputs)) ?_ ?_,L3]
 rotate_left
 ·kernel_rfl
 ·simp+decide [rDu_h4,K1,C2]
 simp+decide [rDu_o4a,K1,C2]
end
noncomputable def r2l_C4:Code:=(loopsOf (bodyOf Tryz.f70)).getD 0 .skip
def r2l_h4(a0:List Nat)(a1:List Nat)(i_4:Nat):St:=
 ⟨[(0,natA a0),(1,natA a1),(5,.lit (.int .i64 (i_4:Int)))],
  [],0⟩
def r2l_o4a:St:=
 ⟨[(4,.lit (.bool false))],
  [],0⟩
def r2l_o4b:St:=
 ⟨[(4,.any)],
  [],0⟩
section
variable {n : Nat} {a1 : List Nat} {x5 : Nat} {i_4 : Nat} {a0 : List Nat} {x6 : Nat}
theorem r2l_r4_1(C1:(i_4:Int)<(a0.length:Int))(E2:a0[i_4]?=some x5)(E3:a1[i_4]?=some x6)(C4:(x5:Int)=(x6:Int))(W5:InI ((i_4:Int)+1)):
  Cont 0 (exec Tryz.prog (tab n) 0 26 (livesOf 70) big r2l_C4) (livesOf 70 4) (r2l_h4 a0 a1 i_4) (r2l_h4 a0 a1 (i_4+1)):=by
 have C1_:i_4<a0.length:=by omega
 obtain ⟨EL2,EG2⟩:=List.getElem?_eq_some_iff.1 E2
 obtain ⟨EL3,EG3⟩:=List.getElem?_eq_some_iff.1 E3
 have C4_:((x5:Int)==(x6:Int))=true:=by rw [C4];simp
 have C4_n:((x5:Int) !=(x6:Int))=false:=by rw [C4];simp
 have W5_:IntKind.i64.wrap ((i_4:Int)+1)=(i_4:Int)+1:=wr64 W5.1 W5.2
 apply Cont_m
 simp+decide [natA,r2l_h4,loopsOf, Tryz.f70,r2l_C4,C1,C1_,EL2,EG2,E2,EL3,EG3,E3,C4_,C4_n,W5_]
theorem r2l_x4_1(C1:(i_4:Int)<(a0.length:Int))(E2:a0[i_4]?=some x5)(E3:a1[i_4]?=some x6)(C4:¬(x5:Int)=(x6:Int)):
  Leave 0 (exec Tryz.prog (tab n) 0 26 (livesOf 70) big r2l_C4) (livesOf 70 (outOf 4)) (r2l_h4 a0 a1 i_4) (.ret) (r2l_o4a):=by
 have C1_:i_4<a0.length:=by omega
 obtain ⟨EL2,EG2⟩:=List.getElem?_eq_some_iff.1 E2
 obtain ⟨EL3,EG3⟩:=List.getElem?_eq_some_iff.1 E3
 have C4_:((x5:Int)==(x6:Int))=false:=by simpa using C4
 have C4_n:((x5:Int) !=(x6:Int))=true:=by simpa using C4
 apply Leave_m
 simp+decide [natA,r2l_h4,loopsOf, Tryz.f70,r2l_o4a,r2l_C4,C1,C1_,EL2,EG2,E2,EL3,EG3,E3,C4_,C4_n]
theorem r2l_x4_2(C1:¬(i_4:Int)<(a0.length:Int)):
  Leave 0 (exec Tryz.prog (tab n) 0 26 (livesOf 70) big r2l_C4) (livesOf 70 (outOf 4)) (r2l_h4 a0 a1 i_4) (.exit 0) (r2l_o4b):=by
 have C1_:¬i_4<a0.length:=by omega
 apply Leave_m
 simp+decide [natA,r2l_h4,loopsOf, Tryz.f70,r2l_o4b,r2l_C4,C1,C1_]
theorem r2l_f1(C1:¬(a0.length:Int)=(a1.length:Int)):
  run n 70 [natA a0,natA a1]=some (.lit (.bool false)):=by
 have C1_:((a0.length:Int)==(a1.length:Int))=false:=by simpa using C1
 have C1_n:((a0.length:Int) !=(a1.length:Int))=true:=by simpa using C1
 unfold run fnP
 simp+decide [natA, Tryz.f70,C1_,C1_n]
theorem r2l_f2(C1:(a0.length:Int)=(a1.length:Int))(L2:loopG Tryz.prog (tab n) 0 26 (livesOf 70) 4 r2l_C4 (r2l_h4 a0 a1 0)=some (.ret,r2l_o4a)):
  run n 70 [natA a0,natA a1]=some (.lit (.bool false)):=by
 have C1_:((a0.length:Int)==(a1.length:Int))=true:=by rw [C1];simp
 have C1_n:((a0.length:Int) !=(a1.length:Int))=false:=by rw [C1];simp
 unfold run fnP
 simp+decide [natA, Tryz.f70,C1_,C1_n]
 rw [loopX_G (C':=r2l_C4) (e:=(r2l_h4 a0 a1 0)) ?_ ?_,L2]
 rotate_left
 ·kernel_rfl
 ·simp+decide [natA,r2l_h4,C1_,C1_n]
 simp+decide [natA,r2l_o4a,C1_,C1_n]
theorem r2l_f3(C1:(a0.length:Int)=(a1.length:Int))(L2:loopG Tryz.prog (tab n) 0 26 (livesOf 70) 4 r2l_C4 (r2l_h4 a0 a1 0)=some (.exit 0,r2l_o4b)):
  run n 70 [natA a0,natA a1]=some (.lit (.bool true)):=by
 have C1_:((a0.length:Int)==(a1.length:Int))=true:=by rw [C1];simp
 have C1_n:((a0.length:Int) !=(a1.length:Int))=false:=by rw [C1];simp
 unfold run fnP
 simp+decide [natA, Tryz.f70,C1_,C1_n]
 rw [loopX_G (C':=r2l_C4) (e:=(r2l_h4 a0 a1 0)) ?_ ?_,L2]
 rotate_left
 ·kernel_rfl
 ·simp+decide [natA,r2l_h4,C1_,C1_n]
 simp+decide [natA,r2l_o4b,C1_,C1_n]
end
noncomputable def r2w_C4:Code:=(loopsOf (bodyOf Tryz.f24)).getD 0 .skip
def r2w_h4(a0:List Rat)(a1:List Rat)(i_4:Nat):St:=
 ⟨[(0,.sl 3 (a0.map ratC)),(1,.sl 3 (a1.map ratC)),(5,.lit (.int .i64 (i_4:Int)))],
  [],0⟩
def r2w_o4b:St:=
 ⟨[(4,.any)],
  [],0⟩
section
variable {n : Nat} {a1 : List Rat} {x5 : Rat} {i_4 : Nat} {a0 : List Rat} {x6 : Rat} {r3 : Bool}
theorem r2w_r4_1(C1:(i_4:Int)<(a0.length:Int))(E2:a0[i_4]?=some x5)(E3:a1[i_4]?=some x6)(K4:run (n+1) 47 [ratV x5,ratV x6]=some (.lit (.bool r3)))(C5:r3=true)(W6:InI ((i_4:Int)+1)):
  Cont 0 (exec Tryz.prog (tab (n+2)) 0 27 (livesOf 24) big r2w_C4) (livesOf 24 4) (r2w_h4 a0 a1 i_4) (r2w_h4 a0 a1 (i_4+1)):=by
 have C1_:i_4<a0.length:=by omega
 obtain ⟨EL2,EG2⟩:=List.getElem?_eq_some_iff.1 E2
 obtain ⟨EL3,EG3⟩:=List.getElem?_eq_some_iff.1 E3
 simp only [ratV] at K4
 have W6_:IntKind.i64.wrap ((i_4:Int)+1)=(i_4:Int)+1:=wr64 W6.1 W6.2
 apply Cont_m
 simp+decide [r2w_h4,loopsOf, Tryz.f24,r2w_C4,C1,C1_,EL2,EG2,E2,EL3,EG3,E3,K4,C5,W6_]
theorem r2w_x4_2(C1:¬(i_4:Int)<(a0.length:Int)):
  Leave 0 (exec Tryz.prog (tab (n+2)) 0 27 (livesOf 24) big r2w_C4) (livesOf 24 (outOf 4)) (r2w_h4 a0 a1 i_4) (.exit 0) (r2w_o4b):=by
 have C1_:¬i_4<a0.length:=by omega
 apply Leave_m
 simp+decide [r2w_h4,loopsOf, Tryz.f24,r2w_o4b,r2w_C4,C1,C1_]
theorem r2w_f3(C1:(a0.length:Int)=(a1.length:Int))(L2:loopG Tryz.prog (tab (n+2)) 0 27 (livesOf 24) 4 r2w_C4 (r2w_h4 a0 a1 0)=some (.exit 0,r2w_o4b)):
  run (n+2) 24 [.sl 3 (a0.map ratC),.sl 3 (a1.map ratC)]=some (.lit (.bool true)):=by
 have C1_:((a0.length:Int)==(a1.length:Int))=true:=by rw [C1];simp
 have C1_n:((a0.length:Int) !=(a1.length:Int))=false:=by rw [C1];simp
 unfold run fnP
 simp+decide [Tryz.f24,C1_,C1_n]
 rw [loopX_G (C':=r2w_C4) (e:=(r2w_h4 a0 a1 0)) ?_ ?_,L2]
 rotate_left
 ·kernel_rfl
 ·simp+decide [r2w_h4,C1_,C1_n]
 simp+decide [r2w_o4b,C1_,C1_n]
end
section
variable {n : Nat} {a1 : Raw} {r2 : Bool} {a0 : Raw} {r : Bool}
theorem r2r_f1(C1:a0.s=a1.s)(K2:run n 70 [natA a0.l1,natA a1.l1]=some (.lit (.bool r)))(C3:r=true)(K4:run n 70 [natA a0.l2,natA a1.l2]=some (.lit (.bool r2))):
  run (n+1) 47 [.agg [.lit (.bool a0.s),natA a0.l1,natA a0.l2],.agg [.lit (.bool a1.s),natA a1.l1,natA a1.l2]]=some (.lit (.bool r2)):=by
 have C1_:(a0.s==a1.s)=true:=by rw [C1];simp
 have C1_n:(a0.s !=a1.s)=false:=by rw [C1];simp
 unfold run fnP
 simp+decide [Tryz.f47,C1_,C1_n,C1,K2,C3,K4]
theorem r2r_f2(C1:a0.s=a1.s)(K2:run n 70 [natA a0.l1,natA a1.l1]=some (.lit (.bool r)))(C3:r=false):
  run (n+1) 47 [.agg [.lit (.bool a0.s),natA a0.l1,natA a0.l2],.agg [.lit (.bool a1.s),natA a1.l1,natA a1.l2]]=some (.lit (.bool false)):=by
 have C1_:(a0.s==a1.s)=true:=by rw [C1];simp
 have C1_n:(a0.s !=a1.s)=false:=by rw [C1];simp
 unfold run fnP
 simp+decide [Tryz.f47,C1_,C1_n,C1,K2,C3]
theorem r2r_f3(C1:¬a0.s=a1.s):
  run (n+1) 47 [.agg [.lit (.bool a0.s),natA a0.l1,natA a0.l2],.agg [.lit (.bool a1.s),natA a1.l1,natA a1.l2]]=some (.lit (.bool false)):=by
 have C1_:(a0.s==a1.s)=false:=by simpa using C1
 have C1_n:(a0.s !=a1.s)=true:=by simpa using C1
 unfold run fnP
 simp+decide [Tryz.f47,C1_,C1_n]
end
noncomputable def rFR_C4:Code:=(loopsOf (bodyOf Tryz.f42)).getD 0 .skip
def rFR_h4(a0:FormR)(a1:FormR)(i_4:Nat):St:=
 ⟨[(2,.ptr 0 0),(3,.ptr 1 0),(5,.lit (.int .i64 (i_4:Int)))],
  [(0,some (.box 45 [.sl 4 (a0.1.map termRC),.lit (.bool a0.2.s),natA a0.2.l1,natA a0.2.l2] false)),
   (1,some (.box 45 [.sl 4 (a1.1.map termRC),.lit (.bool a1.2.s),natA a1.2.l1,natA a1.2.l2] false))],2⟩
def rFR_o4a:St:=
 ⟨[(4,.lit (.bool false))],
  [],0⟩
def rFR_o4b:St:=
 ⟨[(4,.any)],
  [],0⟩
section
variable {v6 : Int} {n : Nat} {a1 : FormR} {i_4 : Nat} {a0 : FormR} {v5 : Int} {r8 : Raw} {r10 : Bool} {r9 : Raw} {r : Bool}
section
variable(C1:(i_4:Int)<(a0.1.length:Int))(E2:a0.1[i_4]?=some (v5,r8))(E3:a1.1[i_4]?=some (v6,r9))
include C1 E2 E3
theorem rFR_r4_1(C4:v5=v6)(K5:run (n+1) 47 [.agg [.lit (.bool r8.s),natA r8.l1,natA r8.l2],.agg [.lit (.bool r9.s),natA r9.l1,natA r9.l2]]=some (.lit (.bool r10)))(C6:r10=true)(W7:InI ((i_4:Int)+1)):
  Cont 0 (exec Tryz.prog (tab (n+2)) 0 57 (livesOf 42) big rFR_C4) (livesOf 42 4) (rFR_h4 a0 a1 i_4) (rFR_h4 a0 a1 (i_4+1)):=by
 have C1_:i_4<a0.1.length:=by omega
 obtain ⟨EL2,EG2⟩:=List.getElem?_eq_some_iff.1 E2
 obtain ⟨EL3,EG3⟩:=List.getElem?_eq_some_iff.1 E3
 have C4_:(v5==v6)=true:=by rw [C4];simp
 have C4_n:(v5 !=v6)=false:=by rw [C4];simp
 have W7_:IntKind.i64.wrap ((i_4:Int)+1)=(i_4:Int)+1:=wr64 W7.1 W7.2
 apply Cont_m
 simp+decide [rFR_h4,loopsOf, Tryz.f42,rFR_C4,C1,C1_,EL2,EG2,E2,EL3,EG3,E3,C4_,C4_n,K5,C6,W7_]
theorem rFR_x4_1(C4:¬v5=v6):
  Leave 0 (exec Tryz.prog (tab (n+2)) 0 57 (livesOf 42) big rFR_C4) (livesOf 42 (outOf 4)) (rFR_h4 a0 a1 i_4) (.ret) (rFR_o4a):=by
 have C1_:i_4<a0.1.length:=by omega
 obtain ⟨EL2,EG2⟩:=List.getElem?_eq_some_iff.1 E2
 obtain ⟨EL3,EG3⟩:=List.getElem?_eq_some_iff.1 E3
 have C4_:(v5==v6)=false:=by simpa using C4
 have C4_n:(v5 !=v6)=true:=by simpa using C4
 apply Leave_m
 simp+decide [rFR_h4,loopsOf, Tryz.f42,rFR_o4a,rFR_C4,C1,C1_,EL2,EG2,E2,EL3,EG3,E3,C4_,C4_n]
theorem rFR_x4_2(C4:v5=v6)(K5:run (n+1) 47 [.agg [.lit (.bool r8.s),natA r8.l1,natA r8.l2],.agg [.lit (.bool r9.s),natA r9.l1,natA r9.l2]]=some (.lit (.bool r10)))(C6:r10=false):
  Leave 0 (exec Tryz.prog (tab (n+2)) 0 57 (livesOf 42) big rFR_C4) (livesOf 42 (outOf 4)) (rFR_h4 a0 a1 i_4) (.ret) (rFR_o4a):=by
 have C1_:i_4<a0.1.length:=by omega
 obtain ⟨EL2,EG2⟩:=List.getElem?_eq_some_iff.1 E2
 obtain ⟨EL3,EG3⟩:=List.getElem?_eq_some_iff.1 E3
 have C4_:(v5==v6)=true:=by rw [C4];simp
 have C4_n:(v5 !=v6)=false:=by rw [C4];simp
 apply Leave_m
 simp+decide [rFR_h4,loopsOf, Tryz.f42,rFR_o4a,rFR_C4,C1,C1_,EL2,EG2,E2,EL3,EG3,E3,C4_,C4_n,K5,C6]
end
theorem rFR_x4_3(C1:¬(i_4:Int)<(a0.1.length:Int)):
  Leave 0 (exec Tryz.prog (tab (n+2)) 0 57 (livesOf 42) big rFR_C4) (livesOf 42 (outOf 4)) (rFR_h4 a0 a1 i_4) (.exit 0) (rFR_o4b):=by
 have C1_:¬i_4<a0.1.length:=by omega
 apply Leave_m
 simp+decide [rFR_h4,loopsOf, Tryz.f42,rFR_o4b,rFR_C4,C1,C1_]
theorem rFR_f1(C1:¬(a0.1.length:Int)=(a1.1.length:Int)):
  run (n+2) 42 [.agg [.sl 4 (a0.1.map termRC),.lit (.bool a0.2.s),natA a0.2.l1,natA a0.2.l2],.agg [.sl 4 (a1.1.map termRC),.lit (.bool a1.2.s),natA a1.2.l1,natA a1.2.l2]]=some (.lit (.bool false)):=by
 have C1_:((a0.1.length:Int)==(a1.1.length:Int))=false:=by simpa using C1
 have C1_n:((a0.1.length:Int) !=(a1.1.length:Int))=true:=by simpa using C1
 unfold run fnP
 simp+decide [Tryz.f42,C1_,C1_n]
section
variable(C1:(a0.1.length:Int)=(a1.1.length:Int))(K2:run (n+1) 47 [.agg [.lit (.bool a0.2.s),natA a0.2.l1,natA a0.2.l2],.agg [.lit (.bool a1.2.s),natA a1.2.l1,natA a1.2.l2]]=some (.lit (.bool r)))
include C1 K2
theorem rFR_f2(C3:r=false):
  run (n+2) 42 [.agg [.sl 4 (a0.1.map termRC),.lit (.bool a0.2.s),natA a0.2.l1,natA a0.2.l2],.agg [.sl 4 (a1.1.map termRC),.lit (.bool a1.2.s),natA a1.2.l1,natA a1.2.l2]]=some (.lit (.bool false)):=by
 have C1_:((a0.1.length:Int)==(a1.1.length:Int))=true:=by rw [C1];simp
 have C1_n:((a0.1.length:Int) !=(a1.1.length:Int))=false:=by rw [C1];simp
 unfold run fnP
 simp+decide [Tryz.f42,C1_,C1_n,K2,C3]
theorem rFR_f3(C3:r=true)(L4:loopG Tryz.prog (tab (n+2)) 0 57 (livesOf 42) 4 rFR_C4 (rFR_h4 a0 a1 0)=some (.ret,rFR_o4a)):
  run (n+2) 42 [.agg [.sl 4 (a0.1.map termRC),.lit (.bool a0.2.s),natA a0.2.l1,natA a0.2.l2],.agg [.sl 4 (a1.1.map termRC),.lit (.bool a1.2.s),natA a1.2.l1,natA a1.2.l2]]=some (.lit (.bool false)):=by
 have C1_:((a0.1.length:Int)==(a1.1.length:Int))=true:=by rw [C1];simp
 have C1_n:((a0.1.length:Int) !=(a1.1.length:Int))=false:=by rw [C1];simp
 unfold run fnP
 simp+decide [Tryz.f42,C1_,C1_n,K2,C3]
 rw [loopX_G (C':=rFR_C4) (e:=(rFR_h4 a0 a1 0)) ?_ ?_,L4]
 rotate_left
 ·kernel_rfl
 ·simp+decide [rFR_h4,C1_,C1_n,K2,C3]
 simp+decide [rFR_o4a,C1_,C1_n,K2,C3]
theorem rFR_f4(C3:r=true)(L4:loopG Tryz.prog (tab (n+2)) 0 57 (livesOf 42) 4 rFR_C4 (rFR_h4 a0 a1 0)=some (.exit 0,rFR_o4b)):
  run (n+2) 42 [.agg [.sl 4 (a0.1.map termRC),.lit (.bool a0.2.s),natA a0.2.l1,natA a0.2.l2],.agg [.sl 4 (a1.1.map termRC),.lit (.bool a1.2.s),natA a1.2.l1,natA a1.2.l2]]=some (.lit (.bool true)):=by
 have C1_:((a0.1.length:Int)==(a1.1.length:Int))=true:=by rw [C1];simp
 have C1_n:((a0.1.length:Int) !=(a1.1.length:Int))=false:=by rw [C1];simp
 unfold run fnP
 simp+decide [Tryz.f42,C1_,C1_n,K2,C3]
 rw [loopX_G (C':=rFR_C4) (e:=(rFR_h4 a0 a1 0)) ?_ ?_,L4]
 rotate_left
 ·kernel_rfl
 ·simp+decide [rFR_h4,C1_,C1_n,K2,C3]
 simp+decide [rFR_o4b,C1_,C1_n,K2,C3]
end
end
noncomputable def vaR_C2:Code:=(loopsOf (bodyOf Tryz.f43)).getD 0 .skip
def vaR_h2(a0:FormR)(a1:Int)(i_2:Nat):St:=
 ⟨[(1,.lit (.int .i64 a1)),(2,.ptr 0 0),(5,.lit (.int .i64 (i_2:Int)))],
  [(0,some (.box 45 [.sl 4 (a0.1.map termRC),.lit (.bool a0.2.s),natA a0.2.l1,natA a0.2.l2] false))],1⟩
def vaR_o2a(a0:FormR):St:=
 ⟨[(2,.ptr 0 0),(4,.lit (.bool false))],
  [(0,some (.box 45 [.sl 4 (a0.1.map termRC),.lit (.bool a0.2.s),natA a0.2.l1,natA a0.2.l2] false))],1⟩
def vaR_o2b(a0:FormR):St:=
 ⟨[(2,.ptr 0 0),(4,.any)],
  [(0,some (.box 45 [.sl 4 (a0.1.map termRC),.lit (.bool a0.2.s),natA a0.2.l1,natA a0.2.l2] false))],1⟩
section
variable {n : Nat} {a1 : Int} {i_2 : Nat} {r4 : Raw} {r5 : Raw} {v4 : Int} {a0 : FormR} {v5 : Int}
section
variable(C1:(i_2:Int)<(a0.1.length:Int))(E2:a0.1[i_2]?=some (v4,r4))
include C1 E2
theorem vaR_r2_1(C3:¬v4<0)(C4:¬a1≤v4)(C5:0<(i_2:Int))(W6:InI ((i_2:Int)-1))(E7:a0.1[i_2-1]?=some (v5,r5))(Z7:1≤i_2)(C8:¬v4≤v5)(B9a:RawB r4)(C10:¬sgR r4.q=0)(C12:RatV r4.s r4.l1 r4.l2)(W13:InI ((i_2:Int)+1)):
  Cont 0 (exec Tryz.prog (tab n) 0 59 (livesOf 43) big vaR_C2) (livesOf 43 2) (vaR_h2 a0 a1 i_2) (vaR_h2 a0 a1 (i_2+1)):=by
 have C1_:i_2<a0.1.length:=by omega
 obtain ⟨EL2,EG2⟩:=List.getElem?_eq_some_iff.1 E2
 have C5_:0<i_2:=by omega
 have W6_:IntKind.i64.wrap ((i_2:Int)-1)=(i_2:Int)-1:=wr64 W6.1 W6.2
 obtain ⟨EL7,EG7⟩:=List.getElem?_eq_some_iff.1 E7
 have Z7_0:(1:Int)≤(i_2:Int):=by omega
 have K9:=rr_sign B9a
 have C10_:(sgR r4.q==0)=false:=by simpa using C10
 have K11:=rr_valid B9a
 have W13_:IntKind.i64.wrap ((i_2:Int)+1)=(i_2:Int)+1:=wr64 W13.1 W13.2
 unfold Cont
 simp+decide [vaR_h2,loopsOf, Tryz.f43,vaR_C2,C1,C1_,EG2,C3,C4,C5_,W6_,EL7,EG7,Z7_0,C8,K9,C10_,K11,C12,W13_]
theorem vaR_r2_2(C3:¬v4<0)(C4:¬a1≤v4)(C5:¬0<(i_2:Int))(B6a:RawB r4)(C7:¬sgR r4.q=0)(C9:RatV r4.s r4.l1 r4.l2)(W10:InI ((i_2:Int)+1)):
  Cont 0 (exec Tryz.prog (tab n) 0 59 (livesOf 43) big vaR_C2) (livesOf 43 2) (vaR_h2 a0 a1 i_2) (vaR_h2 a0 a1 (i_2+1)):=by
 have C1_:i_2<a0.1.length:=by omega
 obtain ⟨EL2,EG2⟩:=List.getElem?_eq_some_iff.1 E2
 have C5_:¬0<i_2:=by omega
 have K6:=rr_sign B6a
 have C7_:(sgR r4.q==0)=false:=by simpa using C7
 have K8:=rr_valid B6a
 have W10_:IntKind.i64.wrap ((i_2:Int)+1)=(i_2:Int)+1:=wr64 W10.1 W10.2
 unfold Cont
 simp+decide [vaR_h2,loopsOf, Tryz.f43,vaR_C2,C1,C1_,EG2,C3,C4,C5_,K6,C7_,K8,C9,W10_]
theorem vaR_x2_1(C3:v4<0):
  Leave 0 (exec Tryz.prog (tab n) 0 59 (livesOf 43) big vaR_C2) (livesOf 43 (outOf 2)) (vaR_h2 a0 a1 i_2) (.ret) (vaR_o2a a0):=by
 have C1_:i_2<a0.1.length:=by omega
 obtain ⟨EL2,EG2⟩:=List.getElem?_eq_some_iff.1 E2
 unfold Leave
 simp+decide [vaR_h2,loopsOf, Tryz.f43,vaR_o2a,vaR_C2,C1,C1_,EG2,C3]
theorem vaR_x2_2(C3:¬v4<0)(C4:a1≤v4):
  Leave 0 (exec Tryz.prog (tab n) 0 59 (livesOf 43) big vaR_C2) (livesOf 43 (outOf 2)) (vaR_h2 a0 a1 i_2) (.ret) (vaR_o2a a0):=by
 have C1_:i_2<a0.1.length:=by omega
 obtain ⟨EL2,EG2⟩:=List.getElem?_eq_some_iff.1 E2
 unfold Leave
 simp+decide [vaR_h2,loopsOf, Tryz.f43,vaR_o2a,vaR_C2,C1,C1_,EG2,C3,C4]
section
variable(C3:¬v4<0)(C4:¬a1≤v4)
include C3 C4
section
variable(C5:0<(i_2:Int))(W6:InI ((i_2:Int)-1))(E7:a0.1[i_2-1]?=some (v5,r5))(Z7:1≤i_2)
include C5 W6 E7 Z7
theorem vaR_x2_3(C8:v4≤v5):
  Leave 0 (exec Tryz.prog (tab n) 0 59 (livesOf 43) big vaR_C2) (livesOf 43 (outOf 2)) (vaR_h2 a0 a1 i_2) (.ret) (vaR_o2a a0):=by
 have C1_:i_2<a0.1.length:=by omega
 obtain ⟨EL2,EG2⟩:=List.getElem?_eq_some_iff.1 E2
 have C5_:0<i_2:=by omega
 have W6_:IntKind.i64.wrap ((i_2:Int)-1)=(i_2:Int)-1:=wr64 W6.1 W6.2
 obtain ⟨EL7,EG7⟩:=List.getElem?_eq_some_iff.1 E7
 have Z7_0:(1:Int)≤(i_2:Int):=by omega
 unfold Leave
 simp+decide [vaR_h2,loopsOf, Tryz.f43,vaR_o2a,vaR_C2,C1,C1_,EG2,C3,C4,C5_,W6_,EL7,EG7,Z7_0,C8]
theorem vaR_x2_4(C8:¬v4≤v5)(B9a:RawB r4)(C10:sgR r4.q=0):
  Leave 0 (exec Tryz.prog (tab n) 0 59 (livesOf 43) big vaR_C2) (livesOf 43 (outOf 2)) (vaR_h2 a0 a1 i_2) (.ret) (vaR_o2a a0):=by
 have C1_:i_2<a0.1.length:=by omega
 obtain ⟨EL2,EG2⟩:=List.getElem?_eq_some_iff.1 E2
 have C5_:0<i_2:=by omega
 have W6_:IntKind.i64.wrap ((i_2:Int)-1)=(i_2:Int)-1:=wr64 W6.1 W6.2
 obtain ⟨EL7,EG7⟩:=List.getElem?_eq_some_iff.1 E7
 have Z7_0:(1:Int)≤(i_2:Int):=by omega
 have K9:=rr_sign B9a
 have C10_:(sgR r4.q==0)=true:=by rw [C10];simp
 unfold Leave
 simp+decide [vaR_h2,loopsOf, Tryz.f43,vaR_o2a,vaR_C2,C1,C1_,EG2,C3,C4,C5_,W6_,EL7,EG7,Z7_0,C8,K9,C10_]
theorem vaR_x2_5(C8:¬v4≤v5)(B9a:RawB r4)(C10:¬sgR r4.q=0)(C12:¬(RatV r4.s r4.l1 r4.l2)):
  Leave 0 (exec Tryz.prog (tab n) 0 59 (livesOf 43) big vaR_C2) (livesOf 43 (outOf 2)) (vaR_h2 a0 a1 i_2) (.ret) (vaR_o2a a0):=by
 have C1_:i_2<a0.1.length:=by omega
 obtain ⟨EL2,EG2⟩:=List.getElem?_eq_some_iff.1 E2
 have C5_:0<i_2:=by omega
 have W6_:IntKind.i64.wrap ((i_2:Int)-1)=(i_2:Int)-1:=wr64 W6.1 W6.2
 obtain ⟨EL7,EG7⟩:=List.getElem?_eq_some_iff.1 E7
 have Z7_0:(1:Int)≤(i_2:Int):=by omega
 have K9:=rr_sign B9a
 have C10_:(sgR r4.q==0)=false:=by simpa using C10
 have K11:=rr_valid B9a
 unfold Leave
 simp+decide [vaR_h2,loopsOf, Tryz.f43,vaR_o2a,vaR_C2,C1,C1_,EG2,C3,C4,C5_,W6_,EL7,EG7,Z7_0,C8,K9,C10_,K11,C12]
end
theorem vaR_x2_6(C5:¬0<(i_2:Int))(B6a:RawB r4)(C7:sgR r4.q=0):
  Leave 0 (exec Tryz.prog (tab n) 0 59 (livesOf 43) big vaR_C2) (livesOf 43 (outOf 2)) (vaR_h2 a0 a1 i_2) (.ret) (vaR_o2a a0):=by
 have C1_:i_2<a0.1.length:=by omega
 obtain ⟨EL2,EG2⟩:=List.getElem?_eq_some_iff.1 E2
 have C5_:¬0<i_2:=by omega
 have K6:=rr_sign B6a
 have C7_:(sgR r4.q==0)=true:=by rw [C7];simp
 unfold Leave
 simp+decide [vaR_h2,loopsOf, Tryz.f43,vaR_o2a,vaR_C2,C1,C1_,EG2,C3,C4,C5_,K6,C7_]
theorem vaR_x2_7(C5:¬0<(i_2:Int))(B6a:RawB r4)(C7:¬sgR r4.q=0)(C9:¬(RatV r4.s r4.l1 r4.l2)):
  Leave 0 (exec Tryz.prog (tab n) 0 59 (livesOf 43) big vaR_C2) (livesOf 43 (outOf 2)) (vaR_h2 a0 a1 i_2) (.ret) (vaR_o2a a0):=by
 have C1_:i_2<a0.1.length:=by omega
 obtain ⟨EL2,EG2⟩:=List.getElem?_eq_some_iff.1 E2
 have C5_:¬0<i_2:=by omega
 have K6:=rr_sign B6a
 have C7_:(sgR r4.q==0)=false:=by simpa using C7
 have K8:=rr_valid B6a
 unfold Leave
 simp+decide [vaR_h2,loopsOf, Tryz.f43,vaR_o2a,vaR_C2,C1,C1_,EG2,C3,C4,C5_,K6,C7_,K8,C9]
end
end
theorem vaR_x2_8(C1:¬(i_2:Int)<(a0.1.length:Int)):
  Leave 0 (exec Tryz.prog (tab n) 0 59 (livesOf 43) big vaR_C2) (livesOf 43 (outOf 2)) (vaR_h2 a0 a1 i_2) (.exit 0) (vaR_o2b a0):=by
 unfold Leave
 simp+decide [vaR_h2,loopsOf, Tryz.f43,vaR_o2b,vaR_C2,C1]
theorem vaR_f1(L1:loopG Tryz.prog (tab n) 0 59 (livesOf 43) 2 vaR_C2 (vaR_h2 a0 a1 0)=some (.ret,vaR_o2a a0)):
  run n 43 [.agg [.sl 4 (a0.1.map termRC),.lit (.bool a0.2.s),natA a0.2.l1,natA a0.2.l2],.lit (.int .i64 a1)]=some (.lit (.bool false)):=by
 unfold run fnP
 simp+decide [Tryz.f43]
 rw [loopX_G (C':=vaR_C2) (e:=(vaR_h2 a0 a1 0)) ?_ ?_,L1]
 rotate_left
 ·kernel_rfl
 ·simp+decide [vaR_h2]
 simp+decide [vaR_o2a]
theorem vaR_f2(L1:loopG Tryz.prog (tab n) 0 59 (livesOf 43) 2 vaR_C2 (vaR_h2 a0 a1 0)=some (.exit 0,vaR_o2b a0))(B2a:RawB a0.2):
  run n 43 [.agg [.sl 4 (a0.1.map termRC),.lit (.bool a0.2.s),natA a0.2.l1,natA a0.2.l2],.lit (.int .i64 a1)]=some (.lit (.bool (decide (RatV a0.2.s a0.2.l1 a0.2.l2)))):=by
 have K2:=rr_valid B2a
 unfold run fnP
 simp+decide [Tryz.f43]
 rw [loopX_G (C':=vaR_C2) (e:=(vaR_h2 a0 a1 0)) ?_ ?_,L1]
 rotate_left
 ·kernel_rfl
 ·simp+decide [vaR_h2]
 simp+decide [vaR_o2b,K2]
end
end
section
open Go.RowKit
attribute [local irreducible] run runL loopG exec
def frV(f:FormR):AV:=.agg [.sl 4 (f.1.map termRC),.lit (.bool f.2.s),natA f.2.l1,natA f.2.l2]
def LimR2(r:Raw):Prop:=Lim r.l1∧Lim r.l2
structure LimF (f:FormR):Prop where
 t:∀t∈f.1,LimR2 t.2
 k:LimR2 f.2
def Two(r:Raw):Prop:=r.l1.length≤2∧r.l2.length≤2
theorem Two.rb{r:Raw}(h:Two r)(hl:LimR2 r):RawB r:=⟨hl.1,hl.2,by have:=h.1;omega,by have:=h.2;omega⟩
def Cn(r:Raw):Prop:=RatV r.s r.l1 r.l2
theorem Cn.raw{r:Raw}(h:Cn r):r=rawQ r.q:=by
 obtain ⟨s,l1,l2⟩:=r
 obtain ⟨h1,h2,h3⟩:=h
 dsimp only at h1 h2 h3
 unfold Raw.q rawQ
 dsimp only
 rw [←h1,←h2,←h3]
theorem dlmb_H(d:Nat):(lmb d).length≤max 1 (dlmb d).length:=by
 unfold dlmb
 split
 ·rename_i h;subst h;rw [lmb_one];simp
 ·exact Nat.le_max_right _ _
theorem Cn.HB{r:Raw}{m:Nat}(h:Cn r)(hm:1≤m)(h1:r.l1.length≤m)(h2:r.l2.length≤m):H r.q≤m:=by
 have e:=h.raw
 have a1:(lmb r.q.num.natAbs).length≤m:=by have:=congrArg Raw.l1 e;rw [this] at h1;exact h1
 have a2:(dlmb r.q.den).length≤m:=by have:=congrArg Raw.l2 e;rw [this] at h2;exact h2
 have a3:=dlmb_H r.q.den
 unfold Go.Proofs.YtefdjbknmfeooaaGreatDoor.H
 omega
theorem Cn.H{r:Raw}(h:Cn r)(ht:Two r):H r.q≤2:=h.HB (by omega) ht.1 ht.2
def OkTmR(F:List (Int × Raw))(vars:Int)(i:Nat):Prop:=∀v c,F[i]?=some (v,c)→0≤v∧v<vars∧c.q≠0∧Cn c∧∀v' c',0<i→F[i-1]?=some (v',c')→v'<v
def OkFR(f:FormR)(vars:Int):Prop:=(∀i,i<f.1.length→OkTmR f.1 vars i)∧Cn f.2
theorem validRB_c{n:Nat}{f:FormR}{vars:Int}(h8:f.1.length≤100000)(hrbs:∀t∈f.1,RawB t.2)(hkb:RawB f.2):run n 43 [frV f,.lit (.int .i64 vars)]=some (.lit (.bool (tv (OkFR f vars)))):=by
 have L:=loopG_all (O:=tab n) (P:= Tryz.prog) (m:=0) (N:=59) (lives:=livesOf 43) (r:=2) (C:=vaR_C2) (M:=f.1.length) (enc:=vaR_h2 f vars) (p:=fun i=>tv (OkTmR f.1 vars i)) (exN:=.exit 0) (exE:=.ret) (out:=vaR_o2b f) (outE:=vaR_o2a f) (by omega) (fun h=>by cases h) (fun h=>by cases h)
  (fun i hi _=>by
   have hx:f.1[i]?=some f.1[i]:=List.getElem?_eq_getElem hi
   obtain ⟨t,ht⟩:∃t,f.1[i]=t:=⟨_,rfl⟩
   rw [ht] at hx
   obtain ⟨v,r⟩:=t
   have hm:(v,r)∈f.1:=List.mem_of_getElem? hx
   have hrb:RawB r:=hrbs _ hm
   have C1:(i:Int)<(f.1.length:Int):=by omega
   have hp:0<i→∃v' r',f.1[i-1]?=some (v',r'):=fun h0=>⟨(f.1[i-1]'(by omega)).1,(f.1[i-1]'(by omega)).2,List.getElem?_eq_getElem _⟩
   refine ⟨fun hp'=>?_,fun hp'=>?_⟩
   ·obtain ⟨a1,a2,a3,a4,a5⟩:=tv_true hp' v r hx
    have s0:¬sgR r.q=0:=fun h=>a3 (sgR_eq_zero.1 h)
    by_cases h0:0<i
    ·obtain ⟨v',r',hx'⟩:=hp h0
     have:=a5 v' r' h0 hx'
     exact vaR_r2_1 C1 hx (by omega) (by omega) (by omega) ⟨by omega,by omega⟩ hx' (by omega) (by omega) hrb s0 a4 ⟨by omega,by omega⟩
    ·exact vaR_r2_2 C1 hx (by omega) (by omega) (by omega) hrb s0 a4 ⟨by omega,by omega⟩
   ·have hq:=tv_false hp'
    by_cases b1:v<0
    ·exact vaR_x2_1 C1 hx b1
    by_cases b2:vars≤v
    ·exact vaR_x2_2 C1 hx b1 b2
    by_cases h0:0<i
    ·obtain ⟨v',r',hx'⟩:=hp h0
     by_cases b3:v≤v'
     ·exact vaR_x2_3 C1 hx b1 b2 (by omega) ⟨by omega,by omega⟩ hx' (by omega) b3
     by_cases b4:sgR r.q=0
     ·exact vaR_x2_4 C1 hx b1 b2 (by omega) ⟨by omega,by omega⟩ hx' (by omega) b3 hrb b4
     refine vaR_x2_5 C1 hx b1 b2 (by omega) ⟨by omega,by omega⟩ hx' (by omega) b3 hrb b4 fun b5=>hq fun v2 c2 h2=>?_
     rw [hx] at h2;cases h2
     refine ⟨by omega,by omega,fun h=>b4 (sgR_eq_zero.2 h),b5,fun v3 c3 _ h3=>?_⟩
     rw [hx'] at h3;cases h3
     omega
    ·by_cases b4:sgR r.q=0
     ·exact vaR_x2_6 C1 hx b1 b2 (by omega) hrb b4
     refine vaR_x2_7 C1 hx b1 b2 (by omega) hrb b4 fun b5=>hq fun v2 c2 h2=>?_
     rw [hx] at h2;cases h2
     exact ⟨by omega,by omega,fun h=>b4 (sgR_eq_zero.2 h),b5,fun v3 c3 h9 h3=>absurd h9 h0⟩)
  (vaR_x2_8 (by omega))
 by_cases hA:∀i,i<f.1.length→tv (OkTmR f.1 vars i)=true
 ·rw [if_pos hA] at L
  have h:=vaR_f2 L hkb
  have e:decide (RatV f.2.s f.2.l1 f.2.l2)=tv (OkFR f vars):=by
   by_cases hk:Cn f.2
   ·rw [tv_t ⟨fun i hi=>tv_true (hA i hi),hk⟩];exact decide_eq_true hk
   ·rw [tv_f fun h=>hk h.2];exact decide_eq_false hk
  rw [e] at h
  exact h
 ·rw [if_neg hA] at L
  rw [tv_f fun h=>hA fun i hi=>tv_t (h.1 i hi)]
  exact vaR_f1 L
def unR(f:FormR):Form:=(f.1.map fun t=>(t.1,t.2.q),f.2.q)
theorem small_formB{f:FormR}{vars:Int}{m:Nat}(hm:1≤m)(ht:∀t∈f.1,t.2.l1.length≤m∧t.2.l2.length≤m)(hk:f.2.l1.length≤m∧f.2.l2.length≤m)(ho:OkFR f vars):frV f=formV (unR f)∧(unR f).1.length=f.1.length∧(∀t∈(unR f).1,H t.2≤m)∧H (unR f).2≤m∧OkFm (unR f) vars:=by
 have hc:∀t∈f.1,Cn t.2:=fun t ht=>by
  obtain ⟨i,hi⟩:=List.mem_iff_getElem?.1 ht
  exact (ho.1 i (List.getElem?_eq_some_iff.1 hi).1 t.1 t.2 hi).2.2.2.1
 refine ⟨?_,by simp [unR],fun t h9=>?_,ho.2.HB hm hk.1 hk.2,fun i hi v c h=>?_⟩
 ·have e1:f.1.map termRC=(unR f).1.map termC:=by
   simp only [unR,List.map_map]
   apply List.map_congr_left
   intro t ht
   have e:=(hc t ht).raw
   simp only [Function.comp,termRC,termC,ratC]
   rw [←e]
  have e2:=ho.2.raw
  unfold frV
  simp only [formV,e1]
  have e3:rawQ (unR f).2=f.2:=e2.symm
  rw [e3]
 ·simp only [unR,List.mem_map] at h9
  obtain ⟨u,hu,rfl⟩:=h9
  exact (hc u hu).HB hm (ht u hu).1 (ht u hu).2
 ·simp only [unR,List.length_map] at hi
  simp only [unR,List.getElem?_map] at h
  obtain ⟨u,hu,he⟩:=Option.map_eq_some_iff.1 h
  cases he
  obtain ⟨a1,a2,a3,_,a5⟩:=ho.1 i hi u.1 u.2 hu
  refine ⟨a1,a2,a3,fun v' c' h0 h'=>?_⟩
  simp only [unR,List.getElem?_map] at h'
  obtain ⟨u',hu',he'⟩:=Option.map_eq_some_iff.1 h'
  cases he'
  exact a5 u'.1 u'.2 h0 hu'
theorem limbs_c{n:Nat}{a b:List Nat}(ha:a.length≤1000000):run n 70 [natA a,natA b]=some (.lit (.bool (tv (a=b)))):=by
 by_cases hl:a.length=b.length
 ·have hG:=loopG_all (O:=tab n) (P:= Tryz.prog) (m:=0) (N:=26) (lives:=livesOf 70) (r:=4) (C:=r2l_C4) (M:=a.length) (enc:=r2l_h4 a b) (p:=fun i=>decide (a[i]?=b[i]?)) (exN:=.exit 0) (exE:=.ret) (out:=r2l_o4b) (outE:=r2l_o4a) (by omega) (by simp) (by simp)
   (fun i hi _=>by
    have e1:a[i]?=some a[i]:=List.getElem?_eq_getElem hi
    have e2:b[i]?=some (b[i]'(by omega)):=List.getElem?_eq_getElem (by omega)
    generalize a[i]=x at e1
    generalize b[i]'(by omega)=y at e2
    refine ⟨fun hp=>r2l_r4_1 (by omega) e1 e2 ?_ ⟨by omega,by omega⟩,fun hp=>r2l_x4_1 (by omega) e1 e2 ?_⟩
    ·have h:=of_decide_eq_true hp
     rw [e1,e2] at h
     cases h;rfl
    ·intro h
     have h2:=of_decide_eq_false hp
     rw [e1,e2] at h2
     exact h2 (by rw [show x=y from by omega]))
   (r2l_x4_2 (by omega))
  by_cases h:a=b
  ·subst h
   rw [if_pos fun i _=>decide_eq_true rfl] at hG
   rw [tv_t rfl]
   exact r2l_f3 rfl hG
  ·rw [if_neg fun h2=>h (List.ext_getElem? fun i=>by
    by_cases c:i<a.length
    ·exact of_decide_eq_true (h2 i c)
    ·rw [List.getElem?_eq_none (by omega),List.getElem?_eq_none (by omega)])] at hG
   rw [tv_f h]
   exact r2l_f2 (by omega) hG
 ·rw [tv_f fun h=>hl (by rw [h])]
  exact r2l_f1 (by omega)
def RawL(r:Raw):Prop:=r.l1.length≤1000000∧r.l2.length≤1000000
theorem rat12_c{n:Nat}{a b:Raw}(ha:RawL a):run (n+1) 47 [.agg [.lit (.bool a.s),natA a.l1,natA a.l2],.agg [.lit (.bool b.s),natA b.l1,natA b.l2]]=some (.lit (.bool (tv (a=b)))):=by
 obtain ⟨s,l1,l2⟩:=a
 obtain ⟨t,m1,m2⟩:=b
 have K1:=limbs_c (n:=n) (b:=m1) ha.1
 have K2:=limbs_c (n:=n) (b:=m2) ha.2
 by_cases c:s=t
 ·by_cases c1:l1=m1
  ·rw [tv_iff (show ((⟨s,l1,l2⟩:Raw)=⟨t,m1,m2⟩)↔l2=m2 from ⟨fun h=>by cases h;rfl,fun h=>by rw [c,c1,h]⟩)]
   exact r2r_f1 c K1 (tv_t c1) K2
  ·rw [tv_f fun h=>c1 (by cases h;rfl)]
   exact r2r_f2 c K1 (tv_f c1)
 ·rw [tv_f fun h=>c (by cases h;rfl)]
  exact r2r_f3 c
structure FormL (f:FormR):Prop where
 l:f.1.length≤1000000
 t:∀t∈f.1,RawL t.2
 k:RawL f.2
theorem form17R_c{n:Nat}{f g:FormR}(hf:FormL f):run (n+2) 42 [frV f,frV g]=some (.lit (.bool (tv (f=g)))):=by
 have hl:=hf.l
 obtain ⟨F,r⟩:=f
 obtain ⟨G,s⟩:=g
 have K:=rat12_c (n:=n) (b:=s) hf.k
 by_cases c:F.length=G.length
 ·by_cases c1:r=s
  ·have hG:=loopG_all (O:=tab (n+2)) (P:= Tryz.prog) (m:=0) (N:=57) (lives:=livesOf 42) (r:=4) (C:=rFR_C4) (M:=F.length) (enc:=rFR_h4 (F,r) (G,s)) (p:=fun i=>tv (F[i]?=G[i]?)) (exN:=.exit 0) (exE:=.ret) (out:=rFR_o4b) (outE:=rFR_o4a) (by dsimp only at hl;omega) (by simp) (by simp)
    (fun i hi _=>by
     dsimp only at hl
     have e1:F[i]?=some F[i]:=List.getElem?_eq_getElem hi
     have e2:G[i]?=some (G[i]'(by omega)):=List.getElem?_eq_getElem (by omega)
     generalize F[i]=x at e1
     generalize G[i]'(by omega)=y at e2
     obtain ⟨u,x⟩:=x
     obtain ⟨v,y⟩:=y
     have K4:=rat12_c (n:=n) (b:=y) (hf.t _ (List.mem_of_getElem? e1))
     rw [e1,e2]
     by_cases c2:u=v
     ·have e3:tv (some (u,x)=some (v,y))=tv (x=y):=tv_iff ⟨fun h=>by cases h;rfl,fun h=>by rw [c2,h]⟩
      rw [e3]
      exact ⟨fun hp=>rFR_r4_1 (by dsimp only;omega) e1 e2 c2 K4 hp ⟨by omega,by omega⟩,fun hp=>rFR_x4_2 (by dsimp only;omega) e1 e2 c2 K4 hp⟩
     ·rw [tv_f fun h=>c2 (by cases h;rfl)]
      exact ⟨fun hp=>by simp at hp,fun _=>rFR_x4_1 (by dsimp only;omega) e1 e2 c2⟩)
    (rFR_x4_3 (by dsimp only;omega))
   by_cases h:F=G
   ·subst h
    rw [if_pos fun i _=>tv_t rfl] at hG
    rw [tv_t (by rw [c1])]
    exact rFR_f4 rfl K (tv_t c1) hG
   ·rw [if_neg fun h2=>h (List.ext_getElem? fun i=>by
     by_cases c3:i<F.length
     ·exact tv_true (h2 i c3)
     ·rw [List.getElem?_eq_none (by omega),List.getElem?_eq_none (by omega)])] at hG
    rw [tv_f fun h2=>h (by cases h2;rfl)]
    exact rFR_f3 (by dsimp only;omega) K (tv_t c1) hG
  ·rw [tv_f fun h2=>c1 (by cases h2;rfl)]
   exact rFR_f2 (by dsimp only;omega) K (tv_f c1)
 ·rw [tv_f fun h2=>c (by cases h2;rfl)]
  exact rFR_f1 (by dsimp only;omega)
def rwF(f:Form):FormR:=(f.1.map fun t=>(t.1,rawQ t.2),rawQ f.2)
theorem rwF_inj{f g:Form}(h:rwF f=rwF g):f=g:=by
 obtain ⟨F,q⟩:=f
 obtain ⟨G,r⟩:=g
 have h1:F.map (fun t=>(t.1,rawQ t.2))=G.map (fun t=>(t.1,rawQ t.2)):=congrArg Prod.fst h
 have h2:rawQ q=rawQ r:=congrArg Prod.snd h
 have h3:F=G:=(List.map_inj_right fun a b e=>by
  obtain ⟨a1,a2⟩:=a
  obtain ⟨b1,b2⟩:=b
  have e1:a1=b1:=congrArg Prod.fst e
  have e2:rawQ a2=rawQ b2:=congrArg Prod.snd e
  rw [e1,rawQ_inj e2]).1 h1
 rw [h3,rawQ_inj h2]
theorem rwF_V(f:Form):frV (rwF f)=formV f:=by
 show AV.agg [.sl 4 ((f.1.map fun t=>(t.1,rawQ t.2)).map termRC),_,_,_]=_
 rw [List.map_map]
 rfl
theorem rawL_q{q:Rat}(h:H q≤1000000):RawL (rawQ q):=by
 have h1:(lmb q.num.natAbs).length≤1000000∧(lmb q.den).length≤1000000:=by unfold H at h;omega
 refine ⟨h1.1,?_⟩
 show (dlmb q.den).length≤_
 unfold dlmb
 split
 ·exact Nat.zero_le _
 ·exact h1.2
theorem form17_c{n:Nat}{f g:Form}(hl:f.1.length≤1000000)(ht:∀t∈f.1,H t.2≤1000000)(hk:H f.2≤1000000):run (n+2) 42 [formV f,formV g]=some (.lit (.bool (tv (f=g)))):=by
 rw [←rwF_V f,←rwF_V g,tv_iff (show f=g↔rwF f=rwF g from ⟨fun h=>by rw [h],rwF_inj⟩)]
 refine form17R_c ⟨by show (f.1.map _).length≤_;rw [List.length_map];exact hl,fun t h=>?_,rawL_q hk⟩
 obtain ⟨u,hu,rfl⟩:=List.mem_map.1 (show t∈f.1.map _ from h)
 exact rawL_q (ht u hu)
theorem has_c{n:Nat}{f:Form}{v:Int}(hl:f.1.length≤1000000):run n 48 [formV f,.lit (.int .i64 v)]=some (.lit (.bool (tv (hasV f v)))):=by
 have hG:=loopG_all (O:=tab n) (P:= Tryz.prog) (m:=0) (N:=21) (lives:=livesOf 48) (r:=2) (C:=has_C2) (M:=f.1.length) (enc:=has_h2 f v) (p:=fun i=>tv (∀t,f.1[i]?=some t→t.1≠v)) (exN:=.exit 0) (exE:=.ret) (out:=has_o2b) (outE:=has_o2a) (by omega) (by simp) (by simp)
  (fun i hi _=>by
   have e1:f.1[i]?=some f.1[i]:=List.getElem?_eq_getElem hi
   generalize f.1[i]=t at e1
   obtain ⟨u,q⟩:=t
   by_cases c:u=v
   ·rw [tv_f fun h=>h _ e1 c]
    exact ⟨fun hp=>by simp at hp,fun _=>has_x2_1 (by omega) e1 c⟩
   ·rw [tv_t fun t ht=>by rw [e1] at ht;cases ht;exact c]
    exact ⟨fun _=>has_r2_1 (by omega) e1 c ⟨by omega,by omega⟩,fun hp=>by simp at hp⟩)
  (has_x2_2 (by omega))
 by_cases h:hasV f v
 ·rw [if_neg fun h2=>by
   obtain ⟨t,ht,e⟩:=h
   obtain ⟨i,hi⟩:=List.mem_iff_getElem?.1 ht
   exact tv_true (h2 i (List.getElem?_eq_some_iff.1 hi).1) t hi e] at hG
  rw [tv_t h]
  exact has_f1 hG
 ·rw [if_pos fun i _=>tv_t fun t ht e=>h ⟨t,List.mem_of_getElem? ht,e⟩] at hG
  rw [tv_f h]
  exact has_f2 hG
theorem lower_c{n:Nat}{f:Form}{v:Int}(hl:f.1.length≤1000000)(hv:∀t∈f.1,0≤t.1∧t.1<1000000):run n 58 [formV f,.lit (.int .i64 v)]=some (formV (lowT v f.1,f.2)):=by
 obtain ⟨o,L,ho⟩:=loopG_R (β:=List (Int × Rat)) (P:= Tryz.prog) (O:=tab n) (m:=0) (N:=38) (lives:=livesOf 58) (r:=3) (C:=low_C3) (M:=f.1.length) (enc:=fun i o=>low_h3 f v i o) (exN:=.exit 0) (out:=fun o=>low_o3a f o) (fun i o=>o=lowT v (f.1.take i)) [] rfl (by omega) (fun h=>by cases h)
  (fun i o hi hI=>by
   have e1:f.1[i]?=some f.1[i]:=List.getElem?_eq_getElem hi
   generalize f.1[i]=t at e1
   obtain ⟨u,q⟩:=t
   have hu:0≤u∧u<1000000:=hv _ (List.mem_of_getElem? e1)
   have hol:o.length≤1000000:=by
    rw [hI]
    show ((f.1.take i).map _).length≤_
    rw [List.length_map,List.length_take];omega
   have hn:lowT v (f.1.take (i+1))=o++[(lowV v u,q)]:=by
    rw [hI,List.take_add_one,e1]
    show (f.1.take i++[(u,q)]).map _=_
    rw [List.map_append];rfl
   by_cases c:v<u
   ·refine ⟨_,low_r3_1 (by omega) e1 c ⟨by omega,by omega⟩ (by omega) ⟨by omega,by omega⟩,?_⟩
    rw [hn]
    unfold lowV
    rw [if_pos c]
   ·refine ⟨_,low_r3_2 (by omega) e1 c (by omega) ⟨by omega,by omega⟩,?_⟩
    rw [hn]
    unfold lowV
    rw [if_neg c])
  (fun o hI=>low_x3_1 (by omega))
 rw [List.take_of_length_le (Nat.le_refl _)] at ho
 rw [←ho]
 exact low_f1 L
theorem fsbW_c{n m:Nat}{f g:Form}{v:Int}(hS:Srt f.1)(hF:TmB m f.1)(hG:TmB m g.1)(hk:H f.2≤m)(hk2:H g.2≤m)(hlf:f.1.length≤100)(hlg:g.1.length≤1)(hm:m≤20000)(h1:1≤m):
  run (n+3) 59 [formV f,.lit (.int .i64 v),formV g]=some (formV (addV (rst f.1 v) (sclV g.1 (cof f.1 v)),f.2+g.2*cof f.1 v)):=by
 have hc:H (cof f.1 v)≤m:=cof_H (fun t ht=>(hF t ht).2) h1
 have hn:=H_neg (cof f.1 v)
 have hmu:=H_mul g.2 (cof f.1 v)
 have K1:=fco_c (n:=n+2) (f:=f) (v:=v) (by omega)
 have K3:=plus_c (n:=n+1) (f:=f) (v:=v) (c:=-(cof f.1 v)) (hF.mono (by omega)) (by omega) (by omega)
 rw [rst_plus hS] at K3
 have K4:=scale_c (n:=n+1) (f:=g) (c:=cof f.1 v) (hG.mono (by omega)) (by omega) (by omega) (by omega)
 have hr:=rst_len f.1 v
 have hs:=sclV_len (cof f.1 v) g.1
 have tR:TmB m (rst f.1 v):=fun t ht=>hF t (rst_mem ht)
 have hq:(m+m+1)*((sclV g.1 (cof f.1 v)).length+1)≤(m+m+1)*2:=Nat.mul_le_mul_left _ (by omega)
 have K5:=add_c (n:=n) (f:=(rst f.1 v,f.2)) (g:=(sclV g.1 (cof f.1 v),g.2*cof f.1 v)) (m:=m) (b:=m+m) (hG.scl hc) (by dsimp only;omega) tR (by dsimp only;omega) (by dsimp only;omega) (by dsimp only;omega) (by dsimp only;omega)
 exact fsb_f1 K1 (by omega) K3 K4 K5
theorem Replace_c{n:Nat}{g:TGraph}{j:Nat}{b:Form}(h:SG g)(hj:j<g.Units.length)(hb:ByOk g j b):
  run (n+4) 37 [graphV g,.lit (.int .i64 (j:Int)),formV b]=some (graphV (rpG g j b)):=by
 have i0:=h.i0
 have i1:=h.i1
 have u8:=h.u
 have o1:=h.o1
 have bf:=hb.bef i0
 have h2:=hbd_two u8
 have ht:=hbd_top g.Units.length
 have hbt:TmB (hbd g.Units.length) b.1:=by
  rcases hb.s2 with e|⟨k,e⟩
  ·rw [e];exact fun t ht=>by cases ht
  ·rw [e]
   exact fun t ht=>by
    rw [List.mem_singleton.1 ht]
    exact ⟨by show (1:Rat)≠0;decide,by show H 1≤_;rw [show H 1=1 from by decide+kernel];omega⟩
 have hbl:b.1.length≤1:=by
  rcases hb.s2 with e|⟨k,e⟩
  ·rw [e];exact Nat.zero_le _
  ·rw [e];exact Nat.le_refl _
 have hbi:InR (g.Inputs.toNat+g.Units.length) b.1:=fun t ht=>by have:=bf.r t ht;omega
 have key:∀{f:Form},Srt f.1→InR (g.Inputs.toNat+g.Units.length) f.1→HB (hbd g.Units.length) f→∃r:Form,run (n+3) 59 [formV f,.lit (.int .i64 (g.Inputs+(j:Int))),formV b]=some (formV r)∧run (n+3) 58 [formV r,.lit (.int .i64 (g.Inputs+(j:Int)))]=some (formV (rpF (g.Inputs+(j:Int)) b f)):=fun {f} s1 s2 s3=>by
  have hfl:=inr_len s1 s2
  have ir:InR (g.Inputs.toNat+g.Units.length) (addV (rst f.1 (g.Inputs+(j:Int))) (sclV b.1 (cof f.1 (g.Inputs+(j:Int))))):=(InR.rst s2).add (InR.scl hbi)
  have hsr:=(add_srt (rst_srt (v:=g.Inputs+(j:Int)) s1) (scl_srt (c:=cof f.1 (g.Inputs+(j:Int))) bf.s).1).1
  have hll:=inr_len hsr ir
  exact ⟨_,fsbW_c s1 s3.1 hbt s3.2 hb.h (by omega) hbl (by omega) (by omega),lower_c (by dsimp only;omega) fun t ht=>by have:=ir t ht;omega⟩
 obtain ⟨o,L1,hI1⟩:=loopG_R (β:=List Form) (P:= Tryz.prog) (O:=tab (n+4)) (m:=0) (N:=81) (lives:=livesOf 37) (r:=4) (C:=rRp_C4) (M:=g.Units.length) (enc:=fun i o=>rRp_h4 g (j:Int) b i o) (exN:=.exit 0) (out:=fun o=>rRp_o4a g (j:Int) b o) (fun i o=>o=(rpG g j b).Units.take (if i≤j then i else i-1)) [] rfl (by omega) (fun h=>by cases h)
  (fun i o hi hI=>by
   have e1:g.Units[i]?=some g.Units[i]:=List.getElem?_eq_getElem hi
   generalize g.Units[i]=f at e1
   obtain ⟨s1,s2⟩:=h.us i f e1
   have s3:=h.hu f (List.mem_of_getElem? e1)
   have hol:o.length≤8:=by
    have:=rpG_len (b:=b) hj
    rw [hI,List.length_take];omega
   obtain ⟨F,q⟩:=f
   rcases Nat.lt_trichotomy i j with c|c|c
   ·have hfl:=inr_len s1 s2
    have K4:=lower_c (n:=n+3) (f:=(F,q)) (v:=g.Inputs+(j:Int)) (by dsimp only at hfl ⊢;omega) fun t ht=>by have:=s2 t ht;omega
    rw [show lowT (g.Inputs+(j:Int)) ((F,q):Form).1=F from lowT_id fun t ht=>by have:=s2 t ht;omega] at K4
    refine ⟨o++[(F,q)],rRp_r4_2 (by omega) (by omega) e1 K4 (by omega) (by omega) ⟨by omega,by omega⟩,?_⟩
    rw [hI,if_pos (by omega),if_pos (by omega),List.take_add_one,rpG_get hj,if_pos c,e1]
    rfl
   ·subst c
    refine ⟨o,rRp_r4_4 (by omega) (by omega) (by omega) ⟨by omega,by omega⟩,?_⟩
    rw [hI,if_pos (Nat.le_refl _),if_neg (by omega),Nat.add_sub_cancel]
   ·obtain ⟨r,K5,K6⟩:=key s1 (fun t ht=>by have:=s2 t ht;omega) s3
    refine ⟨_,rRp_r4_3 (by omega) (by omega) (by omega) e1 K5 K6 (by omega) ⟨by omega,by omega⟩,?_⟩
    obtain ⟨k,rfl⟩:∃k,i=k+1:=⟨i-1,by omega⟩
    rw [hI,if_neg (by omega),if_neg (by omega),Nat.add_sub_cancel,Nat.add_sub_cancel,List.take_add_one,rpG_get hj,if_neg (by omega),e1]
    rfl)
  (fun o hI=>rRp_x4_1 (by omega))
 have hU:o=(rpG g j b).Units:=by
  have:=rpG_len (b:=b) hj
  rw [hI1,if_neg (by omega),List.take_of_length_le (by omega)]
 obtain ⟨o2,L2,hI2⟩:=loopG_R (β:=List Form) (P:= Tryz.prog) (O:=tab (n+4)) (m:=0) (N:=81) (lives:=livesOf 37) (r:=11) (C:=rRp_C11) (M:=g.Outputs.length) (enc:=fun i o2=>rRp_h11 g (j:Int) b i o o2) (exN:=.exit 2) (out:=fun o2=>rRp_o11a g o o2) (fun i o2=>o2=(g.Outputs.take i).map (rpF (g.Inputs+(j:Int)) b)) [] rfl (by omega) (fun h=>by cases h)
  (fun i o2 hi hI=>by
   have e1:g.Outputs[i]?=some g.Outputs[i]:=List.getElem?_eq_getElem hi
   generalize g.Outputs[i]=f at e1
   have hm:=List.mem_of_getElem? e1
   obtain ⟨s1,s2⟩:=h.os f hm
   have s3:=h.ho f hm
   have hol:o2.length≤8:=by rw [hI,List.length_map,List.length_take];omega
   obtain ⟨r,K5,K6⟩:=key s1 s2 s3
   obtain ⟨F,q⟩:=f
   refine ⟨_,rRp_r11_1 (by omega) e1 K5 K6 (by omega) ⟨by omega,by omega⟩,?_⟩
   rw [hI,List.take_add_one,e1,List.map_append]
   rfl)
  (fun o2 hI=>rRp_x11_1 (by omega))
 rw [List.take_of_length_le (Nat.le_refl _)] at hI2
 have R:=rRp_f1 ⟨by omega,by omega⟩ L1 L2
 rw [hU,hI2] at R
 exact R
end
end Go.Proofs.YtefdjbknmfeooaaGreatDoor
