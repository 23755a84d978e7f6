import Derived.Test.YtefdjbknmfeooaaGreatDoorGO23
import Derived.Test.YtefdjbknmfeooaaGreatDoorGO25
import Derived.Test.YtefdjbknmfeooaaGreatDoorGO16
import Derived.Test.YtefdjbknmfeooaaGreatDoorGO19
import Derived.Test.YtefdjbknmfeooaaGreatDoorGO24
set_option linter.all false
set_option maxHeartbeats 6400000
set_option maxRecDepth 100000
namespace Go.Proofs.YtefdjbknmfeooaaGreatDoor
section
open Go.RowKit
attribute [local irreducible] run runL loopG exec
def sumH:List Rat→Nat
 | []=>0
 | x::X=>H x+sumH X
theorem sumH_app:∀(X:List Rat) (q:Rat),sumH (X++[q])=sumH X+H q
 | [],q=>by show H q+0=0+H q;omega
 | x::X,q=>by show H x+sumH (X++[q])=H x+sumH X+H q;rw [sumH_app X q];omega
theorem sumH_mem{q:Rat}:∀{X:List Rat},q∈X→H q≤sumH X
 | x::X,h=>by
   rcases List.mem_cons.1 h with rfl|h
   ·exact Nat.le_add_right _ _
   ·exact Nat.le_trans (sumH_mem h) (Nat.le_add_left _ _)
theorem sumH_le{b:Nat}:∀{X:List Rat},(∀q∈X,H q≤b)→sumH X≤X.length*b
 | [],_=>Nat.zero_le _
 | x::X,h=>by
   have h1:=h x (by simp)
   have h2:=sumH_le (X:=X) fun q hq=>h q (by simp [hq])
   rw [List.length_cons,Nat.succ_mul]
   show H x+sumH X≤_
   omega
theorem sumH_drop(X:List Rat):∀(k j:Nat),sumH (X.drop (j+k))≤sumH (X.drop j)
 | 0,j=>Nat.le_refl _
 | k+1,j=>by
   refine Nat.le_trans ?_ (sumH_drop X k j)
   rw [show j+(k+1)=(j+k)+1 from rfl]
   by_cases c:j+k<X.length
   ·rw [List.drop_eq_getElem_cons c]
    exact Nat.le_add_left _ _
   ·rw [List.drop_eq_nil_of_le (by omega)]
    exact Nat.zero_le _
theorem evS_HS{X:List Rat}{a:Nat}:∀{F:List (Int × Rat)} {lo:Nat},Srt F→(∀t∈F,(lo:Int)≤t.1∧t.1<(X.length:Int))→(∀t∈F,H t.2≤a)→H (evS X F)≤1+F.length*(a+1)+sumH (X.drop lo)
 | [],lo,_,_,_=>by
   have:H 0≤1:=by decide
   show H 0≤_
   omega
 | t::F,lo,hs,hr,ha=>by
   have ht:=hr t (by simp)
   have hta:=ha t (by simp)
   have hlt:t.1.toNat<X.length:=by omega
   have ih:=evS_HS (X:=X) (a:=a) (lo:=t.1.toNat+1) hs.tail (fun u hu=>⟨by have:=hs.head u hu;omega,(hr u (by simp [hu])).2⟩) fun u hu=>ha u (by simp [hu])
   have d1:=sumH_drop X (t.1.toNat-lo) lo
   rw [show lo+(t.1.toNat-lo)=t.1.toNat from by omega,List.drop_eq_getElem_cons hlt] at d1
   have d2:H X[t.1.toNat]+sumH (X.drop (t.1.toNat+1))≤sumH (X.drop lo):=d1
   have e:X.getD t.1.toNat 0=X[t.1.toNat]:=by rw [List.getD_eq_getElem?_getD,List.getElem?_eq_getElem hlt];rfl
   rw [evS,e,List.length_cons,Nat.succ_mul]
   have h1:=H_add (t.2*X[t.1.toNat]) (evS X F)
   have h2:=H_mul t.2 X[t.1.toNat]
   omega
theorem evV_HS{X:List Rat}{a:Nat}{f:Form}(hs:Srt f.1)(hr:InR X.length f.1)(hb:HB a f)(hl:f.1.length≤16):H (evV X f)≤sumH X+(a+16*(a+1)+2):=by
 rw [evV_s]
 have h1:=H_add f.2 (evS X f.1)
 have h2:=evS_HS (X:=X) (a:=a) (lo:=0) hs (fun t ht=>⟨by have:=(hr t ht).1;omega,(hr t ht).2⟩) fun t ht=>(hb.1 t ht).2
 rw [List.drop_zero] at h2
 have h3:=hb.2
 have h4:f.1.length*(a+1)≤16*(a+1):=Nat.mul_le_mul_right _ hl
 omega
def sbnd(c:Nat):Nat→Nat
 | 0=>16
 | i+1=>2*sbnd c i+c
theorem sbnd_mono(c:Nat):∀(k i:Nat),sbnd c i≤sbnd c (i+k)
 | 0,i=>Nat.le_refl _
 | k+1,i=>by
   have:=sbnd_mono c k i
   show _≤2*sbnd c (i+k)+c
   omega
def cB(a:Nat):Nat:=a+16*(a+1)+2
theorem sbnd_hbd{u:Nat}(h:u≤8):sbnd (cB (hbd u)) (u+1)≤1000000:=by
 rcases (by omega:u=0∨u=1∨u=2∨u=3∨u=4∨u=5∨u=6∨u=7∨u=8) with rfl|rfl|rfl|rfl|rfl|rfl|rfl|rfl|rfl <;>decide+kernel
section
variable{n:Nat}{g:TGraph}{X:List Rat}(h:SG g)(ok:OkGr g)(hX:(X.length:Int)=g.Inputs)(hb:∀q∈X,H q≤2)
include h ok hX hb
theorem values7_c:run (n+3) 68 [graphV g,.sl 3 (X.map ratC)]=some (.tup [.sl 3 ((valV g.Units X).map ratC),.lit (.int .i64 0)])∧sumH (valV g.Units X)≤sbnd (cB (hbd g.Units.length)) g.Units.length∧(valV g.Units X).length=X.length+g.Units.length:=by
 have i0:=h.i0
 have i8:=h.i1
 have u8:=h.u
 have ht:=hbd_top g.Units.length
 have hS:=sbnd_hbd u8
 have hm1:=sbnd_mono (cB (hbd g.Units.length)) 1 g.Units.length
 have K:=validG_c (n:=n) h.bd
 rw [tv_t ok] at K
 have hs0:sumH X≤16:=by have:=sumH_le hb;omega
 have L1:=(loopG_I (O:=tab (n+3)) (P:= Tryz.prog) (m:=0) (N:=59) (lives:=livesOf 68) (r:=5) (C:=vs_C5) (L:=X) (f:=fun _ o x=>o++[x]) (enc:=fun i o=>vs_h5 g X o i) (exN:=.exit 0) (out:=fun o=>vs_o5a g o) (Inv:=fun i o=>o.length=i) [] rfl (by omega) (by simp)
  (fun i x o hi hI=>by
   have hlt:=(List.getElem?_eq_some_iff.1 hi).1
   have:=hb x (List.mem_of_getElem? hi)
   exact ⟨vs_r5_1 (by omega) hi (by omega) (by omega) ⟨by omega,by omega⟩,by rw [List.length_append,hI];rfl⟩)
  (fun o hI=>vs_x5_1 (by omega))).1
 have key:∀(R:List Rat) (i:Nat) (o:List Rat),foldI (fun _ o x=>o++[x]) i o R=o++R:=fun R=>by
  induction R with
  | nil=>intro i o;simp [foldI]
  | cons x R ih=>intro i o;rw [foldI,ih];simp
 rw [key,List.nil_append] at L1
 have L2:=loopG_I (O:=tab (n+3)) (P:= Tryz.prog) (m:=0) (N:=59) (lives:=livesOf 68) (r:=9) (C:=vs_C9) (L:=g.Units) (f:=fun _ (o:List Rat × Nat) f=>(o.1++[max0 (evV o.1 f)],o.1.length)) (enc:=fun i o=>vs_h9 g o.1 i o.2) (exN:=.exit 2) (out:=fun o=>vs_o9a o.1 o.2) (Inv:=fun i o=>o.1.length=X.length+i∧sumH o.1≤sbnd (cB (hbd g.Units.length)) i∧i≤g.Units.length) (X,0) ⟨rfl,hs0,by omega⟩ (by omega) (by simp)
  (fun i f o hi hI=>by
   obtain ⟨o,fz⟩:=o
   obtain ⟨h1,h2,h3⟩:=hI
   dsimp only at h1 h2
   have hlt:=(List.getElem?_eq_some_iff.1 hi).1
   have hf:=List.mem_of_getElem? hi
   obtain ⟨s1,s2⟩:=h.us i f hi
   have hB:=h.hu f hf
   have hl:=h.len hi
   have hmi:=sbnd_mono (cB (hbd g.Units.length)) (g.Units.length-i) i
   rw [show i+(g.Units.length-i)=g.Units.length from by omega] at hmi
   have hr:InR o.length f.1:=fun t ht=>by have:=s2 t ht;omega
   have hEH:=evV_HS s1 hr hB hl
   have hmul:f.1.length*(hbd g.Units.length+1000000+1)≤16*(hbd g.Units.length+1000000+1):=Nat.mul_le_mul_right _ hl
   have hE:=eval_ok (n:=n+2) (f:=f) (X:=o) (a:=hbd g.Units.length) (b:=1000000) (k:=hbd g.Units.length) (fun t ht=>(hB.1 t ht).2) (fun q hq=>by have:=sumH_mem hq;omega) hB.2 (by omega) (by omega) (by omega) (by omega) (fun t ht=>by have:=hr t ht;omega)
   have hM:=max0_c (n:=n+2) (q:=evV o f) (by unfold cB at*;omega)
   have hH:=max0_H (evV o f)
   have hE2:sbnd (cB (hbd g.Units.length)) (i+1)=2*sbnd (cB (hbd g.Units.length)) i+cB (hbd g.Units.length):=rfl
   dsimp only
   refine ⟨vs_r9_1 (r8:=evV o f) (by omega) hi hE.1 hM (by omega) ⟨by omega,by omega⟩,by rw [List.length_append,h1];rfl,?_,hlt⟩
   rw [sumH_app,hE2]
   have ec:cB (hbd g.Units.length)=hbd g.Units.length+16*(hbd g.Units.length+1)+2:=rfl
   omega)
  (fun o hI=>vs_x9_1 (by omega))
 have key2:∀(U:List Form) (i:Nat) (o:List Rat) (z:Nat),(foldI (fun _ (o:List Rat × Nat) f=>(o.1++[max0 (evV o.1 f)],o.1.length)) i (o,z) U).1=foldI (fun _ out f=>out++[max0 (evV out f)]) i o U:=fun U=>by
  induction U with
  | nil=>intro i o z;rfl
  | cons f U ih=>intro i o z;exact ih (i+1) _ _
 have e:(foldI (fun _ (o:List Rat × Nat) f=>(o.1++[max0 (evV o.1 f)],o.1.length)) 0 (X,0) g.Units).1=valV g.Units X:=key2 _ _ _ _
 obtain ⟨L3,h1,h2,_⟩:=L2
 rw [e] at L3 h1 h2
 exact ⟨vs_f3 K rfl hX L1 L3,h2,h1⟩
theorem fouts7_c:run (n+5) 23 [graphV g,.sl 3 (X.map ratC)]=some (.tup [.sl 3 ((outV g X).map ratC),.lit (.int .i64 0)])∧∀q∈outV g X,H q≤1000000:=by
 obtain ⟨K,hV,hVl⟩:=values7_c (n:=n) h ok hX hb
 have i0:=h.i0
 have i8:=h.i1
 have u8:=h.u
 have o8:=h.o1
 have ht:=hbd_top g.Units.length
 have hS:=sbnd_hbd u8
 have hm1:sbnd (cB (hbd g.Units.length)) (g.Units.length+1)=2*sbnd (cB (hbd g.Units.length)) g.Units.length+cB (hbd g.Units.length):=rfl
 have ec:cB (hbd g.Units.length)=hbd g.Units.length+16*(hbd g.Units.length+1)+2:=rfl
 have hE:∀f∈g.Outputs,run (n+3) 69 [formV f,.sl 3 ((valV g.Units X).map ratC)]=some (.tup [ratV (evV (valV g.Units X) f),.lit (.int .i64 0)])∧H (evV (valV g.Units X) f)≤1000000:=fun f hf=>by
  obtain ⟨s1,s2⟩:=h.os f hf
  have hB:=h.ho f hf
  have hl:=h.leno hf
  have hr:InR (valV g.Units X).length f.1:=fun t ht=>by have:=s2 t ht;omega
  have hEH:=evV_HS s1 hr hB hl
  have hmul:f.1.length*(hbd g.Units.length+1000000+1)≤16*(hbd g.Units.length+1000000+1):=Nat.mul_le_mul_right _ hl
  exact ⟨(eval_ok (n:=n+3) (f:=f) (X:=valV g.Units X) (a:=hbd g.Units.length) (b:=1000000) (k:=hbd g.Units.length) (fun t ht=>(hB.1 t ht).2) (fun q hq=>by have:=sumH_mem hq;omega) hB.2 (by omega) (by omega) (by omega) (by omega) (fun t ht=>by have:=hr t ht;omega)).1,by omega⟩
 have L1:=(loopG_I (O:=tab (n+4)) (P:= Tryz.prog) (m:=0) (N:=43) (lives:=livesOf 46) (r:=6) (C:=fm_C6) (L:=g.Outputs) (f:=fun _ o f=>o++[evV (valV g.Units X) f]) (enc:=fun i o=>fm_h6 g.Outputs (valV g.Units X) o i) (exN:=.exit 0) (out:=fun o=>fm_o6a o) (Inv:=fun i o=>o.length=i) [] rfl (by omega) (by simp)
  (fun i f o hi hI=>by
   have hlt:=(List.getElem?_eq_some_iff.1 hi).1
   exact ⟨fm_r6_1 (by omega) hi (hE f (List.mem_of_getElem? hi)).1 (by omega) ⟨by omega,by omega⟩,by rw [List.length_append,hI];rfl⟩)
  (fun o hI=>fm_x6_1 (by omega))).1
 have key:∀(R:List Form) (i:Nat) (o:List Rat),foldI (fun _ o f=>o++[evV (valV g.Units X) f]) i o R=o++R.map fun f=>evV (valV g.Units X) f:=fun R=>by
  induction R with
  | nil=>intro i o;simp [foldI]
  | cons f R ih=>intro i o;rw [foldI,ih];simp
 rw [key,List.nil_append] at L1
 refine ⟨ou_f1 (fm_f2 K rfl L1),fun q hq=>?_⟩
 obtain ⟨f,hf,rfl⟩:=List.mem_map.1 hq
 exact (hE f hf).2
end
theorem rats_same{n:Nat}{L:List Rat}(hl:L.length≤1000)(hb:∀q∈L,H q≤1000000):run (n+2) 24 [.sl 3 (L.map ratC),.sl 3 (L.map ratC)]=some (.lit (.bool true)):=by
 obtain ⟨_,L1,_⟩:=loopG_R (β:=Unit) (P:= Tryz.prog) (O:=tab (n+2)) (m:=0) (N:=27) (lives:=livesOf 24) (r:=4) (C:=r2w_C4) (M:=L.length) (enc:=fun i _=>r2w_h4 L L i) (exN:=.exit 0) (out:=fun _=>r2w_o4b) (fun _ _=>True) () trivial (by omega) (fun h=>by cases h)
  (fun i _ hi _=>by
   have e1:L[i]?=some L[i]:=List.getElem?_eq_getElem hi
   generalize L[i]=q at e1
   have K:=rat12_c (n:=n) (a:=rawQ q) (b:=rawQ q) (rawL_q (hb q (List.mem_of_getElem? e1)))
   rw [tv_t rfl] at K
   exact ⟨(),r2w_r4_1 (by omega) e1 e1 K rfl ⟨by omega,by omega⟩,trivial⟩)
  (fun _ _=>r2w_x4_2 (by omega))
 exact r2w_f3 rfl L1
end
section
open Go.RowKit
theorem awake17_c:run 14 10 []=some (.lit (.bool true)):=by kernel_rfl
def awG(args:List AV):Option AV:=match args with|[]=>some (.lit (.bool true))|_=>none
theorem con_awake:∀args r,awG args=some r→Con Tryz.prog 10 args r:=fun args r hr=>by
 unfold awG at hr
 split at hr
 ·cases hr
  exact ((tab_ok 15).pure _ _ (tb_10 14)).2 _ _ awake17_c
 ·cases hr
noncomputable def souT(n:Nat):FuncId→Option Orc:=ext (tab (n+12)) 10 (.pure awG)
theorem souT_ok(n:Nat):OrcOk Tryz.prog (souT n):=(tab_ok (n+12)).extP (by kernel_rfl) con_awake
noncomputable def sou(n:Nat)(args:List AV):Option AV:=fnP Tryz.prog (souT n) (livesOf 7) big (fnOf 7) args
theorem sou_con{n:Nat}{args:List AV}{r:AV}(h:sou n args=some r):Con Tryz.prog 7 args r:=
 con_of (souT_ok n) mixed (plain_fn (by kernel_rfl)) (body_some (by kernel_rfl) (plain_fn (by kernel_rfl))) h
theorem sou_aw(n:Nat):souT n 10=some (.pure awG):=by unfold souT ext;rw [if_pos rfl]
theorem sou_l11(n:Nat):souT n 11=some (.pure (run (n+11) 11)):=by unfold souT ext;rw [if_neg (by decide)];exact tb_11 _
theorem sou_l13(n:Nat):souT n 13=some (.pure (run (n+11) 13)):=by unfold souT ext;rw [if_neg (by decide)];exact tb_13 _
theorem sou_l15(n:Nat):souT n 15=some (.pure (run (n+11) 15)):=by unfold souT ext;rw [if_neg (by decide)];exact tb_15 _
theorem sou_l17(n:Nat):souT n 17=some (.pure (run (n+11) 17)):=by unfold souT ext;rw [if_neg (by decide)];exact tb_17 _
theorem sou_l19(n:Nat):souT n 19=some (.pure (run (n+11) 19)):=by unfold souT ext;rw [if_neg (by decide)];exact tb_19 _
theorem sou_l21(n:Nat):souT n 21=some (.pure (run (n+11) 21)):=by unfold souT ext;rw [if_neg (by decide)];exact tb_21 _
theorem sou_l22(n:Nat):souT n 22=some (.pure (run (n+11) 22)):=by unfold souT ext;rw [if_neg (by decide)];exact tb_22 _
theorem sou_l23(n:Nat):souT n 23=some (.pure (run (n+11) 23)):=by unfold souT ext;rw [if_neg (by decide)];exact tb_23 _
theorem sou_l24(n:Nat):souT n 24=some (.pure (run (n+11) 24)):=by unfold souT ext;rw [if_neg (by decide)];exact tb_24 _
noncomputable def sou_C4:Code:=(loopsOf (bodyOf Tryz.f7)).getD 0 .skip
noncomputable def sou_C11:Code:=(loopsOf (bodyOf Tryz.f7)).getD 1 .skip
def sou_h4(a0:TGraphR)(a1:List Raw)(i_4:Nat):St:=
 ⟨[(1,.sl 3 (a1.map rawC)),(2,.ptr 0 0),(5,.lit (.int .i64 (i_4:Int)))],
  [(0,some (.box 24 [.lit (.int .i64 (a0.Inputs)),.sl 4 (a0.Units.map formRC),.sl 4 (a0.Outputs.map formRC)] false))],1⟩
def sou_h11(a0:TGraphR)(a1:List Raw)(r4:List Rat)(r5:Int)(gs_11:List TGraph)(i_11:Nat):St:=
 ⟨[(1,.sl 3 (a1.map rawC)),(2,.ptr 0 0),(6,.sl 3 (r4.map ratC)),(7,.lit (.int .i64 r5)),(8,.sl 3 (gs_11.map graphC)),(9,.lit (.int .i64 (i_11:Int)))],
  [(0,some (.box 24 [.lit (.int .i64 (a0.Inputs)),.sl 4 (a0.Units.map formRC),.sl 4 (a0.Outputs.map formRC)] false))],1⟩
def sou_o4a(a0:TGraphR)(a1:List Raw):St:=
 ⟨[(1,.sl 3 (a1.map rawC)),(2,.ptr 0 0),(4,.lit (.bool true))],
  [(0,some (.box 24 [.lit (.int .i64 (a0.Inputs)),.sl 4 (a0.Units.map formRC),.sl 4 (a0.Outputs.map formRC)] false))],1⟩
def sou_o4b(a0:TGraphR)(a1:List Raw):St:=
 ⟨[(1,.sl 3 (a1.map rawC)),(2,.ptr 0 0),(4,.any)],
  [(0,some (.box 24 [.lit (.int .i64 (a0.Inputs)),.sl 4 (a0.Units.map formRC),.sl 4 (a0.Outputs.map formRC)] false))],1⟩
def sou_o11b:St:=
 ⟨[(4,.any)],
  [],0⟩
section
variable {n : Nat} {x3 : Raw} {a1 : List Raw} {i_4 : Nat} {a0 : TGraphR} {gs_11 : List TGraph} {r4 : List Rat} {r21 : Bool} {r5 : Int} {r19 : Int} {r18 : List Rat} {r20 : Bool} {x6 : TGraph} {i_11 : Nat} {r : Bool} {r2 : Bool} {r3 : Bool} {r6 : TGraph} {r7 : TGraph} {r8 : TGraph} {r9 : TGraph}
section
variable(C1:(i_4:Int)<(a1.length:Int))(E2:a1[i_4]?=some x3)
include C1 E2
theorem sou_r4_1(C3:¬2<(x3.l1.length:Int))(C4:¬1<(x3.l2.length:Int))(W5:InI ((i_4:Int)+1)):
  Cont 0 (exec Tryz.prog (souT n) 0 118 (livesOf 7) big sou_C4) (livesOf 7 4) (sou_h4 a0 a1 i_4) (sou_h4 a0 a1 (i_4+1)):=by
 have C1_:i_4<a1.length:=by omega
 obtain ⟨EL2,EG2⟩:=List.getElem?_eq_some_iff.1 E2
 have C3_:¬2<x3.l1.length:=by omega
 have C4_:¬1<x3.l2.length:=by omega
 have W5_:IntKind.i64.wrap ((i_4:Int)+1)=(i_4:Int)+1:=wr64 W5.1 W5.2
 apply Cont_m
 simp+decide [sou_h4,loopsOf, Tryz.f7,sou_C4,C1,C1_,EL2,EG2,E2,C3,C3_,C4,C4_,W5_,sou_aw,awG,sou_l11,sou_l13,sou_l15,sou_l17,sou_l19,sou_l21,sou_l22,sou_l23,sou_l24]
theorem sou_x4_1(C3:2<(x3.l1.length:Int)):
  Leave 0 (exec Tryz.prog (souT n) 0 118 (livesOf 7) big sou_C4) (livesOf 7 (outOf 4)) (sou_h4 a0 a1 i_4) (.ret) (sou_o4a a0 a1):=by
 have C1_:i_4<a1.length:=by omega
 obtain ⟨EL2,EG2⟩:=List.getElem?_eq_some_iff.1 E2
 have C3_:2<x3.l1.length:=by omega
 apply Leave_m
 simp+decide [sou_h4,loopsOf, Tryz.f7,sou_o4a,sou_C4,C1,C1_,EL2,EG2,E2,C3,C3_,sou_aw,awG,sou_l11,sou_l13,sou_l15,sou_l17,sou_l19,sou_l21,sou_l22,sou_l23,sou_l24]
theorem sou_x4_2(C3:¬2<(x3.l1.length:Int))(C4:1<(x3.l2.length:Int)):
  Leave 0 (exec Tryz.prog (souT n) 0 118 (livesOf 7) big sou_C4) (livesOf 7 (outOf 4)) (sou_h4 a0 a1 i_4) (.ret) (sou_o4a a0 a1):=by
 have C1_:i_4<a1.length:=by omega
 obtain ⟨EL2,EG2⟩:=List.getElem?_eq_some_iff.1 E2
 have C3_:¬2<x3.l1.length:=by omega
 have C4_:1<x3.l2.length:=by omega
 apply Leave_m
 simp+decide [sou_h4,loopsOf, Tryz.f7,sou_o4a,sou_C4,C1,C1_,EL2,EG2,E2,C3,C3_,C4,C4_,sou_aw,awG,sou_l11,sou_l13,sou_l15,sou_l17,sou_l19,sou_l21,sou_l22,sou_l23,sou_l24]
end
theorem sou_x4_3(C1:¬(i_4:Int)<(a1.length:Int)):
  Leave 0 (exec Tryz.prog (souT n) 0 118 (livesOf 7) big sou_C4) (livesOf 7 (outOf 4)) (sou_h4 a0 a1 i_4) (.exit 0) (sou_o4b a0 a1):=by
 have C1_:¬i_4<a1.length:=by omega
 apply Leave_m
 simp+decide [sou_h4,loopsOf, Tryz.f7,sou_o4b,sou_C4,C1,C1_,sou_aw,awG,sou_l11,sou_l13,sou_l15,sou_l17,sou_l19,sou_l21,sou_l22,sou_l23,sou_l24]
theorem sou_r11_1(C1:(i_11:Int)<(gs_11.length:Int))(E2:gs_11[i_11]?=some x6)(K3:run (n+11) 23 [graphV x6,.sl 3 (a1.map rawC)]=some (.tup [.sl 3 (r18.map ratC),.lit (.int .i64 r19)]))(C4:r5=r19)(K5:run (n+11) 21 [graphV x6]=some (.lit (.bool r20)))(C6:r20=true)(K7:run (n+11) 24 [.sl 3 (r18.map ratC),.sl 3 (r4.map ratC)]=some (.lit (.bool r21)))(C8:r21=true)(C9:¬(a0.Units.length:Int)<(x6.Units.length:Int))(W10:InI ((i_11:Int)+1)):
  Cont 0 (exec Tryz.prog (souT n) 0 118 (livesOf 7) big sou_C11) (livesOf 7 11) (sou_h11 a0 a1 r4 r5 gs_11 i_11) (sou_h11 a0 a1 r4 r5 gs_11 (i_11+1)):=by
 have C1_:i_11<gs_11.length:=by omega
 obtain ⟨EL2,EG2⟩:=List.getElem?_eq_some_iff.1 E2
 simp only [graphV] at K3
 have C4_:(r5==r19)=true:=by rw [C4];simp
 have C4_n:(r5 !=r19)=false:=by rw [C4];simp
 simp only [graphV] at K5
 have C9_:¬a0.Units.length<x6.Units.length:=by omega
 have W10_:IntKind.i64.wrap ((i_11:Int)+1)=(i_11:Int)+1:=wr64 W10.1 W10.2
 apply Cont_m
 simp+decide [sou_h11,loopsOf, Tryz.f7,sou_C11,C1,C1_,EL2,EG2,E2,K3,C4_,C4_n,K5,C6,K7,C8,C9,C9_,W10_,sou_aw,awG,sou_l11,sou_l13,sou_l15,sou_l17,sou_l19,sou_l21,sou_l22,sou_l23,sou_l24]
theorem sou_x11_5(C1:¬(i_11:Int)<(gs_11.length:Int)):
  Leave 0 (exec Tryz.prog (souT n) 0 118 (livesOf 7) big sou_C11) (livesOf 7 (outOf 11)) (sou_h11 a0 a1 r4 r5 gs_11 i_11) (.exit 2) (sou_o11b):=by
 have C1_:¬i_11<gs_11.length:=by omega
 apply Leave_m
 simp+decide [sou_h11,loopsOf, Tryz.f7,sou_o11b,sou_C11,C1,C1_,sou_aw,awG,sou_l11,sou_l13,sou_l15,sou_l17,sou_l19,sou_l21,sou_l22,sou_l23,sou_l24]
section
variable(K1:run (n+11) 11 [graphRV a0]=some (.lit (.bool r)))
include K1
theorem sou_f1(C2:r=false):
  sou n [graphRV a0,.sl 3 (a1.map rawC)]=some (.lit (.bool true)):=by
 simp only [graphRV] at K1
 unfold sou fnP
 simp+decide [Tryz.f7,K1,C2,sou_aw,awG,sou_l11,sou_l13,sou_l15,sou_l17,sou_l19,sou_l21,sou_l22,sou_l23,sou_l24]
section
variable(C2:r=true)(K3:run (n+11) 21 [graphRV a0]=some (.lit (.bool r2)))
include C2 K3
theorem sou_f2(C4:r2=false):
  sou n [graphRV a0,.sl 3 (a1.map rawC)]=some (.lit (.bool true)):=by
 simp only [graphRV] at K1
 simp only [graphRV] at K3
 unfold sou fnP
 simp+decide [Tryz.f7,K1,C2,K3,C4,sou_aw,awG,sou_l11,sou_l13,sou_l15,sou_l17,sou_l19,sou_l21,sou_l22,sou_l23,sou_l24]
theorem sou_f3(C4:r2=true)(C5:¬(a1.length:Int)=a0.Inputs):
  sou n [graphRV a0,.sl 3 (a1.map rawC)]=some (.lit (.bool true)):=by
 simp only [graphRV] at K1
 simp only [graphRV] at K3
 have C5_:((a1.length:Int)==a0.Inputs)=false:=by simpa using C5
 have C5_n:((a1.length:Int) !=a0.Inputs)=true:=by simpa using C5
 unfold sou fnP
 simp+decide [Tryz.f7,K1,C2,K3,C4,C5_,C5_n,sou_aw,awG,sou_l11,sou_l13,sou_l15,sou_l17,sou_l19,sou_l21,sou_l22,sou_l23,sou_l24]
section
variable(C4:r2=true)(C5:(a1.length:Int)=a0.Inputs)(K6:run (n+11) 22 [.sl 3 (a1.map rawC)]=some (.lit (.bool r3)))
include C4 C5 K6
theorem sou_f4(C7:r3=false):
  sou n [graphRV a0,.sl 3 (a1.map rawC)]=some (.lit (.bool true)):=by
 simp only [graphRV] at K1
 simp only [graphRV] at K3
 have C5_:((a1.length:Int)==a0.Inputs)=true:=by rw [C5];simp
 have C5_n:((a1.length:Int) !=a0.Inputs)=false:=by rw [C5];simp
 unfold sou fnP
 simp+decide [Tryz.f7,K1,C2,K3,C4,C5_,C5_n,K6,C7,sou_aw,awG,sou_l11,sou_l13,sou_l15,sou_l17,sou_l19,sou_l21,sou_l22,sou_l23,sou_l24]
theorem sou_f5(C7:r3=true)(L8:loopG Tryz.prog (souT n) 0 118 (livesOf 7) 4 sou_C4 (sou_h4 a0 a1 0)=some (.ret,sou_o4a a0 a1)):
  sou n [graphRV a0,.sl 3 (a1.map rawC)]=some (.lit (.bool true)):=by
 simp only [graphRV] at K1
 simp only [graphRV] at K3
 have C5_:((a1.length:Int)==a0.Inputs)=true:=by rw [C5];simp
 have C5_n:((a1.length:Int) !=a0.Inputs)=false:=by rw [C5];simp
 unfold sou fnP
 simp+decide [Tryz.f7,K1,C2,K3,C4,C5_,C5_n,K6,C7,sou_aw,awG,sou_l11,sou_l13,sou_l15,sou_l17,sou_l19,sou_l21,sou_l22,sou_l23,sou_l24]
 rw [loopX_G (C':=sou_C4) (e:=(sou_h4 a0 a1 0)) ?_ ?_,L8]
 rotate_left
 ·kernel_rfl
 ·simp+decide [sou_h4,K1,C2,K3,C4,C5_,C5_n,K6,C7,sou_aw,awG,sou_l11,sou_l13,sou_l15,sou_l17,sou_l19,sou_l21,sou_l22,sou_l23,sou_l24]
 simp+decide [sou_o4a,K1,C2,K3,C4,C5_,C5_n,K6,C7,sou_aw,awG,sou_l11,sou_l13,sou_l15,sou_l17,sou_l19,sou_l21,sou_l22,sou_l23,sou_l24]
theorem sou_f7(C7:r3=true)(L8:loopG Tryz.prog (souT n) 0 118 (livesOf 7) 4 sou_C4 (sou_h4 a0 a1 0)=some (.exit 0,sou_o4b a0 a1))(K9:run (n+11) 23 [graphRV a0,.sl 3 (a1.map rawC)]=some (.tup [.sl 3 (r4.map ratC),.lit (.int .i64 r5)]))(K10:run (n+11) 13 [graphRV a0]=some (graphV r6))(K11:run (n+11) 17 [graphRV a0]=some (graphV r7))(K12:run (n+11) 19 [graphRV a0]=some (graphV r8))(K13:run (n+11) 15 [graphRV a0]=some (graphV r9))(L14:loopG Tryz.prog (souT n) 0 118 (livesOf 7) 11 sou_C11 (sou_h11 a0 a1 r4 r5 ([r6,r7,r8,r9]) 0)=some (.exit 2,sou_o11b)):
  sou n [graphRV a0,.sl 3 (a1.map rawC)]=some (.lit (.bool true)):=by
 simp only [graphRV] at K1
 simp only [graphRV] at K3
 have C5_:((a1.length:Int)==a0.Inputs)=true:=by rw [C5];simp
 have C5_n:((a1.length:Int) !=a0.Inputs)=false:=by rw [C5];simp
 simp only [graphRV] at K9
 simp only [graphV,graphRV] at K10
 simp only [graphV,graphRV] at K11
 simp only [graphV,graphRV] at K12
 simp only [graphV,graphRV] at K13
 unfold sou fnP
 simp+decide [Tryz.f7,K1,C2,K3,C4,C5_,C5_n,K6,C7,K9,K10,K11,K12,K13,sou_aw,awG,sou_l11,sou_l13,sou_l15,sou_l17,sou_l19,sou_l21,sou_l22,sou_l23,sou_l24]
 rw [loopX_G (C':=sou_C4) (e:=(sou_h4 a0 a1 0)) ?_ ?_,L8]
 rotate_left
 ·kernel_rfl
 ·simp+decide [sou_h4,K1,C2,K3,C4,C5_,C5_n,K6,C7,K9,K10,K11,K12,K13,sou_aw,awG,sou_l11,sou_l13,sou_l15,sou_l17,sou_l19,sou_l21,sou_l22,sou_l23,sou_l24]
 simp+decide [sou_o4b,K1,C2,K3,C4,C5_,C5_n,K6,C7,K9,K10,K11,K12,K13,sou_aw,awG,sou_l11,sou_l13,sou_l15,sou_l17,sou_l19,sou_l21,sou_l22,sou_l23,sou_l24]
 rw [loopX_G (C':=sou_C11) (e:=(sou_h11 a0 a1 r4 r5 ([r6,r7,r8,r9]) 0)) ?_ ?_,L14]
 rotate_left
 ·kernel_rfl
 ·simp+decide [sou_h11,K1,C2,K3,C4,C5_,C5_n,K6,C7,K9,K10,K11,K12,K13,sou_aw,awG,sou_l11,sou_l13,sou_l15,sou_l17,sou_l19,sou_l21,sou_l22,sou_l23,sou_l24]
 simp+decide [sou_o11b,K1,C2,K3,C4,C5_,C5_n,K6,C7,K9,K10,K11,K12,K13,sou_aw,awG,sou_l11,sou_l13,sou_l15,sou_l17,sou_l19,sou_l21,sou_l22,sou_l23,sou_l24]
end
end
end
end
noncomputable def vna_C2:Code:=(loopsOf (bodyOf Tryz.f22)).getD 0 .skip
def vna_h2(a0:List Raw)(i_2:Nat):St:=
 ⟨[(0,.sl 3 (a0.map rawC)),(3,.lit (.int .i64 (i_2:Int)))],
  [],0⟩
def vna_o2a:St:=
 ⟨[(2,.lit (.bool false))],
  [],0⟩
def vna_o2b:St:=
 ⟨[(2,.any)],
  [],0⟩
section
variable {n : Nat} {i_2 : Nat} {a0 : List Raw} {x3 : Raw}
theorem vna_r2_1(C1:(i_2:Int)<(a0.length:Int))(E2:a0[i_2]?=some x3)(B3a:RawB x3)(C4:RatV x3.s x3.l1 x3.l2)(W5:InI ((i_2:Int)+1)):
  Cont 0 (exec Tryz.prog (tab n) 0 16 (livesOf 22) big vna_C2) (livesOf 22 2) (vna_h2 a0 i_2) (vna_h2 a0 (i_2+1)):=by
 have C1_:i_2<a0.length:=by omega
 obtain ⟨EL2,EG2⟩:=List.getElem?_eq_some_iff.1 E2
 have K3:=rr_valid B3a
 have W5_:IntKind.i64.wrap ((i_2:Int)+1)=(i_2:Int)+1:=wr64 W5.1 W5.2
 apply Cont_m
 simp+decide [vna_h2,loopsOf, Tryz.f22,vna_C2,C1,C1_,EL2,EG2,E2,K3,C4,W5_]
theorem vna_x2_1(C1:(i_2:Int)<(a0.length:Int))(E2:a0[i_2]?=some x3)(B3a:RawB x3)(C4:¬(RatV x3.s x3.l1 x3.l2)):
  Leave 0 (exec Tryz.prog (tab n) 0 16 (livesOf 22) big vna_C2) (livesOf 22 (outOf 2)) (vna_h2 a0 i_2) (.ret) (vna_o2a):=by
 have C1_:i_2<a0.length:=by omega
 obtain ⟨EL2,EG2⟩:=List.getElem?_eq_some_iff.1 E2
 have K3:=rr_valid B3a
 apply Leave_m
 simp+decide [vna_h2,loopsOf, Tryz.f22,vna_o2a,vna_C2,C1,C1_,EL2,EG2,E2,K3,C4]
theorem vna_x2_2(C1:¬(i_2:Int)<(a0.length:Int)):
  Leave 0 (exec Tryz.prog (tab n) 0 16 (livesOf 22) big vna_C2) (livesOf 22 (outOf 2)) (vna_h2 a0 i_2) (.exit 0) (vna_o2b):=by
 have C1_:¬i_2<a0.length:=by omega
 apply Leave_m
 simp+decide [vna_h2,loopsOf, Tryz.f22,vna_o2b,vna_C2,C1,C1_]
theorem vna_f1(L1:loopG Tryz.prog (tab n) 0 16 (livesOf 22) 2 vna_C2 (vna_h2 a0 0)=some (.ret,vna_o2a)):
  run n 22 [.sl 3 (a0.map rawC)]=some (.lit (.bool false)):=by
 unfold run fnP
 simp+decide [Tryz.f22]
 rw [loopX_G (C':=vna_C2) (e:=(vna_h2 a0 0)) ?_ ?_,L1]
 rotate_left
 ·kernel_rfl
 ·simp+decide [vna_h2]
 simp+decide [vna_o2a]
theorem vna_f2(L1:loopG Tryz.prog (tab n) 0 16 (livesOf 22) 2 vna_C2 (vna_h2 a0 0)=some (.exit 0,vna_o2b)):
  run n 22 [.sl 3 (a0.map rawC)]=some (.lit (.bool true)):=by
 unfold run fnP
 simp+decide [Tryz.f22]
 rw [loopX_G (C':=vna_C2) (e:=(vna_h2 a0 0)) ?_ ?_,L1]
 rotate_left
 ·kernel_rfl
 ·simp+decide [vna_h2]
 simp+decide [vna_o2b]
end
end
section
open Go.RowKit
attribute [local irreducible] run runL loopG exec sou
theorem validA7_c{n:Nat}{L:List Raw}(hl:L.length≤1000)(hB:∀r∈L,RawB r):∃b:Bool,run n 22 [.sl 3 (L.map rawC)]=some (.lit (.bool b))∧(b=true→∀r∈L,Cn r):=by
 obtain ⟨ex,t,h1,h2⟩:=loopG_Q (β:=Unit) (P:= Tryz.prog) (O:=tab n) (m:=0) (N:=16) (lives:=livesOf 22) (r:=2) (C:=vna_C2) (M:=L.length) (enc:=fun k _=>vna_h2 L k) (fun k _=>∀j r,j<k→L[j]?=some r→Cn r) (fun ex t=>(ex=.exit 0∧t=vna_o2b∧∀r∈L,Cn r)∨(ex=.ret∧t=vna_o2a)) () (fun j t hj=>by omega) (by omega)
  (fun k _ hk hI=>by
   have e1:L[k]?=some L[k]:=List.getElem?_eq_getElem hk
   generalize L[k]=r at e1
   have hb:=hB r (List.mem_of_getElem? e1)
   by_cases c:Cn r
   ·refine .inl ⟨(),vna_r2_1 (by omega) e1 hb c ⟨by omega,by omega⟩,fun j f hj hf=>?_⟩
    by_cases e:j=k
    ·rw [e,e1] at hf
     cases hf
     exact c
    ·exact hI j f (by omega) hf
   ·exact .inr ⟨_,_,by simp,vna_x2_1 (by omega) e1 hb c,.inr ⟨rfl,rfl⟩⟩)
  (fun _ hI=>⟨_,_,by simp,vna_x2_2 (by omega),.inl ⟨rfl,rfl,fun f hf=>by
   obtain ⟨j,hj⟩:=List.mem_iff_getElem?.1 hf
   exact hI j f (List.getElem?_eq_some_iff.1 hj).1 hj⟩⟩)
 rcases h2 with ⟨rfl,rfl,h3⟩|⟨rfl,rfl⟩
 ·exact ⟨true,vna_f2 h1,fun _=>h3⟩
 ·exact ⟨false,vna_f1 h1,fun h=>by cases h⟩
theorem canX{L:List Raw}(h:∀r∈L,Cn r):L.map rawC=(L.map Raw.q).map ratC:=by
 rw [List.map_map]
 apply List.map_congr_left
 intro r hr
 have e:=(h r hr).raw
 show rawC r=ratC r.q
 simp only [rawC,ratC]
 rw [←e]
structure Good7 (s:TGraph) (X:List Rat) (x:TGraph):Prop where
 sg:SG x
 ok:OkGr x
 i:x.Inputs=s.Inputs
 o:outV x X=outV s X
 u:x.Units.length≤s.Units.length
theorem good7{s:TGraph}{X:List Rat}(h:SG s)(ok:OkGr s)(hX:(X.length:Int)=s.Inputs):∀x∈[coP s,duP s,deP s,simP s],Good7 s X x:=fun x hx=>by
 have i1:=ok.i0
 have o1:=ok.o0
 simp only [List.mem_cons,List.mem_nil_iff,or_false] at hx
 rcases hx with rfl|rfl|rfl|rfl
 ·obtain ⟨a,b,c⟩:=coP_sg h
  exact ⟨a,a.ok (by rw [c];exact i1) (by unfold coP;rw [cnL_olen];omega),c,outV_coP h hX,b⟩
 ·obtain ⟨a,b,c⟩:=duP_sg h
  exact ⟨a,a.ok (by rw [c];exact i1) (by unfold duP;rw [duL_olen];omega),c,outV_duP h hX,b⟩
 ·obtain ⟨a,b,c⟩:=deP_sg h
  exact ⟨a,a.ok (by rw [c];exact i1) (by unfold deP;rw [deR_olen];omega),c,outV_deP h hX,b⟩
 ·obtain ⟨d,b,c⟩:=simP_done h
  exact ⟨d.sg,d.sg.ok (by rw [c];exact i1) (by unfold simP;rw [simL_olen];omega),c,outV_simP h hX,b⟩
theorem sou_true{n:Nat}{g:TGraphR}{xs:List Raw}(hl:Lim7 g)(hx:∀r∈xs,RawB r):sou n [graphRV g,.sl 3 (xs.map rawC)]=some (.lit (.bool true)):=by
 obtain ⟨r,K,h⟩:=fair_c (n:=n+10) (g:=g)
 cases r with
 | false=>exact sou_f1 K rfl
 | true=>
 have hf:=h rfl
 have u8:=hf.u
 have i8:=hf.i
 have KV:=validGR_c7 (n:=n+9) (hf.bd hl)
 by_cases c:OkGrR7 g
 ·rw [tv_t c] at KV
  by_cases c2:(xs.length:Int)=g.Inputs
  ·obtain ⟨b,K6,hb⟩:=validA7_c (n:=n+11) (L:=xs) (by omega) hx
   cases b with
   | false=>exact sou_f4 K rfl KV rfl c2 K6 rfl
   | true=>
   have hC:=hb rfl
   obtain ⟨ex,t,L8,h2⟩:=loopG_Q (β:=Unit) (P:= Tryz.prog) (O:=souT n) (m:=0) (N:=118) (lives:=livesOf 7) (r:=4) (C:=sou_C4) (M:=xs.length) (enc:=fun k _=>sou_h4 g xs k) (fun k _=>∀j r,j<k→xs[j]?=some r→Two1 r) (fun ex t=>(ex=.exit 0∧t=sou_o4b g xs∧∀r∈xs,Two1 r)∨(ex=.ret∧t=sou_o4a g xs)) () (fun j t hj=>by omega) (by omega)
    (fun k _ hk hI=>by
     have e1:xs[k]?=some xs[k]:=List.getElem?_eq_getElem hk
     generalize xs[k]=r at e1
     by_cases d1:2<(r.l1.length:Int)
     ·exact .inr ⟨_,_,by simp,sou_x4_1 (by omega) e1 d1,.inr ⟨rfl,rfl⟩⟩
     by_cases d2:1<(r.l2.length:Int)
     ·exact .inr ⟨_,_,by simp,sou_x4_2 (by omega) e1 d1 d2,.inr ⟨rfl,rfl⟩⟩
     refine .inl ⟨(),sou_r4_1 (by omega) e1 d1 d2 ⟨by omega,by omega⟩,fun j f hj hf=>?_⟩
     by_cases e:j=k
     ·rw [e,e1] at hf
      cases hf
      exact ⟨by omega,by omega⟩
     ·exact hI j f (by omega) hf)
    (fun _ hI=>⟨_,_,by simp,sou_x4_3 (by omega),.inl ⟨rfl,rfl,fun f hf=>by
     obtain ⟨j,hj⟩:=List.mem_iff_getElem?.1 hf
     exact hI j f (List.getElem?_eq_some_iff.1 hj).1 hj⟩⟩)
   rcases h2 with ⟨rfl,rfl,hT⟩|⟨rfl,rfl⟩
   ·obtain ⟨e,ok,sg⟩:=fair_sg hf hl c
    have es:seeG g=unG7 g:=by unfold seeG;rw [if_pos (tv_t c)]
    have ex:=canX hC
    have hXl:((xs.map Raw.q).length:Int)=(unG7 g).Inputs:=by rw [List.length_map];exact c2
    have hXb:∀q∈xs.map Raw.q,H q≤2:=fun q hq=>by
     obtain ⟨r,h0,rfl⟩:=List.mem_map.1 hq
     exact (hC r h0).HB (by omega) (hT r h0).1 (by have:=(hT r h0).2;omega)
    have K9:=(fouts7_c (n:=n+6) sg ok hXl hXb).1
    rw [←e,←ex] at K9
    have K10:=(conR_c (n:=n+4) hf hl).1
    have K11:=(dupR_c (n:=n+2) hf hl).1
    have K12:=(deaR_c (n:=n+4) hf hl).1
    have K13:=(simR_c (n:=n+1) hf hl).1
    rw [es] at K10 K11 K12 K13
    have gd:=good7 sg ok hXl
    have lu:(unG7 g).Units.length=g.Units.length:=List.length_map _
    have lo:([coP (unG7 g),duP (unG7 g),deP (unG7 g),simP (unG7 g)]:List TGraph).length=4:=rfl
    refine sou_f7 K rfl KV rfl c2 K6 rfl L8 K9 K10 K11 K12 K13 ?_
    generalize [coP (unG7 g),duP (unG7 g),deP (unG7 g),simP (unG7 g)]=gs at gd lo ⊢
    obtain ⟨_,L1,_⟩:=loopG_R (β:=Unit) (P:= Tryz.prog) (O:=souT n) (m:=0) (N:=118) (lives:=livesOf 7) (r:=11) (C:=sou_C11) (M:=gs.length) (enc:=fun i _=>sou_h11 g xs (outV (unG7 g) (xs.map Raw.q)) 0 gs i) (exN:=.exit 2) (out:=fun _=>sou_o11b) (fun _ _=>True) () trivial (by omega) (fun h=>by cases h)
     (fun i _ hi _=>by
      have e1:gs[i]?=some gs[i]:=List.getElem?_eq_getElem hi
      generalize gs[i]=x at e1
      obtain ⟨g1,g2,g3,g4,g5⟩:=gd x (List.mem_of_getElem? e1)
      obtain ⟨K3,hH⟩:=fouts7_c (n:=n+6) (X:=xs.map Raw.q) g1 g2 (by rw [g3];exact hXl) hXb
      rw [←ex,g4] at K3
      rw [g4] at hH
      have K5:=validG_c (n:=n+9) g1.bd
      rw [tv_t g2] at K5
      have ho:(outV (unG7 g) (xs.map Raw.q)).length≤8:=by
       show ((unG7 g).Outputs.map _).length≤8
       rw [List.length_map];exact sg.o1
      exact ⟨(),sou_r11_1 (by omega) e1 K3 rfl K5 rfl (rats_same (n:=n+9) (by omega) hH) rfl (by omega) ⟨by omega,by omega⟩,trivial⟩)
     (fun _ _=>sou_x11_5 (by omega))
    exact L1
   ·exact sou_f5 K rfl KV rfl c2 K6 rfl L8
  ·exact sou_f3 K rfl KV rfl c2
 ·rw [tv_f c] at KV
  exact sou_f2 K rfl KV rfl
end
section
open Go.ChangeShapes Go.WideShapes Go.RowKit Go.Deep
theorem sou_use(w:World){v0 v1:Value}{g:TGraphR}{xs:List Raw}{N M:Nat}(r0:RepT w okT (.agg (graphRC g)) v0)(r1:RepT w okT (.sl 3 (xs.map rawC)) v1)(k0:okO_Graph N g)(k1:okO_LRat M xs)(hM:M≤1048576)(hG:Glob w okT):
  Calls Tryz.prog 7 #[v0,v1] w (RetB true w):=
 (sou_con (sou_true (n:=0) (okG_lim7 k0) (fun r hr=>⟨(k1.2 r hr).1.1,(k1.2 r hr).2.1,by have:=(k1.2 r hr).1.2;omega,by have:=(k1.2 r hr).2.2;omega⟩)) w okT _ hG (rvs_cons r0 (rvs_cons r1 rvs_nil))).mono fun _ _ h=>true_end h
end
end Go.Proofs.YtefdjbknmfeooaaGreatDoor
