import Derived.Test.YtdaonnnlgfhlaaaGreatDoorGC16
import Derived.Test.YtdaonnnlgfhlaaaGreatDoorGC17
set_option linter.all false
set_option maxHeartbeats 6400000
set_option maxRecDepth 100000
namespace Go.Proofs.YtdaonnnlgfhlaaaGreatDoor
section
open Go.RowKit
section
variable {n : Nat} {a0 : Raw}
theorem smr_f1(C1:(a0.l1.length:Int)≤2)(C2:(a0.l2.length:Int)≤2)(B3a:RawB a0):
  run n 33 [.agg [.lit (.bool a0.s),natA a0.l1,natA a0.l2]]=some (.lit (.bool (decide (RatV a0.s a0.l1 a0.l2)))):=by
 have C1_:a0.l1.length≤2:=by omega
 have C2_:a0.l2.length≤2:=by omega
 have K3:=rr_valid B3a
 unfold run fnP
 simp+decide [Tryz.f33,C1,C1_,C2,C2_,K3]
theorem smr_f2(C1:(a0.l1.length:Int)≤2)(C2:¬(a0.l2.length:Int)≤2):
  run n 33 [.agg [.lit (.bool a0.s),natA a0.l1,natA a0.l2]]=some (.lit (.bool false)):=by
 have C1_:a0.l1.length≤2:=by omega
 have C2_:¬a0.l2.length≤2:=by omega
 unfold run fnP
 simp+decide [Tryz.f33,C1,C1_,C2,C2_]
theorem smr_f3(C1:¬(a0.l1.length:Int)≤2):
  run n 33 [.agg [.lit (.bool a0.s),natA a0.l1,natA a0.l2]]=some (.lit (.bool false)):=by
 have C1_:¬a0.l1.length≤2:=by omega
 unfold run fnP
 simp+decide [Tryz.f33,C1,C1_]
end
noncomputable def smf_C4:Code:=(loopsOf (bodyOf Tryz.f9)).getD 0 .skip
def smf_h4(a0:FormR)(i_4:Nat):St:=
 ⟨[(1,.ptr 0 0),(3,.lit (.int .i64 (i_4:Int)))],
  [(0,some (.box 28 [.sl 4 (a0.1.map termRC),.lit (.bool a0.2.s),natA a0.2.l1,natA a0.2.l2] false))],1⟩
def smf_o4a:St:=
 ⟨[(2,.lit (.bool false))],
  [],0⟩
def smf_o4b:St:=
 ⟨[(2,.any)],
  [],0⟩
section
variable {a0 : FormR} {r7 : Raw} {v3 : Int} {r8 : Bool} {n : Nat} {i_4 : Nat} {r : Bool} {r2 : Bool}
section
variable(C1:(i_4:Int)<(a0.1.length:Int))(E2:a0.1[i_4]?=some (v3,r7))(K3:run n 33 [.agg [.lit (.bool r7.s),natA r7.l1,natA r7.l2]]=some (.lit (.bool r8)))
include C1 E2 K3
theorem smf_r4_1(C4:r8=true)(W5:InI ((i_4:Int)+1)):
  Cont 0 (exec Tryz.prog (tab (n+1)) 0 34 (livesOf 9) big smf_C4) (livesOf 9 4) (smf_h4 a0 i_4) (smf_h4 a0 (i_4+1)):=by
 have C1_:i_4<a0.1.length:=by omega
 obtain ⟨EL2,EG2⟩:=List.getElem?_eq_some_iff.1 E2
 have W5_:IntKind.i64.wrap ((i_4:Int)+1)=(i_4:Int)+1:=wr64 W5.1 W5.2
 unfold Cont
 simp+decide [smf_h4,loopsOf, Tryz.f9,smf_C4,C1,C1_,EL2,EG2,E2,K3,C4,W5_]
theorem smf_x4_1(C4:r8=false):
  Leave 0 (exec Tryz.prog (tab (n+1)) 0 34 (livesOf 9) big smf_C4) (livesOf 9 (outOf 4)) (smf_h4 a0 i_4) (.ret) (smf_o4a):=by
 have C1_:i_4<a0.1.length:=by omega
 obtain ⟨EL2,EG2⟩:=List.getElem?_eq_some_iff.1 E2
 unfold Leave
 simp+decide [smf_h4,loopsOf, Tryz.f9,smf_o4a,smf_C4,C1,C1_,EL2,EG2,E2,K3,C4]
end
theorem smf_x4_2(C1:¬(i_4:Int)<(a0.1.length:Int)):
  Leave 0 (exec Tryz.prog (tab (n+1)) 0 34 (livesOf 9) big smf_C4) (livesOf 9 (outOf 4)) (smf_h4 a0 i_4) (.exit 0) (smf_o4b):=by
 have C1_:¬i_4<a0.1.length:=by omega
 unfold Leave
 simp+decide [smf_h4,loopsOf, Tryz.f9,smf_o4b,smf_C4,C1,C1_]
theorem smf_f1(C1:8<(a0.1.length:Int)):
  run (n+1) 9 [.agg [.sl 4 (a0.1.map termRC),.lit (.bool a0.2.s),natA a0.2.l1,natA a0.2.l2]]=some (.lit (.bool false)):=by
 have C1_:8<a0.1.length:=by omega
 unfold run fnP
 simp+decide [Tryz.f9,C1,C1_]
section
variable(C1:¬8<(a0.1.length:Int))(K2:run n 33 [.agg [.lit (.bool a0.2.s),natA a0.2.l1,natA a0.2.l2]]=some (.lit (.bool r)))
include C1 K2
theorem smf_f2(C3:r=false):
  run (n+1) 9 [.agg [.sl 4 (a0.1.map termRC),.lit (.bool a0.2.s),natA a0.2.l1,natA a0.2.l2]]=some (.lit (.bool false)):=by
 have C1_:¬8<a0.1.length:=by omega
 unfold run fnP
 simp+decide [Tryz.f9,C1,C1_,K2,C3]
section
variable(C3:r=true)(K4:run n 21 [.agg [.sl 4 (a0.1.map termRC),.lit (.bool a0.2.s),natA a0.2.l1,natA a0.2.l2],.lit (.int .i64 1048576)]=some (.lit (.bool r2)))
include C3 K4
theorem smf_f3(C5:r2=false):
  run (n+1) 9 [.agg [.sl 4 (a0.1.map termRC),.lit (.bool a0.2.s),natA a0.2.l1,natA a0.2.l2]]=some (.lit (.bool false)):=by
 have C1_:¬8<a0.1.length:=by omega
 unfold run fnP
 simp+decide [Tryz.f9,C1,C1_,K2,C3,K4,C5]
theorem smf_f4(C5:r2=true)(L6:loopG Tryz.prog (tab (n+1)) 0 34 (livesOf 9) 4 smf_C4 (smf_h4 a0 0)=some (.ret,smf_o4a)):
  run (n+1) 9 [.agg [.sl 4 (a0.1.map termRC),.lit (.bool a0.2.s),natA a0.2.l1,natA a0.2.l2]]=some (.lit (.bool false)):=by
 have C1_:¬8<a0.1.length:=by omega
 unfold run fnP
 simp+decide [Tryz.f9,C1,C1_,K2,C3,K4,C5]
 rw [loopX_G (C':=smf_C4) (e:=(smf_h4 a0 0)) ?_ ?_,L6]
 rotate_left
 ·kernel_rfl
 ·simp+decide [smf_h4,C1,C1_,K2,C3,K4,C5]
 simp+decide [smf_o4a,C1,C1_,K2,C3,K4,C5]
theorem smf_f5(C5:r2=true)(L6:loopG Tryz.prog (tab (n+1)) 0 34 (livesOf 9) 4 smf_C4 (smf_h4 a0 0)=some (.exit 0,smf_o4b)):
  run (n+1) 9 [.agg [.sl 4 (a0.1.map termRC),.lit (.bool a0.2.s),natA a0.2.l1,natA a0.2.l2]]=some (.lit (.bool true)):=by
 have C1_:¬8<a0.1.length:=by omega
 unfold run fnP
 simp+decide [Tryz.f9,C1,C1_,K2,C3,K4,C5]
 rw [loopX_G (C':=smf_C4) (e:=(smf_h4 a0 0)) ?_ ?_,L6]
 rotate_left
 ·kernel_rfl
 ·simp+decide [smf_h4,C1,C1_,K2,C3,K4,C5]
 simp+decide [smf_o4b,C1,C1_,K2,C3,K4,C5]
end
end
end
noncomputable def sms_C4:Code:=(loopsOf (bodyOf Tryz.f43)).getD 0 .skip
def sms_h4(a0:List FormR)(i_4:Nat):St:=
 ⟨[(0,.sl 4 (a0.map formRC)),(5,.lit (.int .i64 (i_4:Int)))],
  [],0⟩
def sms_o4a:St:=
 ⟨[(4,.lit (.bool false))],
  [],0⟩
def sms_o4b:St:=
 ⟨[(4,.any)],
  [],0⟩
section
variable{a0:List FormR}{F3:List (Int × Raw)}{r5:Raw}{r6:Bool}{n:Nat}{i_4:Nat}{a1:Int}
section
variable(C1:(i_4:Int)<(a0.length:Int))(E2:a0[i_4]?=some (F3,r5))(K3:run (n+1) 9 [.agg [.sl 4 (F3.map termRC),.lit (.bool r5.s),natA r5.l1,natA r5.l2]]=some (.lit (.bool r6)))
include C1 E2 K3
theorem sms_r4_1(C4:r6=true)(W5:InI ((i_4:Int)+1)):
  Cont 0 (exec Tryz.prog (tab (n+2)) 0 22 (livesOf 43) big sms_C4) (livesOf 43 4) (sms_h4 a0 i_4) (sms_h4 a0 (i_4+1)):=by
 have C1_:i_4<a0.length:=by omega
 obtain ⟨EL2,EG2⟩:=List.getElem?_eq_some_iff.1 E2
 have W5_:IntKind.i64.wrap ((i_4:Int)+1)=(i_4:Int)+1:=wr64 W5.1 W5.2
 unfold Cont
 simp+decide [sms_h4,loopsOf, Tryz.f43,sms_C4,C1,C1_,EL2,EG2,E2,K3,C4,W5_]
theorem sms_x4_1(C4:r6=false):
  Leave 0 (exec Tryz.prog (tab (n+2)) 0 22 (livesOf 43) big sms_C4) (livesOf 43 (outOf 4)) (sms_h4 a0 i_4) (.ret) (sms_o4a):=by
 have C1_:i_4<a0.length:=by omega
 obtain ⟨EL2,EG2⟩:=List.getElem?_eq_some_iff.1 E2
 unfold Leave
 simp+decide [sms_h4,loopsOf, Tryz.f43,sms_o4a,sms_C4,C1,C1_,EL2,EG2,E2,K3,C4]
end
theorem sms_x4_2(C1:¬(i_4:Int)<(a0.length:Int)):
  Leave 0 (exec Tryz.prog (tab (n+2)) 0 22 (livesOf 43) big sms_C4) (livesOf 43 (outOf 4)) (sms_h4 a0 i_4) (.exit 0) (sms_o4b):=by
 have C1_:¬i_4<a0.length:=by omega
 unfold Leave
 simp+decide [sms_h4,loopsOf, Tryz.f43,sms_o4b,sms_C4,C1,C1_]
theorem sms_f1(C1:a1<(a0.length:Int)):
  run (n+2) 43 [.sl 4 (a0.map formRC),.lit (.int .i64 a1)]=some (.lit (.bool false)):=by
 unfold run fnP
 simp+decide [Tryz.f43,C1]
theorem sms_f2(C1:¬a1<(a0.length:Int))(L2:loopG Tryz.prog (tab (n+2)) 0 22 (livesOf 43) 4 sms_C4 (sms_h4 a0 0)=some (.ret,sms_o4a)):
  run (n+2) 43 [.sl 4 (a0.map formRC),.lit (.int .i64 a1)]=some (.lit (.bool false)):=by
 unfold run fnP
 simp+decide [Tryz.f43,C1]
 rw [loopX_G (C':=sms_C4) (e:=(sms_h4 a0 0)) ?_ ?_,L2]
 rotate_left
 ·kernel_rfl
 ·simp+decide [sms_h4,C1]
 simp+decide [sms_o4a,C1]
theorem sms_f3(C1:¬a1<(a0.length:Int))(L2:loopG Tryz.prog (tab (n+2)) 0 22 (livesOf 43) 4 sms_C4 (sms_h4 a0 0)=some (.exit 0,sms_o4b)):
  run (n+2) 43 [.sl 4 (a0.map formRC),.lit (.int .i64 a1)]=some (.lit (.bool true)):=by
 unfold run fnP
 simp+decide [Tryz.f43,C1]
 rw [loopX_G (C':=sms_C4) (e:=(sms_h4 a0 0)) ?_ ?_,L2]
 rotate_left
 ·kernel_rfl
 ·simp+decide [sms_h4,C1]
 simp+decide [sms_o4b,C1]
end
theorem few3_f1{n:Nat}{a0:List FormR}{r:Bool}(K1:run (n+2) 43 [.sl 4 (a0.map formRC),.lit (.int .i64 7)]=some (.lit (.bool r))):
  run (n+3) 16 [.sl 4 (a0.map formRC)]=some (.lit (.bool r)):=by
 unfold run fnP
 simp+decide [Tryz.f16,K1]
end
section
open Go.RowKit
def Srt(F:List (Int × Rat)):Prop:=F.Pairwise (fun a b=>a.1<b.1)∧∀t∈F,t.2≠0
def LBd(k:Int)(F:List (Int × Rat)):Prop:=∀t∈F,k<t.1
def cof:List (Int × Rat)→Int→Rat
 | [],_=>0
 | t::l,u=>if t.1=u then t.2 else cof l u
theorem cof_nil(u:Int):cof [] u=0:=rfl
theorem cof_hd{t:Int × Rat}{F:List (Int × Rat)}{u:Int}(h:u=t.1):cof (t::F) u=t.2:=by unfold cof;rw [if_pos h.symm]
theorem cof_tl{t:Int × Rat}{F:List (Int × Rat)}{u:Int}(h:u≠t.1):cof (t::F) u=cof F u:=by rw [cof,if_neg fun e=>h e.symm]
theorem Srt.nil:Srt []:=⟨List.Pairwise.nil,fun t ht=>by cases ht⟩
theorem Srt.tail{t:Int × Rat}{F:List (Int × Rat)}(h:Srt (t::F)):Srt F:=⟨(List.pairwise_cons.1 h.1).2,fun u hu=>h.2 u (by simp [hu])⟩
theorem Srt.head{t:Int × Rat}{F:List (Int × Rat)}(h:Srt (t::F)):LBd t.1 F:=fun u hu=>(List.pairwise_cons.1 h.1).1 u hu
theorem Srt.nz{t:Int × Rat}{F:List (Int × Rat)}(h:Srt (t::F)):t.2≠0:=h.2 t (by simp)
theorem cof_low:∀{F:List (Int × Rat)} {u:Int},(∀t∈F,t.1≠u)→cof F u=0
 | [],_,_=>rfl
 | t::F,u,h=>by rw [cof,if_neg (h t (by simp))];exact cof_low fun x hx=>h x (by simp [hx])
theorem LBd.cof{F:List (Int × Rat)}{k u:Int}(h:LBd k F)(hu:u≤k):cof F u=0:=cof_low fun t ht e=>by have:=h t ht;omega
theorem LBd.mono{F:List (Int × Rat)}{k j:Int}(h:LBd k F)(hj:j≤k):LBd j F:=fun t ht=>by have:=h t ht;omega
theorem put_srt{F:List (Int × Rat)}{v:Int}{q:Rat}(h:Srt F)(hl:LBd v F):Srt (put1 v q++F)∧(∀u,cof (put1 v q++F) u=if u=v then q else cof F u)∧∀k,k<v→LBd k (put1 v q++F):=by
 unfold put1
 split
 ·rename_i h0
  rw [List.nil_append]
  refine ⟨h,fun u=>?_,fun k hk=>hl.mono (by omega)⟩
  split
  ·rename_i e;subst e;rw [hl.cof (Int.le_refl _),h0]
  ·rfl
 ·rename_i h0
  refine ⟨⟨List.pairwise_cons.2 ⟨fun x hx=>hl x hx,h.1⟩,fun t ht=>?_⟩,fun u=>?_,fun k hk t ht=>?_⟩
  ·rcases List.mem_cons.1 ht with rfl|ht
   ·exact h0
   ·exact h.2 t ht
  ·show cof ((v,q)::F) u=_
   rw [cof]
   by_cases e:v=u
   ·rw [if_pos e,if_pos e.symm]
   ·rw [if_neg e,if_neg fun e2=>e e2.symm]
  ·rcases List.mem_cons.1 ht with rfl|ht
   ·exact hk
   ·have:=hl t ht;omega
theorem srt_ext:∀{F G:List (Int × Rat)},Srt F→Srt G→(∀u,cof F u=cof G u)→F=G
 | [],[],_,_,_=>rfl
 | [],t::G,_,hg,h=>by
   have:=h t.1
   rw [cof_nil,cof_hd rfl] at this
   exact absurd this.symm hg.nz
 | t::F,[],hf,_,h=>by
   have:=h t.1
   rw [cof_nil,cof_hd rfl] at this
   exact absurd this hf.nz
 | (v,q)::F,(u,p)::G,hf,hg,h=>by
   have e:v=u:=by
    rcases Int.lt_trichotomy v u with h1|h1|h1
    ·have h2:=h v
     rw [cof_hd rfl,cof_tl (by dsimp only;omega),hg.head.cof (by dsimp only;omega)] at h2
     exact absurd h2 hf.nz
    ·exact h1
    ·have h2:=h u
     rw [cof_tl (by dsimp only;omega),hf.head.cof (by dsimp only;omega),cof_hd rfl] at h2
     exact absurd h2.symm hg.nz
   subst e
   have e2:q=p:=by
    have h2:=h v
    rw [cof_hd rfl,cof_hd rfl] at h2
    exact h2
   subst e2
   rw [srt_ext hf.tail hg.tail fun u=>?_]
   by_cases e:u=v
   ·subst e
    rw [hf.head.cof (Int.le_refl _),hg.head.cof (Int.le_refl _)]
   ·have h2:=h u
    rw [cof_tl e,cof_tl e] at h2
    exact h2
theorem plus_done{F:List (Int × Rat)}{v:Int}{c:Rat}(h:LBd v F)(hz:∀t∈F,t.2≠0):plusV true F v c=F:=by
 induction F with
 | nil=>rfl
 | cons t F ih=>
   have h1:=h t (by simp)
   rw [plusV_lt (by omega) (.inl rfl),ih (fun x hx=>h x (by simp [hx])) fun x hx=>hz x (by simp [hx])]
   unfold put1
   rw [if_neg (hz t (by simp))]
   rfl
theorem put_one{t:Int × Rat}{F:List (Int × Rat)}(h:t.2≠0):put1 t.1 t.2++F=t::F:=by unfold put1;rw [if_neg h];rfl
theorem plus_srt{v:Int}{c:Rat}:∀{F:List (Int × Rat)},Srt F→Srt (plusV false F v c)∧(∀u,cof (plusV false F v c) u=cof F u+if u=v then c else 0)∧∀k,k<v→LBd k F→LBd k (plusV false F v c)
 | [],h=>by
   have e:plusV false [] v c=put1 v c++[]:=by rw [List.append_nil];rfl
   rw [e]
   obtain ⟨h1,h2,h3⟩:=put_srt (v:=v) (q:=c) h (fun t ht=>by cases ht)
   refine ⟨h1,fun u=>?_,fun k hk _=>h3 k hk⟩
   rw [h2,cof_nil]
   split <;>grind
 | t::F,h=>by
   have hd:=h.head
   rcases Int.lt_trichotomy t.1 v with h1|h1|h1
   ·obtain ⟨a1,a2,a3⟩:=plus_srt (v:=v) (c:=c) h.tail
    rw [plusV_lt (by omega) (.inr h1)]
    obtain ⟨b1,b2,b3⟩:=put_srt (v:=t.1) (q:=t.2) a1 (a3 _ h1 hd)
    refine ⟨b1,fun u=>?_,fun k hk hl=>b3 k (hl t (by simp))⟩
    rw [b2,a2]
    by_cases e:u=t.1
    ·rw [if_pos e,cof_hd e,if_neg (by omega)];grind
    ·rw [if_neg e,cof_tl e]
   ·rw [plusV_eq h1,plus_done (by rw [←h1];exact hd) h.tail.2]
    obtain ⟨b1,b2,b3⟩:=put_srt (v:=t.1) (q:=t.2+c) h.tail hd
    refine ⟨b1,fun u=>?_,fun k hk hl=>b3 k (hl t (by simp))⟩
    rw [b2]
    by_cases e:u=t.1
    ·have e5:u=v:=by omega
     rw [if_pos e,if_pos e5,cof_hd e]
    ·have e5:¬u=v:=by omega
     rw [if_neg e,if_neg e5,cof_tl e];grind
   ·rw [plusV_gt h1,plus_done (hd.mono (by omega)) h.tail.2,put_one h.nz]
    obtain ⟨b1,b2,b3⟩:=put_srt (v:=v) (q:=c) h (fun x hx=>by
     rcases List.mem_cons.1 hx with rfl|hx
     ·exact h1
     ·have:=hd x hx;omega)
    refine ⟨b1,fun u=>?_,fun k hk hl=>b3 k hk⟩
    rw [b2]
    by_cases e:u=v
    ·have e3:cof (t::F) u=0:=cof_low fun x hx=>by
      rcases List.mem_cons.1 hx with rfl|hx
      ·omega
      ·have:=hd x hx;omega
     rw [if_pos e,if_pos e,e3]
     grind
    ·rw [if_neg e,if_neg e];grind
theorem add_srt:∀{G F:List (Int × Rat)},Srt F→Srt G→Srt (addV F G)∧∀u,cof (addV F G) u=cof F u+cof G u
 | [],F,hf,_=>⟨hf,fun u=>by rw [cof_nil];show cof F u=_;grind⟩
 | t::G,F,hf,hg=>by
   obtain ⟨a1,a2,_⟩:=plus_srt (v:=t.1) (c:=t.2) hf
   obtain ⟨b1,b2⟩:=add_srt a1 hg.tail
   refine ⟨b1,fun u=>?_⟩
   show cof (addV (plusV false F t.1 t.2) G) u=_
   rw [b2,a2]
   by_cases e:u=t.1
   ·rw [if_pos e,cof_hd e,hg.head.cof (by omega)];grind
   ·rw [if_neg e,cof_tl e];grind
theorem merge_srt{c:Rat}:∀(n:Nat) {F G:List (Int × Rat)},F.length+G.length≤n→Srt F→Srt G→Srt (mergeV F G c)∧(∀u,cof (mergeV F G c) u=cof F u+cof G u*c)∧∀k,LBd k F→LBd k G→LBd k (mergeV F G c)
 | n,[],[],_,hf,hg=>by rw [mergeV_nil];exact ⟨hf,fun u=>by rw [cof_nil];grind,fun k h _=>h⟩
 | 0,a::F,G,hn,_,_=>by simp at hn
 | 0,[],b::G,hn,_,_=>by simp at hn
 | n+1,a::F,[],hn,hf,hg=>by
   obtain ⟨a1,a2,a3⟩:=merge_srt (c:=c) n (F:=F) (G:=[]) (by simp at hn ⊢;omega) hf.tail hg
   rw [mergeV_a]
   obtain ⟨b1,b2,b3⟩:=put_srt (v:=a.1) (q:=a.2) a1 (a3 _ hf.head fun t ht=>by cases ht)
   refine ⟨b1,fun u=>?_,fun k h1 _=>b3 k (h1 a (by simp))⟩
   rw [b2,a2]
   by_cases e:u=a.1
   ·rw [if_pos e,cof_hd e,cof_nil];grind
   ·rw [if_neg e,cof_tl e]
 | n+1,[],b::G,hn,hf,hg=>by
   obtain ⟨a1,a2,a3⟩:=merge_srt (c:=c) n (F:=[]) (G:=G) (by simp at hn ⊢;omega) hf hg.tail
   rw [mergeV_b]
   obtain ⟨b1,b2,b3⟩:=put_srt (v:=b.1) (q:=b.2*c) a1 (a3 _ (fun t ht=>by cases ht) hg.head)
   refine ⟨b1,fun u=>?_,fun k _ h1=>b3 k (h1 b (by simp))⟩
   rw [b2,a2]
   by_cases e:u=b.1
   ·rw [if_pos e,cof_hd e,cof_nil];grind
   ·rw [if_neg e,cof_tl e]
 | n+1,a::F,b::G,hn,hf,hg=>by
   simp only [List.length_cons] at hn
   rcases Int.lt_trichotomy a.1 b.1 with h1|h1|h1
   ·obtain ⟨a1,a2,a3⟩:=merge_srt (c:=c) n (F:=F) (G:=b::G) (by simp;omega) hf.tail hg
    rw [mergeV_lt h1]
    obtain ⟨b1,b2,b3⟩:=put_srt (v:=a.1) (q:=a.2) a1 (a3 _ hf.head fun t ht=>by
     rcases List.mem_cons.1 ht with rfl|ht
     ·exact h1
     ·have:=hg.head t ht;omega)
    refine ⟨b1,fun u=>?_,fun k h2 _=>b3 k (h2 a (by simp))⟩
    rw [b2,a2]
    by_cases e:u=a.1
    ·have e3:cof (b::G) u=0:=cof_low fun x hx=>by
      rcases List.mem_cons.1 hx with rfl|hx
      ·omega
      ·have:=hg.head x hx;omega
     have e4:cof (a::F) u=a.2:=cof_hd e
     rw [if_pos e,e3,e4];grind
    ·have e4:cof (a::F) u=cof F u:=cof_tl e
     rw [if_neg e,e4]
   ·obtain ⟨a1,a2,a3⟩:=merge_srt (c:=c) n (F:=F) (G:=G) (by omega) hf.tail hg.tail
    rw [mergeV_eq h1]
    obtain ⟨b1,b2,b3⟩:=put_srt (v:=a.1) (q:=a.2+b.2*c) a1 (a3 _ hf.head (by rw [h1];exact hg.head))
    refine ⟨b1,fun u=>?_,fun k h2 _=>b3 k (h2 a (by simp))⟩
    rw [b2,a2]
    by_cases e:u=a.1
    ·rw [if_pos e,cof_hd e,cof_hd (u:=u) (by omega)]
    ·have e3:cof (b::G) u=cof G u:=cof_tl (by omega)
     have e4:cof (a::F) u=cof F u:=cof_tl e
     rw [if_neg e,e3,e4]
   ·obtain ⟨a1,a2,a3⟩:=merge_srt (c:=c) n (F:=a::F) (G:=G) (by simp;omega) hf hg.tail
    rw [mergeV_gt h1]
    obtain ⟨b1,b2,b3⟩:=put_srt (v:=b.1) (q:=b.2*c) a1 (a3 _ (fun t ht=>by
     rcases List.mem_cons.1 ht with rfl|ht
     ·exact h1
     ·have:=hf.head t ht;omega) hg.head)
    refine ⟨b1,fun u=>?_,fun k _ h2=>b3 k (h2 b (by simp))⟩
    rw [b2,a2]
    by_cases e:u=b.1
    ·have e3:cof (a::F) u=0:=cof_low fun x hx=>by
      rcases List.mem_cons.1 hx with rfl|hx
      ·omega
      ·have:=hf.head x hx;omega
     have e4:cof (b::G) u=b.2:=cof_hd e
     rw [if_pos e,e3,e4];grind
    ·have e4:cof (b::G) u=cof G u:=cof_tl e
     rw [if_neg e,e4]
theorem merge_scl(c:Rat):∀(F:List (Int × Rat)),mergeV [] F c=sclV F c
 | []=>mergeV_nil c
 | t::F=>by rw [mergeV_b,merge_scl c F];simp [sclV]
theorem scl_srt{F:List (Int × Rat)}{c:Rat}(h:Srt F):Srt (sclV F c)∧∀u,cof (sclV F c) u=cof F u*c:=by
 rw [←merge_scl]
 obtain ⟨a1,a2,_⟩:=merge_srt (c:=c) _ (Nat.le_refl _) Srt.nil h
 exact ⟨a1,fun u=>by rw [a2,cof_nil];grind⟩
theorem merge_add{F G:List (Int × Rat)}{c:Rat}(hf:Srt F)(hg:Srt G):mergeV F G c=addV F (sclV G c):=by
 obtain ⟨a1,a2,_⟩:=merge_srt (c:=c) _ (Nat.le_refl _) hf hg
 obtain ⟨b1,b2⟩:=scl_srt (c:=c) hg
 obtain ⟨d1,d2⟩:=add_srt hf b1
 exact srt_ext a1 d1 fun u=>by rw [a2,d2,b2]
theorem scl_one{F:List (Int × Rat)}(h:Srt F):sclV F 1=F:=srt_ext (scl_srt h).1 h fun u=>by rw [(scl_srt h).2];grind
theorem OkFm.srt{f:Form}{vars:Int}(h:OkFm f vars):Srt f.1∧∀t∈f.1,0≤t.1∧t.1<vars:=by
 have key:∀(i:Nat) (hi:i<f.1.length),0≤(f.1[i]).1∧(f.1[i]).1<vars∧(f.1[i]).2≠0∧∀(h0:0<i),(f.1[i-1]'(by omega)).1<(f.1[i]).1:=fun i hi=>by
  obtain ⟨a1,a2,a3,a4⟩:=h i hi (f.1[i]).1 (f.1[i]).2 (List.getElem?_eq_getElem hi)
  exact ⟨a1,a2,a3,fun h0=>a4 _ (f.1[i-1]'(by omega)).2 h0 (List.getElem?_eq_getElem _)⟩
 have ord:∀(j i:Nat) (hj:j<f.1.length) (hij:i<j),(f.1[i]'(by omega)).1<(f.1[j]).1:=fun j=>by
  induction j with
  | zero=>intro i hj hij;omega
  | succ j ih=>
    intro i hj hij
    have h1:=(key (j+1) hj).2.2.2 (by omega)
    have h2:(f.1[j+1-1]'(by omega))=f.1[j]'(by omega):=rfl
    rw [h2] at h1
    by_cases e:i=j
    ·subst e;exact h1
    ·have:=ih i (by omega) (by omega);omega
 refine ⟨⟨List.pairwise_iff_getElem.2 fun i j hi hj hij=>ord j i hj hij,fun t ht=>?_⟩,fun t ht=>?_⟩
 ·obtain ⟨i,hi,rfl⟩:=List.getElem_of_mem ht
  exact (key i hi).2.2.1
 ·obtain ⟨i,hi,rfl⟩:=List.getElem_of_mem ht
  exact ⟨(key i hi).1,(key i hi).2.1⟩
end
section
open Go.RowKit
def evS(X:List Rat):List (Int × Rat)→Rat
 | []=>0
 | t::F=>t.2*X.getD t.1.toNat 0+evS X F
theorem evS_fold(X:List Rat):∀(F:List (Int × Rat)) (s:Rat),F.foldl (fun s t=>s+t.2*X.getD t.1.toNat 0) s=s+evS X F
 | [],s=>by rw [List.foldl_nil,evS];grind
 | t::F,s=>by rw [List.foldl_cons,evS_fold X F,evS];grind
theorem evS_app(X:List Rat):∀(F G:List (Int × Rat)),evS X (F++G)=evS X F+evS X G
 | [],G=>by rw [List.nil_append,evS];grind
 | t::F,G=>by rw [List.cons_append,evS,evS_app X F G,evS];grind
theorem evS_put(X:List Rat)(v:Int)(q:Rat):evS X (put1 v q)=q*X.getD v.toNat 0:=by
 unfold put1
 split
 ·rename_i h;rw [h,evS];grind
 ·rw [evS,evS];grind
theorem evS_plus{X:List Rat}{v:Int}{c:Rat}:∀{F:List (Int × Rat)},Srt F→evS X (plusV false F v c)=evS X F+c*X.getD v.toNat 0
 | [],_=>by
   have e:plusV false [] v c=put1 v c:=rfl
   rw [e,evS_put,evS];grind
 | t::F,h=>by
   have hd:=h.head
   rcases Int.lt_trichotomy t.1 v with h1|h1|h1
   ·rw [plusV_lt (by omega) (.inr h1),evS_app,evS_put,evS_plus h.tail,evS];grind
   ·rw [plusV_eq h1,plus_done (by rw [←h1];exact hd) h.tail.2,evS_app,evS_put,evS,h1];grind
   ·rw [plusV_gt h1,plus_done (hd.mono (by omega)) h.tail.2,evS_app,evS_app,evS_put,evS_put,evS];grind
theorem evS_add{X:List Rat}:∀{G F:List (Int × Rat)},Srt F→Srt G→evS X (addV F G)=evS X F+evS X G
 | [],F,_,_=>by
   have e:addV F []=F:=rfl
   rw [e,evS];grind
 | t::G,F,hf,hg=>by
   have e:addV F (t::G)=addV (plusV false F t.1 t.2) G:=rfl
   rw [e,evS_add (plus_srt hf).1 hg.tail,evS_plus hf,evS];grind
theorem evS_scl(X:List Rat)(c:Rat):∀(F:List (Int × Rat)),evS X (sclV F c)=evS X F*c
 | []=>by
   have e:sclV [] c=[]:=rfl
   rw [e,evS];grind
 | t::F=>by
   have e:sclV (t::F) c=put1 t.1 (t.2*c)++sclV F c:=rfl
   rw [e,evS_app,evS_put,evS_scl X c F,evS];grind
def InR(k:Nat)(F:List (Int × Rat)):Prop:=∀t∈F,0≤t.1∧t.1<(k:Int)
theorem InR.app{k:Nat}{F G:List (Int × Rat)}(h:InR k F)(g:InR k G):InR k (F++G):=fun t ht=>(List.mem_append.1 ht).elim (h t) (g t)
theorem InR.put{k:Nat}{v:Int}{q:Rat}(h:0≤v∧v<(k:Int)):InR k (put1 v q):=fun t ht=>by
 obtain ⟨rfl,_⟩:=put1_mem ht
 exact h
theorem InR.plus{k:Nat}{v:Int}{c:Rat}(hv:0≤v∧v<(k:Int)):∀{d:Bool} {F:List (Int × Rat)},InR k F→InR k (plusV d F v c)
 | d,[],_=>by
   rw [plusV]
   split
   ·exact fun t ht=>by cases ht
   ·exact InR.put hv
 | d,t::F,h=>by
   have ht:0≤t.1∧t.1<(k:Int):=h t (by simp)
   have hF:InR k F:=fun u hu=>h u (by simp [hu])
   rw [plusV]
   split
   ·exact (InR.put ht).app (InR.plus hv hF)
   ·split
    ·exact (InR.put hv).app ((InR.put ht).app (InR.plus hv hF))
    ·exact (InR.put ht).app (InR.plus hv hF)
theorem InR.add{k:Nat}:∀{G F:List (Int × Rat)},InR k F→InR k G→InR k (addV F G)
 | [],F,h,_=>h
 | t::G,F,h,g=>by
   have e:addV F (t::G)=addV (plusV false F t.1 t.2) G:=rfl
   rw [e]
   exact InR.add (InR.plus (g t (by simp)) h) fun u hu=>g u (by simp [hu])
theorem InR.scl{k:Nat}{c:Rat}{F:List (Int × Rat)}(h:InR k F):InR k (sclV F c):=fun t ht=>by
 simp only [sclV,List.mem_flatMap] at ht
 obtain ⟨u,hu,h1⟩:=ht
 obtain ⟨rfl,_⟩:=put1_mem h1
 exact h u hu
theorem evF_in{X:List Rat}:∀{F:List (Int × Rat)} {i:Nat} {s r:Rat},foldE (evF X) i s F=.ok r→InR X.length F
 | [],_,_,_,_=>fun t ht=>by cases ht
 | t::F,i,s,r,h=>by
   rw [foldE] at h
   unfold evF at h
   by_cases h1:t.1<0∨(X.length:Int)≤t.1
   ·rw [if_pos h1] at h;cases h
   ·rw [if_neg h1] at h
    have:=evF_in h
    intro u hu
    rcases List.mem_cons.1 hu with rfl|hu
    ·omega
    ·exact this u hu
theorem evR_in{X:List Rat}{f:Form}(h:InR X.length f.1):evR X f=.tup [ratV (f.2+evS X f.1),.lit (.int .i64 0)]∧foldE (evF X) 0 f.2 f.1=.ok (f.2+evS X f.1):=by
 have e:=evF_ok (X:=X) (F:=f.1) 0 f.2 h
 rw [evS_fold] at e
 refine ⟨?_,e⟩
 unfold evR
 rw [e]
theorem evR_out{X:List Rat}{f:Form}(h:¬InR X.length f.1):evR X f=.tup [ratV 0,.lit (.int .i64 2)]:=by
 unfold evR
 cases hE:foldE (evF X) 0 f.2 f.1 with
 | ok s=>exact absurd (evF_in hE) h
 | error s=>simp
theorem TmB.add{b:Nat}:∀{G F:List (Int × Rat)} {m:Nat},TmB m F→TmB b G→TmB (m+(b+1)*G.length) (addV F G)
 | [],F,m,h,_=>h
 | t::G,F,m,h,g=>by
   have e:addV F (t::G)=addV (plusV false F t.1 t.2) G:=rfl
   rw [e]
   refine (TmB.add (TmB.plus (g t (by simp)).2 h) fun u hu=>g u (by simp [hu])).mono ?_
   rw [List.length_cons,Nat.mul_add]
   omega
theorem addV_len:∀(G F:List (Int × Rat)),(addV F G).length≤F.length+G.length
 | [],F=>by have e:addV F []=F:=rfl;rw [e];simp
 | t::G,F=>by
   have e:addV F (t::G)=addV (plusV false F t.1 t.2) G:=rfl
   have h1:=addV_len G (plusV false F t.1 t.2)
   have h2:=plusV_len false F t.1 t.2
   rw [e,List.length_cons]
   omega
theorem TmB.scl{m b:Nat}{c:Rat}{F:List (Int × Rat)}(h:TmB m F)(hc:H c≤b):TmB (m+b) (sclV F c):=fun t ht=>by
 simp only [sclV,List.mem_flatMap] at ht
 obtain ⟨u,hu,h1⟩:=ht
 obtain ⟨rfl,h2⟩:=put1_mem h1
 have h3:=H_mul u.2 c
 have h4:=(h u hu).2
 exact ⟨h2,by dsimp only;omega⟩
theorem TmB.bd{m:Nat}{f:Form}(h:TmB m f.1)(hl:f.1.length≤100000000)(hk:H f.2≤m):BdF m f:=⟨hl,fun t ht=>(h t ht).2,hk⟩
end
section
open Go.RowKit
def sgQ(q:Rat):Rat:=if 0<q then 1 else if q<0 then -1 else 0
def absR(q:Rat):Rat:=if q<0 then -q else q
theorem absR_pos{q:Rat}(h:q≠0):0<absR q:=by
 unfold absR
 split <;>grind
def normF(f:Form):Form:=match f.1 with
 | []=>([],sgQ f.2)
 | t::_=>(sclV f.1 (1 / absR t.2),f.2*(1 / absR t.2))
theorem div_pos1{c:Rat}(h:0<c):0<1 / c:=by
 rw [Rat.div_def,Rat.one_mul]
 exact Rat.inv_pos.2 h
theorem mul_sg{x c:Rat}(h:0<c):(0<x*c↔0<x)∧(x*c<0↔x<0):=by
 refine ⟨⟨fun hx=>?_,fun hx=>Rat.mul_pos hx h⟩,⟨fun hx=>?_,fun hx=>?_⟩⟩
 ·false_or_by_contra
  have h0:0≤-x:=by grind
  have:=Rat.mul_nonneg h0 (show 0≤c by grind)
  grind
 ·false_or_by_contra
  have h0:0≤x:=by grind
  have:=Rat.mul_nonneg h0 (show 0≤c by grind)
  grind
 ·have:=Rat.mul_pos (show 0 < -x by grind) h
  grind
theorem put_ne{v:Int}{q:Rat}(h:q≠0):put1 v q=[(v,q)]:=by
 unfold put1
 rw [if_neg h]
theorem scl_map{c:Rat}(hc:c≠0):∀{F:List (Int × Rat)},(∀t∈F,t.2≠0)→sclV F c=F.map fun t=>(t.1,t.2*c)
 | [],_=>rfl
 | t::F,h=>by
   have e:sclV (t::F) c=put1 t.1 (t.2*c)++sclV F c:=rfl
   have h1:=h t List.mem_cons_self
   have h2:t.2*c≠0:=fun h0=>by
    rcases Rat.mul_eq_zero.1 h0 with h3|h3
    ·exact h1 h3
    ·exact hc h3
   rw [e,put_ne h2,scl_map hc fun u hu=>h u (List.mem_cons_of_mem _ hu)]
   rfl
theorem norm_in{f:Form}{k:Nat}(h:∀t∈f.1,t.2≠0):InR k (normF f).1↔InR k f.1:=by
 obtain ⟨F,q⟩:=f
 cases F with
 | nil=>exact Iff.rfl
 | cons t F=>
   have hp:=div_pos1 (absR_pos (h t List.mem_cons_self))
   have e:(normF (t::F,q)).1=(t::F).map fun u=>(u.1,u.2*(1 / absR t.2)):=scl_map (fun e=>by rw [e] at hp;exact absurd hp (by decide)) h
   rw [e]
   unfold InR
   constructor
   ·intro h1 u hu
    exact h1 (u.1,u.2*(1 / absR t.2)) (List.mem_map.2 ⟨u,hu,rfl⟩)
   ·intro h1 u hu
    obtain ⟨w,hw,rfl⟩:=List.mem_map.1 hu
    exact h1 w hw
theorem norm_val(X:List Rat)(f:Form)(h:∀t∈f.1,t.2≠0):(0<(normF f).2+evS X (normF f).1↔0<f.2+evS X f.1)∧((normF f).2+evS X (normF f).1<0↔f.2+evS X f.1<0):=by
 obtain ⟨F,q⟩:=f
 cases F with
 | nil=>
   have e:normF (([],q):Form)=([],sgQ q):=rfl
   rw [e]
   show (0<sgQ q+0↔0<q+0)∧(sgQ q+0<0↔q+0<0)
   unfold sgQ
   by_cases h1:0<q
   ·rw [if_pos h1];grind
   ·by_cases h2:q<0
    ·rw [if_neg h1,if_pos h2];grind
    ·rw [if_neg h1,if_neg h2];grind
 | cons t F=>
   have hp:=div_pos1 (absR_pos (h t List.mem_cons_self))
   have e:normF ((t::F,q):Form)=(sclV (t::F) (1 / absR t.2),q*(1 / absR t.2)):=rfl
   rw [e]
   dsimp only
   rw [evS_scl]
   generalize 1 / absR t.2=c at hp
   generalize evS X (t::F)=s
   have e2:q*c+s*c=(q+s)*c:=by grind
   rw [e2]
   exact mul_sg hp
end
section
open Go.RowKit
def valX(X:List Rat)(f:Form):Rat:=f.2+evS X f.1
def colF(l:List Form)(f:Form):List Form:=if (normF f).1=[]∧0≤(normF f).2 then l else if normF f∈l then l else l++[normF f]
def combF(v:Int)(f g:Form):Form:=(addV (sclV f.1 (-cof g.1 v)) (sclV g.1 (cof f.1 v)),f.2*(-cof g.1 v)+g.2*cof f.1 v)
def zeroL(v:Int)(rows:List Form):List Form:=rows.filter fun f=>decide (cof f.1 v=0)
def upL(v:Int)(rows:List Form):List Form:=rows.filter fun f=>decide (0<cof f.1 v)
def downL(v:Int)(rows:List Form):List Form:=rows.filter fun f=>decide (cof f.1 v<0)
def allL(v:Int)(rows:List Form):List Form:=zeroL v rows++(upL v rows).flatMap fun f=>(downL v rows).map (combF v f)
def elimF(v:Int)(rows:List Form):List Form:=(allL v rows).foldl colF []
def SatR(X:List Rat)(l:List Form):Prop:=∀f∈l,InR X.length f.1∧0≤valX X f
theorem sat_col{X:List Rat}{l:List Form}{f:Form}(h:∀t∈f.1,t.2≠0)(hi:InR X.length f.1):SatR X (colF l f)↔SatR X l∧0≤valX X f:=by
 have hn:=(norm_in (k:=X.length) h).2 hi
 obtain ⟨_,hv⟩:=norm_val X f h
 have hv':0≤valX X (normF f)↔0≤valX X f:=by
  unfold valX
  constructor
  ·intro h1
   false_or_by_contra
   have:=hv.2 (by grind)
   grind
  ·intro h1
   false_or_by_contra
   have:=hv.1 (by grind)
   grind
 unfold colF
 split
 ·rename_i hc
  have h0:0≤valX X (normF f):=by
   unfold valX
   rw [hc.1]
   show 0≤(normF f).2+0
   have:=hc.2
   grind
  exact ⟨fun s=>⟨s,hv'.1 h0⟩,fun s=>s.1⟩
 split
 ·rename_i hm
  exact ⟨fun s=>⟨s,hv'.1 (s _ hm).2⟩,fun s=>s.1⟩
 ·constructor
  ·intro s
   exact ⟨fun g hg=>s g (List.mem_append_left _ hg),hv'.1 (s _ (List.mem_append_right _ List.mem_cons_self)).2⟩
  ·rintro ⟨s,h0⟩ g hg
   rcases List.mem_append.1 hg with h1|h1
   ·exact s g h1
   ·rw [List.mem_singleton.1 h1]
    exact ⟨hn,hv'.2 h0⟩
theorem sat_fold{X:List Rat}:∀(R l:List Form),(∀f∈R,(∀t∈f.1,t.2≠0)∧InR X.length f.1)→(SatR X (R.foldl colF l)↔SatR X l∧∀f∈R,0≤valX X f)
 | [],l,_=>⟨fun s=>⟨s,fun f hf=>(by cases hf)⟩,fun s=>s.1⟩
 | f::R,l,h=>by
   have h1:=h f List.mem_cons_self
   rw [List.foldl_cons,sat_fold R _ fun g hg=>h g (List.mem_cons_of_mem _ hg),sat_col h1.1 h1.2]
   constructor
   ·rintro ⟨⟨a,b⟩,c⟩
    exact ⟨a,fun g hg=>by
     rcases List.mem_cons.1 hg with rfl|hg
     ·exact b
     ·exact c g hg⟩
   ·rintro ⟨a,b⟩
    exact ⟨⟨a,b f List.mem_cons_self⟩,fun g hg=>b g (List.mem_cons_of_mem _ hg)⟩
theorem comb_srt{v:Int}{f g:Form}(hf:Srt f.1)(hg:Srt g.1):Srt (combF v f g).1∧∀u,cof (combF v f g).1 u=cof f.1 u*(-cof g.1 v)+cof g.1 u*cof f.1 v:=by
 obtain ⟨a1,a2⟩:=scl_srt (c:=-cof g.1 v) hf
 obtain ⟨b1,b2⟩:=scl_srt (c:=cof f.1 v) hg
 obtain ⟨c1,c2⟩:=add_srt a1 b1
 exact ⟨c1,fun u=>by
  have:=c2 u
  rw [a2,b2] at this
  exact this⟩
theorem comb_val{X:List Rat}{v:Int}{f g:Form}(hf:Srt f.1)(hg:Srt g.1):valX X (combF v f g)=valX X f*(-cof g.1 v)+valX X g*cof f.1 v:=by
 unfold valX combF
 dsimp only
 rw [evS_add (scl_srt hf).1 (scl_srt hg).1,evS_scl,evS_scl]
 grind
theorem comb_in{k:Nat}{v:Int}{f g:Form}(hf:InR k f.1)(hg:InR k g.1):InR k (combF v f g).1:=InR.add hf.scl hg.scl
theorem sat_elim{X:List Rat}{v:Int}{rows:List Form}(h:∀f∈rows,Srt f.1∧InR X.length f.1):
  SatR X (elimF v rows)↔(∀f∈rows,cof f.1 v=0→0≤valX X f)∧∀f∈rows,∀g∈rows,0<cof f.1 v→cof g.1 v<0→0≤valX X f*(-cof g.1 v)+valX X g*cof f.1 v:=by
 unfold elimF
 rw [sat_fold]
 ·constructor
  ·rintro ⟨_,a⟩
   refine ⟨fun f hf h0=>a f (List.mem_append_left _ (List.mem_filter.2 ⟨hf,decide_eq_true h0⟩)),fun f hf g hg h1 h2=>?_⟩
   rw [←comb_val (h f hf).1 (h g hg).1]
   exact a _ (List.mem_append_right _ (List.mem_flatMap.2 ⟨f,List.mem_filter.2 ⟨hf,decide_eq_true h1⟩,List.mem_map.2 ⟨g,List.mem_filter.2 ⟨hg,decide_eq_true h2⟩,rfl⟩⟩))
  ·rintro ⟨a,b⟩
   refine ⟨fun f hf=>(by cases hf),fun e he=>?_⟩
   rcases List.mem_append.1 he with h1|h1
   ·obtain ⟨h2,h3⟩:=List.mem_filter.1 h1
    exact a e h2 (of_decide_eq_true h3)
   ·obtain ⟨f,h2,h3⟩:=List.mem_flatMap.1 h1
    obtain ⟨g,h4,rfl⟩:=List.mem_map.1 h3
    obtain ⟨hf,hf1⟩:=List.mem_filter.1 h2
    obtain ⟨hg,hg1⟩:=List.mem_filter.1 h4
    rw [comb_val (h f hf).1 (h g hg).1]
    exact b f hf g hg (of_decide_eq_true hf1) (of_decide_eq_true hg1)
 ·intro e he
  rcases List.mem_append.1 he with h1|h1
  ·have h2:=h e (List.mem_filter.1 h1).1
   exact ⟨h2.1.2,h2.2⟩
  ·obtain ⟨f,h2,h3⟩:=List.mem_flatMap.1 h1
   obtain ⟨g,h4,rfl⟩:=List.mem_map.1 h3
   have hf:=h f (List.mem_filter.1 h2).1
   have hg:=h g (List.mem_filter.1 h4).1
   exact ⟨(comb_srt hf.1 hg.1).1.2,comb_in hf.2 hg.2⟩
theorem evS_set{X:List Rat}{v:Nat}(hv:v<X.length):∀{F:List (Int × Rat)},Srt F→(∀t∈F,0≤t.1)→evS (X.set v 0) F=evS X F-cof F (v:Int)*X.getD v 0
 | [],_,_=>by rw [evS,evS,cof_nil];grind
 | t::F,h,h0=>by
   have ht:=h0 t List.mem_cons_self
   have ih:=evS_set hv h.tail fun u hu=>h0 u (List.mem_cons_of_mem _ hu)
   rw [evS,evS,ih]
   by_cases e:t.1=(v:Int)
   ·have hc:cof F (v:Int)=0:=cof_low fun u hu=>by
     have:=h.head u hu
     omega
    have e2:t.1.toNat=v:=by omega
    rw [cof_hd e.symm,hc,e2]
    have e3:(X.set v 0).getD v 0=0:=by simp [List.getD,hv]
    rw [e3]
    grind
   ·rw [cof_tl (fun x=>e x.symm)]
    have e3:(X.set v 0).getD t.1.toNat 0=X.getD t.1.toNat 0:=by
     simp only [List.getD]
     rw [List.getElem?_set_ne (by omega)]
    rw [e3]
    grind
end
section
open Go.RowKit
def restX(X:List Rat)(v:Nat)(f:Form):Rat:=valX (X.set v 0) f
def bdX(X:List Rat)(v:Nat)(f:Form):Rat:=-restX X v f / cof f.1 (v:Int)
structure BdI (X:List Rat) (v:Nat) (P:List Form) (ok low high:Bool) (lo hi:Rat):Prop where
 okI:ok=true↔∀f∈P,cof f.1 (v:Int)=0→0≤restX X v f
 lowI:low=true↔∃f∈P,0<cof f.1 (v:Int)
 highI:high=true↔∃f∈P,cof f.1 (v:Int)<0
 loI:low=true→(∃f∈P,0<cof f.1 (v:Int)∧lo=bdX X v f)∧∀f∈P,0<cof f.1 (v:Int)→bdX X v f≤lo
 hiI:high=true→(∃f∈P,cof f.1 (v:Int)<0∧hi=bdX X v f)∧∀f∈P,cof f.1 (v:Int)<0→hi≤bdX X v f
theorem BdI.nil(X:List Rat)(v:Nat)(lo hi:Rat):BdI X v [] true false false lo hi:=
 ⟨by simp,by simp,by simp,fun h=>(by cases h),fun h=>(by cases h)⟩
theorem mem_snoc{P:List Form}{f g:Form}:g∈P++[f]↔g∈P∨g=f:=by simp
theorem BdI.zero{X:List Rat}{v:Nat}{P:List Form}{ok low high:Bool}{lo hi:Rat}{f:Form}(I:BdI X v P ok low high lo hi)(h:cof f.1 (v:Int)=0):BdI X v (P++[f]) (ok && decide (0≤restX X v f)) low high lo hi where
 okI:=by
  rw [Bool.and_eq_true,I.okI,decide_eq_true_iff]
  constructor
  ·rintro ⟨a,b⟩ g hg h0
   rcases mem_snoc.1 hg with h1|rfl
   ·exact a g h1 h0
   ·exact b
  ·intro a
   exact ⟨fun g hg=>a g (mem_snoc.2 (.inl hg)),a f (mem_snoc.2 (.inr rfl)) h⟩
 lowI:=by
  rw [I.lowI]
  constructor
  ·rintro ⟨g,hg,h1⟩;exact ⟨g,mem_snoc.2 (.inl hg),h1⟩
  ·rintro ⟨g,hg,h1⟩
   rcases mem_snoc.1 hg with h2|rfl
   ·exact ⟨g,h2,h1⟩
   ·rw [h] at h1;exact absurd h1 (by decide)
 highI:=by
  rw [I.highI]
  constructor
  ·rintro ⟨g,hg,h1⟩;exact ⟨g,mem_snoc.2 (.inl hg),h1⟩
  ·rintro ⟨g,hg,h1⟩
   rcases mem_snoc.1 hg with h2|rfl
   ·exact ⟨g,h2,h1⟩
   ·rw [h] at h1;exact absurd h1 (by decide)
 loI:=fun hl=>by
  obtain ⟨⟨g,hg,h1⟩,a⟩:=I.loI hl
  refine ⟨⟨g,mem_snoc.2 (.inl hg),h1⟩,fun g hg h2=>?_⟩
  rcases mem_snoc.1 hg with h3|rfl
  ·exact a g h3 h2
  ·rw [h] at h2;exact absurd h2 (by decide)
 hiI:=fun hl=>by
  obtain ⟨⟨g,hg,h1⟩,a⟩:=I.hiI hl
  refine ⟨⟨g,mem_snoc.2 (.inl hg),h1⟩,fun g hg h2=>?_⟩
  rcases mem_snoc.1 hg with h3|rfl
  ·exact a g h3 h2
  ·rw [h] at h2;exact absurd h2 (by decide)
theorem BdI.up{X:List Rat}{v:Nat}{P:List Form}{ok low high:Bool}{lo hi lo2:Rat}{f:Form}(I:BdI X v P ok low high lo hi)(h:0<cof f.1 (v:Int))(h2:(low=false∨lo<bdX X v f)∧lo2=bdX X v f∨low=true∧bdX X v f≤lo∧lo2=lo):BdI X v (P++[f]) ok true high lo2 hi where
 okI:=by
  rw [I.okI]
  constructor
  ·intro a g hg h0
   rcases mem_snoc.1 hg with h1|rfl
   ·exact a g h1 h0
   ·rw [h0] at h;exact absurd h (by decide)
  ·intro a g hg
   exact a g (mem_snoc.2 (.inl hg))
 lowI:=⟨fun _=>⟨f,mem_snoc.2 (.inr rfl),h⟩,fun _=>rfl⟩
 highI:=by
  rw [I.highI]
  constructor
  ·rintro ⟨g,hg,h1⟩;exact ⟨g,mem_snoc.2 (.inl hg),h1⟩
  ·rintro ⟨g,hg,h1⟩
   rcases mem_snoc.1 hg with h3|rfl
   ·exact ⟨g,h3,h1⟩
   ·grind
 loI:=fun _=>by
  rcases h2 with ⟨h3,rfl⟩|⟨hl,h3,rfl⟩
  ·refine ⟨⟨f,mem_snoc.2 (.inr rfl),h,rfl⟩,fun g hg h4=>?_⟩
   rcases mem_snoc.1 hg with h5|rfl
   ·have hl:low=true:=I.lowI.2 ⟨g,h5,h4⟩
    have:=(I.loI hl).2 g h5 h4
    rcases h3 with h3|h3
    ·rw [hl] at h3;cases h3
    ·grind
   ·exact Rat.le_refl
  ·obtain ⟨⟨g,hg,h1⟩,a⟩:=I.loI hl
   refine ⟨⟨g,mem_snoc.2 (.inl hg),h1⟩,fun g hg h4=>?_⟩
   rcases mem_snoc.1 hg with h5|rfl
   ·exact a g h5 h4
   ·exact h3
 hiI:=fun hl=>by
  obtain ⟨⟨g,hg,h1⟩,a⟩:=I.hiI hl
  refine ⟨⟨g,mem_snoc.2 (.inl hg),h1⟩,fun g hg h4=>?_⟩
  rcases mem_snoc.1 hg with h5|rfl
  ·exact a g h5 h4
  ·grind
theorem BdI.down{X:List Rat}{v:Nat}{P:List Form}{ok low high:Bool}{lo hi hi2:Rat}{f:Form}(I:BdI X v P ok low high lo hi)(h:cof f.1 (v:Int)<0)(h2:(high=false∨bdX X v f<hi)∧hi2=bdX X v f∨high=true∧hi≤bdX X v f∧hi2=hi):BdI X v (P++[f]) ok low true lo hi2 where
 okI:=by
  rw [I.okI]
  constructor
  ·intro a g hg h0
   rcases mem_snoc.1 hg with h1|rfl
   ·exact a g h1 h0
   ·rw [h0] at h;exact absurd h (by decide)
  ·intro a g hg
   exact a g (mem_snoc.2 (.inl hg))
 highI:=⟨fun _=>⟨f,mem_snoc.2 (.inr rfl),h⟩,fun _=>rfl⟩
 lowI:=by
  rw [I.lowI]
  constructor
  ·rintro ⟨g,hg,h1⟩;exact ⟨g,mem_snoc.2 (.inl hg),h1⟩
  ·rintro ⟨g,hg,h1⟩
   rcases mem_snoc.1 hg with h3|rfl
   ·exact ⟨g,h3,h1⟩
   ·grind
 hiI:=fun _=>by
  rcases h2 with ⟨h3,rfl⟩|⟨hl,h3,rfl⟩
  ·refine ⟨⟨f,mem_snoc.2 (.inr rfl),h,rfl⟩,fun g hg h4=>?_⟩
   rcases mem_snoc.1 hg with h5|rfl
   ·have hl:high=true:=I.highI.2 ⟨g,h5,h4⟩
    have:=(I.hiI hl).2 g h5 h4
    rcases h3 with h3|h3
    ·rw [hl] at h3;cases h3
    ·grind
   ·exact Rat.le_refl
  ·obtain ⟨⟨g,hg,h1⟩,a⟩:=I.hiI hl
   refine ⟨⟨g,mem_snoc.2 (.inl hg),h1⟩,fun g hg h4=>?_⟩
   rcases mem_snoc.1 hg with h5|rfl
   ·exact a g h5 h4
   ·exact h3
 loI:=fun hl=>by
  obtain ⟨⟨g,hg,h1⟩,a⟩:=I.loI hl
  refine ⟨⟨g,mem_snoc.2 (.inl hg),h1⟩,fun g hg h4=>?_⟩
  rcases mem_snoc.1 hg with h5|rfl
  ·exact a g h5 h4
  ·grind
theorem bd_pair{a b r s:Rat}(ha:0<a)(hb:b<0):(-r / a≤-s / b↔0≤r*(-b)+s*a):=by
 have h1:-r / a*a=-r:=Rat.div_mul_cancel (by grind)
 have h2:-s / b*b=-s:=Rat.div_mul_cancel (by grind)
 generalize -r / a=x at h1
 generalize -s / b=y at h2
 have e:r*(-b)+s*a=(y-x)*(a*(-b)):=by
  have hr:r=-(x*a):=by grind
  have hs:s=-(y*b):=by grind
  rw [hr,hs]
  grind
 have hp:0<a*(-b):=Rat.mul_pos ha (by grind)
 rw [e]
 constructor
 ·intro h
  exact Rat.mul_nonneg (by grind) (by grind)
 ·intro h
  false_or_by_contra
  have:=Rat.mul_pos (show 0<x-y by grind) hp
  grind
theorem rest_val{X:List Rat}{v:Nat}{f:Form}(hv:v<X.length)(hs:Srt f.1)(hi:InR X.length f.1):restX X v f=valX X f-cof f.1 (v:Int)*X.getD v 0:=by
 unfold restX valX
 rw [evS_set hv hs fun t ht=>(hi t ht).1]
 grind
theorem proj_law{X:List Rat}{v:Nat}{rows:List Form}{ok low high:Bool}{lo hi:Rat}(hv:v<X.length)(h:∀f∈rows,Srt f.1∧InR X.length f.1)(I:BdI X v rows ok low high lo hi):
  SatR X (elimF (v:Int) rows)↔ok=true∧(low=false∨high=false∨lo≤hi):=by
 rw [sat_elim h]
 have hr:∀f∈rows,restX X v f=valX X f-cof f.1 (v:Int)*X.getD v 0:=fun f hf=>rest_val hv (h f hf).1 (h f hf).2
 have hpair:∀f∈rows,∀g∈rows,0<cof f.1 (v:Int)→cof g.1 (v:Int)<0→(bdX X v f≤bdX X v g↔0≤valX X f*(-cof g.1 (v:Int))+valX X g*cof f.1 (v:Int)):=fun f hf g hg h1 h2=>by
  unfold bdX
  rw [bd_pair h1 h2,hr f hf,hr g hg]
  have e:(valX X f-cof f.1 (v:Int)*X.getD v 0)*(-cof g.1 (v:Int))+(valX X g-cof g.1 (v:Int)*X.getD v 0)*cof f.1 (v:Int)=valX X f*(-cof g.1 (v:Int))+valX X g*cof f.1 (v:Int):=by grind
  rw [e]
 constructor
 ·rintro ⟨a,b⟩
  refine ⟨I.okI.2 fun f hf h0=>?_,?_⟩
  ·have:=a f hf h0
   rw [hr f hf,h0]
   grind
  ·cases hl:low with
   | false=>exact .inl rfl
   | true=>
     cases hh:high with
     | false=>exact .inr (.inl rfl)
     | true=>
       refine .inr (.inr ?_)
       obtain ⟨⟨f,hf,f1,rfl⟩,_⟩:=I.loI hl
       obtain ⟨⟨g,hg,g1,rfl⟩,_⟩:=I.hiI hh
       exact (hpair f hf g hg f1 g1).2 (b f hf g hg f1 g1)
 ·rintro ⟨a,b⟩
  refine ⟨fun f hf h0=>?_,fun f hf g hg h1 h2=>?_⟩
  ·have:=I.okI.1 a f hf h0
   rw [hr f hf,h0] at this
   grind
  ·have hl:low=true:=I.lowI.2 ⟨f,hf,h1⟩
   have hh:high=true:=I.highI.2 ⟨g,hg,h2⟩
   rcases b with b|b|b
   ·rw [hl] at b;cases b
   ·rw [hh] at b;cases b
   ·have c1:=(I.loI hl).2 f hf h1
    have c2:=(I.hiI hh).2 g hg h2
    exact (hpair f hf g hg h1 h2).1 (by grind)
end
section
open Go.RowKit
def addD{α:Type}[DecidableEq α](l:List α)(x:α):List α:=if x∈l then l else l++[x]
section
variable {α β : Type} [DecidableEq α] [DecidableEq β]
theorem addD_mem{l:List α}{x y:α}:y∈addD l x↔y∈l∨y=x:=by
 unfold addD
 split
 ·rename_i h
  exact ⟨.inl,fun h2=>h2.elim id fun e=>e▸h⟩
 ·simp
theorem fold_mem:∀{E l:List α} {y:α},y∈E.foldl addD l↔y∈l∨y∈E
 | [],l,y=>by simp
 | x::E,l,y=>by
   rw [List.foldl_cons,fold_mem,addD_mem,List.mem_cons]
   constructor
   ·rintro ((h|h)|h)
    ·exact .inl h
    ·exact .inr (.inl h)
    ·exact .inr (.inr h)
   ·rintro (h|h|h)
    ·exact .inl (.inl h)
    ·exact .inl (.inr h)
    ·exact .inr h
def ddF(E:List α):List α:=E.foldl addD []
end
def trivF(n:Form):Bool:=decide (n.1=[]∧0≤n.2)
theorem colF_addD(l:List Form)(f:Form):colF l f=if trivF (normF f)=true then l else addD l (normF f):=by
 unfold colF trivF addD
 by_cases h:(normF f).1=[]∧0≤(normF f).2
 ·rw [if_pos h,if_pos (decide_eq_true h)]
 ·rw [if_neg h,decide_eq_false h,if_neg Bool.false_ne_true]
  by_cases hm:normF f∈l
  ·rw [if_pos hm,if_pos hm]
  ·rw [if_neg hm,if_neg hm]
def nrm(R:List Form):List Form:=(R.map normF).filter fun n=>!trivF n
theorem col_fold:∀(R l:List Form),R.foldl colF l=(nrm R).foldl addD l
 | [],_=>rfl
 | f::R,l=>by
   rw [List.foldl_cons,colF_addD,col_fold R]
   unfold nrm
   rw [List.map_cons]
   by_cases h:trivF (normF f)=true
   ·rw [if_pos h,List.filter_cons_of_neg (by simp [h])]
   ·rw [if_neg h,List.filter_cons_of_pos (by simpa using h)]
    rfl
def mulF(f:Form)(c:Rat):Form:=(sclV f.1 c,f.2*c)
theorem norm_is{f:Form}(hf:Srt f.1)(hn:f.1≠[]):∃c,0<c∧normF f=mulF f c:=by
 obtain ⟨F,q⟩:=f
 cases F with
 | nil=>exact absurd rfl hn
 | cons t F=>exact ⟨1 / absR t.2,div_pos1 (absR_pos (hf.2 t List.mem_cons_self)),rfl⟩
end
section
open Go.RowKit
def nz(f:Form):List Form:=if trivF (normF f)=true then [] else [normF f]
theorem nrm_cons(f:Form)(R:List Form):nrm (f::R)=nz f++nrm R:=by
 unfold nrm nz
 rw [List.map_cons]
 by_cases h:trivF (normF f)=true
 ·rw [if_pos h,List.filter_cons_of_neg (by simp [h])];rfl
 ·rw [if_neg h,List.filter_cons_of_pos (by simpa using h)];rfl
theorem zeroL_pos{v:Int}{f:Form}{R:List Form}(h:cof f.1 v=0):zeroL v (f::R)=f::zeroL v R:=by unfold zeroL;simp [h]
theorem zeroL_neg{v:Int}{f:Form}{R:List Form}(h:¬cof f.1 v=0):zeroL v (f::R)=zeroL v R:=by unfold zeroL;simp [h]
theorem upL_pos{v:Int}{f:Form}{R:List Form}(h:0<cof f.1 v):upL v (f::R)=f::upL v R:=by unfold upL;simp [h]
theorem upL_neg{v:Int}{f:Form}{R:List Form}(h:¬0<cof f.1 v):upL v (f::R)=upL v R:=by unfold upL;rw [List.filter_cons,if_neg (by rw [decide_eq_true_iff];exact h)]
theorem downL_pos{v:Int}{f:Form}{R:List Form}(h:cof f.1 v<0):downL v (f::R)=f::downL v R:=by unfold downL;simp [h]
theorem downL_neg{v:Int}{f:Form}{R:List Form}(h:¬cof f.1 v<0):downL v (f::R)=downL v R:=by unfold downL;rw [List.filter_cons,if_neg (by rw [decide_eq_true_iff];exact h)]
theorem norm_nil{f:Form}(h:f.1=[]):normF f=([],sgQ f.2):=by
 obtain ⟨F,q⟩:=f
 dsimp only at h
 subst h
 rfl
theorem norm_srt{f:Form}(hf:Srt f.1):Srt (normF f).1:=by
 by_cases h:f.1=[]
 ·rw [norm_nil h];exact Srt.nil
 ·obtain ⟨c,hc,e⟩:=norm_is hf h
  rw [e]
  exact (scl_srt hf).1
end
section
open Go.RowKit
theorem norm_mem{v:Int}{R:List Form}{n:Form}(h:n∈elimF v R):∃f∈allL v R,n=normF f:=by
 have e:elimF v R=(nrm (allL v R)).foldl addD []:=col_fold _ _
 rw [e,fold_mem] at h
 rcases h with h|h
 ·cases h
 ·unfold nrm at h
  obtain ⟨f,hf,rfl⟩:=List.mem_map.1 (List.mem_filter.1 h).1
  exact ⟨f,hf,rfl⟩
theorem quart{z u d n:Nat}(hn:z+u+d=n)(h4:4≤n):4*(z+u*d)≤n*n:=by
 have hz:(0:Int)≤(n:Int)-(u+d):=by omega
 have h1:(0:Int)≤((n:Int)-(u+d))*((n:Int)+(u+d)-4):=Int.mul_nonneg hz (by omega)
 have h2:(0:Int)≤((u:Int)-d)*((u:Int)-d):=by
  rcases Int.le_total 0 ((u:Int)-d) with h|h
  ·exact Int.mul_nonneg h h
  ·exact Int.mul_nonneg_of_nonpos_of_nonpos h h
 have hz2:(z:Int)=n-(u+d):=by omega
 have:(4:Int)*(z+u*d)≤n*n:=by
  rw [hz2]
  grind
 exact_mod_cast this
theorem fold_len{α:Type}[DecidableEq α]:∀(E l:List α),(E.foldl addD l).length≤l.length+E.length
 | [],l=>Nat.le_refl _
 | x::E,l=>by
   have h1:=fold_len E (addD l x)
   have h2:(addD l x).length≤l.length+1:=by
    unfold addD
    split
    ·omega
    ·rw [List.length_append,List.length_singleton];omega
   rw [List.foldl_cons,List.length_cons]
   omega
theorem part_len(v:Int):∀R:List Form,(zeroL v R).length+(upL v R).length+(downL v R).length=R.length
 | []=>rfl
 | f::R=>by
   have ih:=part_len v R
   by_cases h0:cof f.1 v=0
   ·rw [zeroL_pos h0,upL_neg (by rw [h0];decide),downL_neg (by rw [h0];decide),List.length_cons,List.length_cons];omega
   ·by_cases h1:0<cof f.1 v
    ·rw [zeroL_neg h0,upL_pos h1,downL_neg (by grind),List.length_cons,List.length_cons];omega
    ·rw [zeroL_neg h0,upL_neg h1,downL_pos (by grind),List.length_cons,List.length_cons];omega
theorem elim_len(v:Int)(R:List Form):(elimF v R).length≤(zeroL v R).length+(upL v R).length*(downL v R).length:=by
 have e:elimF v R=(nrm (allL v R)).foldl addD []:=col_fold _ _
 have h1:=fold_len (nrm (allL v R)) []
 have h2:(nrm (allL v R)).length≤(allL v R).length:=by
  unfold nrm
  exact Nat.le_trans (List.length_filter_le _ _) (by rw [List.length_map];exact Nat.le_refl _)
 have h3:∀U:List Form,(U.flatMap fun f=>(downL v R).map (combF v f)).length=U.length*(downL v R).length:=fun U=>by
  induction U with
  | nil=>simp
  | cons f U ih=>rw [List.flatMap_cons,List.length_append,ih,List.length_map,List.length_cons,Nat.succ_mul];omega
 have h4:(allL v R).length=(zeroL v R).length+(upL v R).length*(downL v R).length:=by
  unfold allL
  rw [List.length_append,h3]
 rw [e]
 simp only [List.length_nil] at h1
 omega
theorem elim_len4{v:Int}{R:List Form}{n:Nat}(hn:R.length≤n)(h4:4≤n):4*(elimF v R).length≤n*n:=by
 have h1:=elim_len v R
 have h2:=part_len v R
 have h3:=quart (z:=(zeroL v R).length+(n-R.length)) (u:=(upL v R).length) (d:=(downL v R).length) (n:=n) (by omega) h4
 generalize (upL v R).length*(downL v R).length=p at h1 h3
 generalize n*n=q at h3 ⊢
 omega
end
section
open Go.RowKit
structure Cln (L:List Form):Prop where
 s:∀f∈L,Srt f.1
 n:∀f∈L,normF f=f
 t:∀f∈L,trivF f=false
 d:ddF L=L
theorem nrm_id:∀{L:List Form},(∀f∈L,normF f=f)→(∀f∈L,trivF f=false)→nrm L=L
 | [],_,_=>rfl
 | f::L,h1,h2=>by
   have e:nz f=[f]:=by
    unfold nz
    rw [h1 f List.mem_cons_self,h2 f List.mem_cons_self]
    rfl
   rw [nrm_cons,e,nrm_id (fun g hg=>h1 g (List.mem_cons_of_mem _ hg)) fun g hg=>h2 g (List.mem_cons_of_mem _ hg)]
   rfl
theorem Cln.col{L:List Form}(h:Cln L):L.foldl colF []=L:=by
 rw [col_fold,nrm_id h.n h.t]
 exact h.d
end
section
open Go.RowKit
theorem H_invQ{q:Rat}(h:q≠0):H (1 / q)≤H q:=by
 rw [Rat.div_def,Rat.one_mul]
 unfold H
 have hn:q.num≠0:=fun e=>h (by rw [←Rat.num_eq_zero];exact e)
 have e1:(q⁻¹).num.natAbs=q.den:=by
  rw [Rat.num_inv,Int.natAbs_mul,Int.natAbs_sign_of_ne_zero hn,Nat.one_mul]
  exact Int.natAbs_natCast _
 have e2:(q⁻¹).den=q.num.natAbs:=by rw [Rat.den_inv,if_neg hn]
 rw [e1,e2]
 omega
theorem H_absR(q:Rat):H (absR q)=H q:=by
 unfold absR
 split
 ·exact H_neg q
 ·rfl
def FH(m:Nat)(f:Form):Prop:=(∀t∈f.1,H t.2≤m)∧H f.2≤m
theorem cof_at:∀{F:List (Int × Rat)},Srt F→∀t∈F,cof F t.1=t.2
 | [],_,t,ht=>by cases ht
 | u::F,h,t,ht=>by
   rcases List.mem_cons.1 ht with rfl|ht
   ·exact cof_hd rfl
   ·have:=h.head t ht
    rw [cof_tl (by omega)]
    exact cof_at h.tail t ht
theorem cofH{b:Nat}{v:Int}(hb:1≤b):∀{l:List (Int × Rat)},(∀t∈l,H t.2≤b)→H (cof l v)≤b
 | [],_=>Nat.le_trans (show H 0≤1 by decide+kernel) hb
 | t::l,h=>by
   rw [cof]
   split
   ·exact h t List.mem_cons_self
   ·exact cofH hb fun u hu=>h u (List.mem_cons_of_mem _ hu)
theorem FH.scl{m k:Nat}{F:List (Int × Rat)}{c:Rat}(h:∀t∈F,H t.2≤m)(hc:H c≤k):∀t∈sclV F c,H t.2≤m+k:=fun t ht=>by
 simp only [sclV,List.mem_flatMap] at ht
 obtain ⟨u,hu,h1⟩:=ht
 obtain ⟨rfl,_⟩:=put1_mem h1
 have a:=H_mul u.2 c
 have b:=h u hu
 show H (u.2*c)≤_
 omega
theorem FH.add{m k:Nat}{F G:List (Int × Rat)}(hF:Srt F)(hG:Srt G)(h:∀t∈F,H t.2≤m)(g:∀t∈G,H t.2≤k)(hm:1≤m)(hk:1≤k):∀t∈addV F G,H t.2≤m+k+1:=fun t ht=>by
 obtain ⟨a1,a2⟩:=add_srt hF hG
 have e:=cof_at a1 t ht
 rw [a2] at e
 rw [←e]
 have b:=H_add (cof F t.1) (cof G t.1)
 have c:=cofH (v:=t.1) hm h
 have d:=cofH (v:=t.1) hk g
 omega
theorem sgQ_H(q:Rat):H (sgQ q)≤1:=by
 unfold sgQ
 split
 ·decide+kernel
 ·split <;>decide+kernel
theorem FH.norm{m:Nat}{f:Form}(hs:Srt f.1)(h:FH m f)(hm:1≤m):FH (m+m) (normF f):=by
 obtain ⟨F,q⟩:=f
 cases F with
 | nil=>
   have:=sgQ_H q
   refine ⟨fun t ht=>(by cases ht),?_⟩
   show H (sgQ q)≤_
   omega
 | cons t F=>
   have hne:=hs.2 t List.mem_cons_self
   have ha:absR t.2≠0:=fun e=>by have:=absR_pos hne;rw [e] at this;exact absurd this (by decide)
   have hc:H (1 / absR t.2)≤m:=Nat.le_trans (H_invQ ha) (by rw [H_absR];exact h.1 t List.mem_cons_self)
   refine ⟨FH.scl h.1 hc,?_⟩
   have a:=H_mul q (1 / absR t.2)
   have b:=h.2
   dsimp only at b
   show H (q*(1 / absR t.2))≤_
   omega
theorem FH.comb{m:Nat}{v:Int}{f g:Form}(hf:Srt f.1)(hg:Srt g.1)(h:FH m f)(k:FH m g)(hm:1≤m):FH (4*m+1) (combF v f g):=by
 have c1:H (-cof g.1 v)≤m:=by rw [H_neg];exact cofH hm k.1
 have c2:H (cof f.1 v)≤m:=cofH hm h.1
 refine ⟨fun t ht=>?_,?_⟩
 ·have:=FH.add (scl_srt hf).1 (scl_srt hg).1 (FH.scl h.1 c1) (FH.scl k.1 c2) (by omega) (by omega) t ht
  omega
 ·have a:=H_add (f.2*-cof g.1 v) (g.2*cof f.1 v)
  have b:=H_mul f.2 (-cof g.1 v)
  have d:=H_mul g.2 (cof f.1 v)
  have e1:=h.2
  have e2:=k.2
  show H (f.2*-cof g.1 v+g.2*cof f.1 v)≤_
  omega
theorem FH.elim{m:Nat}{v:Int}{R:List Form}(h:∀f∈R,Srt f.1∧FH m f)(hm:1≤m):∀f∈elimF v R,FH (8*m+2) f:=fun n hn=>by
 obtain ⟨e,he,rfl⟩:=norm_mem hn
 have key:Srt e.1∧FH (4*m+1) e:=by
  rcases List.mem_append.1 he with h1|h1
  ·obtain ⟨a,b⟩:=h e (List.mem_filter.1 h1).1
   exact ⟨a,fun t ht=>by have:=b.1 t ht;omega,by have:=b.2;omega⟩
  ·obtain ⟨f,h2,h3⟩:=List.mem_flatMap.1 h1
   obtain ⟨g,h4,rfl⟩:=List.mem_map.1 h3
   have hf:=h f (List.mem_filter.1 h2).1
   have hg:=h g (List.mem_filter.1 h4).1
   exact ⟨(comb_srt hf.1 hg.1).1,FH.comb hf.1 hg.1 hf.2 hg.2 hm⟩
 obtain ⟨a,b⟩:=FH.norm key.1 key.2 (by omega)
 exact ⟨fun t ht=>by have:=a t ht;omega,by omega⟩
end
section
open Go.RowKit
theorem ba_loop(a:ByteArray):∀(k i:Nat) (r:List UInt8),k+i=a.size→ByteArray.toList.loop a i r=r.reverse++a.data.toList.drop i
 | 0,i,r,h=>by
   rw [ByteArray.toList.loop,if_neg (by omega),List.drop_eq_nil_of_le (by have e:a.data.toList.length=a.size:=Array.length_toList;omega),List.append_nil]
 | k+1,i,r,h=>by
   have hi:i<a.data.toList.length:=by have e:a.data.toList.length=a.size:=Array.length_toList;omega
   rw [ByteArray.toList.loop,if_pos (by omega),ba_loop a k (i+1) _ (by omega),List.drop_eq_getElem_cons hi]
   have e:a.get! i=a.data.toList[i]:=by
    unfold ByteArray.get!
    rw [Array.getElem_toList]
    exact getElem!_pos a.data i (by simpa using hi)
   rw [e]
   simp
theorem ba_toList(a:ByteArray):a.toList=a.data.toList:=by
 unfold ByteArray.toList
 rw [ba_loop a a.size 0 [] (by omega)]
 simp
theorem ba_ext{a b:ByteArray}(h:a.data.toList=b.data.toList):a=b:=by
 obtain ⟨x⟩:=a
 obtain ⟨y⟩:=b
 congr 1
 exact Array.toList_inj.1 h
theorem ba_inj{a b:ByteArray}(h:a.toList=b.toList):a=b:=ba_ext (by rw [←ba_toList,←ba_toList,h])
theorem cat_r{a b x:ByteArray}(h:a.size+b.size≤9000000000000000000)(d:x=a++b):(if ((a.size+b.size:Nat):Int)≤9223372036854775807 then some (Value.string (a++b)) else none)=some (Value.string x):=by
 rw [if_pos (by omega),d]
theorem cat_q{a b x:ByteArray}(h:a.size+b.size≤9000000000000000000)(d:x=a++b):(if ((a.size:Nat):Int)+((b.size:Nat):Int)≤9223372036854775807 then some (Value.string (a++b)) else none)=some (Value.string x):=by
 rw [if_pos (by omega),d]
theorem set_strC(l:List ByteArray)(i:Nat)(a:ByteArray):(l.map strC).set i [.lit (.string a)]=(l.set i a).map strC:=by
 rw [List.map_set];rfl
def bs(l:List UInt8):ByteArray:=⟨l.toArray⟩
theorem bs_data(l:List UInt8):(bs l).data.toList=l:=by simp [bs]
theorem bs_size(l:List UInt8):(bs l).size=l.length:=by
 show (bs l).data.size=_
 simp [bs]
theorem bs_app(l m:List UInt8):bs l++bs m=bs (l++m):=ba_ext (by simp [bs])
theorem bs_inj{l m:List UInt8}(h:bs l=bs m):l=m:=by
 have:=congrArg (fun a:ByteArray=>a.data.toList) h
 simpa [bs] using this
end
end Go.Proofs.YtdaonnnlgfhlaaaGreatDoor
