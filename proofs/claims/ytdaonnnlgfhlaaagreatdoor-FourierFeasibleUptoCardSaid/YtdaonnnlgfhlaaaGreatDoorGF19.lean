import Derived.Test.YtdaonnnlgfhlaaaGreatDoorGF18
import Derived.Test.YtdaonnnlgfhlaaaGreatDoorGF16
set_option linter.all false
set_option maxHeartbeats 6400000
set_option maxRecDepth 100000
namespace Go.Proofs.YtdaonnnlgfhlaaaGreatDoor
section
open Go.RowKit
attribute [local irreducible] run Zp Zk exec
noncomputable def tv(p:Prop):Bool:=@decide p (Classical.propDecidable p)
theorem Q8{p:Prop}(h:p):tv p=true:=@decide_eq_true p (Classical.propDecidable p) h
theorem Xx{p:Prop}(h:¬p):tv p=false:=@decide_eq_false p (Classical.propDecidable p) h
theorem YG{p:Prop}(h:tv p=true):p:=@of_decide_eq_true p (Classical.propDecidable p) h
theorem QV{p:Prop}(h:tv p=false):¬p:=@of_decide_eq_false p (Classical.propDecidable p) h
def ZuI(F:List (Int × Rat))(vars:Int)(i:Nat):Prop:=∀v c,F[i]?=some (v,c)→0≤v∧v<vars∧c≠0∧∀v' c',0<i→F[i-1]?=some (v',c')→v'<v
def OkFm(f:Zf)(vars:Int):Prop:=∀i,i<f.1.length→ZuI f.1 vars i
structure BdF (b:Nat) (f:Zf):Prop where
 l:f.1.length≤100000000
 t:∀t∈f.1,H t.2≤b
 k:H f.2≤b
theorem BdF.mono{b c:Nat}{f:Zf}(h:BdF b f)(hb:b≤c):BdF c f:=⟨h.l,fun t ht=>Nat.le_trans (h.t t ht) hb,Nat.le_trans h.k hb⟩
theorem Zg0{n:Nat}{f:Zf}{vars:Int}(hB:BdF 17179869184 f):run n 21 [Ze f,.lit (.int .i64 vars)]=some (.lit (.bool (tv (OkFm f vars)))):=by
 have hl:=hB.l
 have L:=Q1 (O:=tab n) (P:= Tryz.prog) (m:=0) (N:=59) (lives:=Za 21) (r:=2) (C:=Xh) (M:=f.1.length) (enc:=QB f vars) (p:=fun i=>tv (ZuI f.1 vars i)) (exN:=.exit 0) (exE:=.ret) (out:=Zci f) (outE:=Wo f) (by omega) (by simp) (by simp)
  (fun i hi hI=>by
   have hx:f.1[i]?=some f.1[i]:=List.getElem?_eq_getElem hi
   generalize f.1[i]=t at hx
   obtain ⟨v,c⟩:=t
   have hc:H c≤17179869184:=hB.t _ (List.mem_of_getElem? hx)
   have C1:(i:Int)<(f.1.length:Int):=by omega
   have W:InI ((i:Int)+1):=⟨by omega,by omega⟩
   have W2:InI ((i:Int)-1):=⟨by omega,by omega⟩
   have hs:sgR c=0↔c=0:=Yi
   by_cases h0:0<i
   ·have hy:f.1[i-1]?=some (f.1[i-1]'(by omega)):=List.getElem?_eq_getElem _
    generalize f.1[i-1]'(by omega)=t at hy
    obtain ⟨v',c'⟩:=t
    refine ⟨fun hp=>?_,fun hp=>?_⟩
    ·obtain ⟨a1,a2,a3,a4⟩:=YG hp v c hx
     have a5:=a4 v' c' h0 hy
     exact Zsc C1 hx (by omega) (by omega) (by omega) W2 hy (by omega) (by omega) hc (fun h=>a3 (hs.1 h)) W
    ·by_cases b1:v<0
     ·exact ZiO C1 hx b1
     ·by_cases b2:vars≤v
      ·exact Zir C1 hx b1 b2
      ·by_cases b3:v≤v'
       ·exact ZrZ C1 hx b1 b2 (by omega) W2 hy (by omega) b3
       ·by_cases b4:c=0
        ·exact ZrE C1 hx b1 b2 (by omega) W2 hy (by omega) b3 hc (hs.2 b4)
        ·refine absurd (fun u d hu=>?_) (QV hp)
         rw [hx] at hu;cases hu
         exact ⟨by omega,by omega,b4,fun v2 c2 _ h2=>by rw [hy] at h2;cases h2;omega⟩
   ·refine ⟨fun hp=>?_,fun hp=>?_⟩
    ·obtain ⟨a1,a2,a3,a4⟩:=YG hp v c hx
     exact ZrL C1 hx (by omega) (by omega) (by omega) hc (fun h=>a3 (hs.1 h)) W
    ·by_cases b1:v<0
     ·exact ZiO C1 hx b1
     ·by_cases b2:vars≤v
      ·exact Zir C1 hx b1 b2
      ·by_cases b4:c=0
       ·exact Zrd C1 hx b1 b2 (by omega) hc (hs.2 b4)
       ·refine absurd (fun u d hu=>?_) (QV hp)
        rw [hx] at hu;cases hu
        exact ⟨by omega,by omega,b4,fun v2 c2 h2=>absurd h2 h0⟩)
  (Ztm (by omega))
 by_cases h:OkFm f vars
 ·rw [if_pos (fun i hi=>Q8 (h i hi))] at L
  rw [Q8 h]
  exact ZxB L hB.k
 ·rw [if_neg (fun h2=>h fun i hi=>YG (h2 i hi))] at L
  rw [Xx h]
  exact ZyU L
end
section
open Go.RowKit
attribute [local irreducible] run Zp Zk exec
end
section
open Go.RowKit
noncomputable def Vo:Code:=(Zb (ZP Tryz.f45)).getD 0 .skip
def XT(a0:Zf)(a1:Int)(i_2:Nat):St:=
 ⟨[(1,.lit (.int .i64 a1)),(4,.ptr 0 0),(8,.sl 4 (a0.1.map Zr)),(9,.lit (.int .i64 (a0.1.length:Int))),(10,.lit (.int .i64 (i_2:Int)))],
  [(0,some (.box 26 [.lit (.bool false),.nl 1,.nl 1] false))],1⟩
def Zai(r3:Rat):St:=
 ⟨[(4,.ptr 0 0)],
  [(0,some (.box 26 [.lit (.bool (Zd r3).s),Zc (Zd r3).l1,Zc (Zd r3).l2] false))],1⟩
def ZaO:St:=
 ⟨[(4,.ptr 0 0)],
  [(0,some (.box 26 [.lit (.bool false),.nl 1,.nl 1] false))],1⟩
section
variable {q3 : Rat} {v3 : Int} {a0 : Zf} {a1 : Int} {i_2 : Nat} {n : Nat} {r3 : Rat}
theorem Znw(C1:(i_2:Int)<(a0.1.length:Int))(E2:a0.1[i_2]?=some (v3,q3))(C3:¬v3=a1)(W4:InI ((i_2:Int)+1)):
  Zm 0 (exec Tryz.prog (tab (n+3)) 0 23 (Za 45) big Vo) (Za 45 2) (XT a0 a1 i_2) (XT a0 a1 (i_2+1)):=by
 have C1_:i_2<a0.1.length:=by omega
 obtain ⟨EL2,EG2⟩:=List.getElem?_eq_some_iff.1 E2
 have C3_:(v3==a1)=false:=by simpa using C3
 have W4_:IntKind.i64.wrap ((i_2:Int)+1)=(i_2:Int)+1:=Zq W4.1 W4.2
 unfold Zm
 simp+decide [XT,Zb, Tryz.f45,Vo,C1,C1_,EG2,C3_,W4_]
theorem Zl9(C1:(i_2:Int)<(a0.1.length:Int))(E2:a0.1[i_2]?=some (v3,q3))(C3:v3=a1)(K4:run (n+2) 83 [Zn q3]=some (Zn r3)):
  Zj 0 (exec Tryz.prog (tab (n+3)) 0 23 (Za 45) big Vo) (Za 45 (Zo 2)) (XT a0 a1 i_2) (.ret) (Zai r3):=by
 have C1_:i_2<a0.1.length:=by omega
 obtain ⟨EL2,EG2⟩:=List.getElem?_eq_some_iff.1 E2
 have C3_:(v3==a1)=true:=by rw [C3];simp
 simp only [Zn] at K4
 unfold Zj
 simp+decide [XT,Zb, Tryz.f45,Zai,Vo,C1,C1_,EG2,C3_,K4]
theorem ZpT(C1:¬(i_2:Int)<(a0.1.length:Int)):
  Zj 0 (exec Tryz.prog (tab (n+3)) 0 23 (Za 45) big Vo) (Za 45 (Zo 2)) (XT a0 a1 i_2) (.exit 0) (ZaO):=by
 unfold Zj
 simp+decide [XT,Zb, Tryz.f45,ZaO,Vo,C1]
theorem Zvc(L1:Zk Tryz.prog (tab (n+3)) 0 23 (Za 45) 2 Vo (XT a0 a1 0)=some (.ret,Zai r3)):
  run (n+3) 45 [Ze a0,.lit (.int .i64 a1)]=some (Zn r3):=by
 unfold run fnP
 simp+decide [Tryz.f45]
 rw [Zi (C':=Vo) (e:=(XT a0 a1 0)) ?_ ?_,L1]
 rotate_left
 ·kernel_rfl
 ·simp+decide [XT]
 simp+decide [Zai]
theorem Zuj(L1:Zk Tryz.prog (tab (n+3)) 0 23 (Za 45) 2 Vo (XT a0 a1 0)=some (.exit 0,ZaO)):
  run (n+3) 45 [Ze a0,.lit (.int .i64 a1)]=some (.agg [.lit (.bool false),.sl 1 [],.sl 1 []]):=by
 unfold run fnP
 simp+decide [Tryz.f45]
 rw [Zi (C':=Vo) (e:=(XT a0 a1 0)) ?_ ?_,L1]
 rotate_left
 ·kernel_rfl
 ·simp+decide [XT]
 simp+decide [ZaO]
end
theorem Zv0{n:Nat}{a0:Rat}{r:List Nat}{r2:List Nat}(K1:(oN1 (fun _=>true) fun x=>Zc (lmb (val x))) [Zc (Zd a0).l1]=some (Zc r))(K2:(oN1 (fun _=>true) fun x=>Zc (lmb (val x))) [Zc (Zd a0).l2]=some (Zc r2)):
  run (n+2) 83 [Zn a0]=some (.agg [.lit (.bool (Zd a0).s),Zc r,Zc r2]):=by
 unfold run fnP
 simp+decide [Tryz.f83,K1,K2]
noncomputable def Vx:Code:=(Zb (ZP Tryz.f22)).getD 0 .skip
def XW(a0:Zf)(a1:Int)(i_2:Nat):St:=
 ⟨[(1,.lit (.int .i64 a1)),(2,.ptr 0 0),(4,.ptr 1 0),(5,.lit (.int .i64 (i_2:Int)))],
  [(0,some (.box 28 [.sl 4 (a0.1.map Zr),.lit (.bool (Zd a0.2).s),Zc (Zd a0.2).l1,Zc (Zd a0.2).l2] false)),
   (1,some (.box 26 [.lit (.bool false),.nl 1,.nl 1] false))],2⟩
def Za1(q3:Rat):St:=
 ⟨[(4,.ptr 0 0)],
  [(0,some (.box 26 [.lit (.bool (Zd q3).s),Zc (Zd q3).l1,Zc (Zd q3).l2] false))],1⟩
def J9:St:=
 ⟨[(4,.ptr 0 0)],
  [(0,some (.box 26 [.lit (.bool false),.nl 1,.nl 1] false))],1⟩
section
variable {q3 : Rat} {v3 : Int} {a0 : Zf} {a1 : Int} {i_2 : Nat} {n : Nat}
theorem Zl7(C1:(i_2:Int)<(a0.1.length:Int))(E2:a0.1[i_2]?=some (v3,q3))(C3:¬v3=a1)(W4:InI ((i_2:Int)+1)):
  Zm 0 (exec Tryz.prog (tab n) 0 28 (Za 22) big Vx) (Za 22 2) (XW a0 a1 i_2) (XW a0 a1 (i_2+1)):=by
 have C1_:i_2<a0.1.length:=by omega
 obtain ⟨EL2,EG2⟩:=List.getElem?_eq_some_iff.1 E2
 have C3_:(v3==a1)=false:=by simpa using C3
 have W4_:IntKind.i64.wrap ((i_2:Int)+1)=(i_2:Int)+1:=Zq W4.1 W4.2
 unfold Zm
 simp+decide [XW,Zb, Tryz.f22,Vx,C1,C1_,EG2,C3_,W4_]
theorem ZpD(C1:(i_2:Int)<(a0.1.length:Int))(E2:a0.1[i_2]?=some (v3,q3))(C3:v3=a1):
  Zj 0 (exec Tryz.prog (tab n) 0 28 (Za 22) big Vx) (Za 22 (Zo 2)) (XW a0 a1 i_2) (.ret) (Za1 q3):=by
 have C1_:i_2<a0.1.length:=by omega
 obtain ⟨EL2,EG2⟩:=List.getElem?_eq_some_iff.1 E2
 have C3_:(v3==a1)=true:=by rw [C3];simp
 unfold Zj
 simp+decide [XW,Zb, Tryz.f22,Za1,Vx,C1,C1_,EG2,C3_]
theorem Zm0(C1:¬(i_2:Int)<(a0.1.length:Int)):
  Zj 0 (exec Tryz.prog (tab n) 0 28 (Za 22) big Vx) (Za 22 (Zo 2)) (XW a0 a1 i_2) (.exit 0) (J9):=by
 unfold Zj
 simp+decide [XW,Zb, Tryz.f22,J9,Vx,C1]
theorem Zt9(L1:Zk Tryz.prog (tab n) 0 28 (Za 22) 2 Vx (XW a0 a1 0)=some (.ret,Za1 q3)):
  run n 22 [Ze a0,.lit (.int .i64 a1)]=some (Zn q3):=by
 unfold run fnP
 simp+decide [Tryz.f22]
 rw [Zi (C':=Vx) (e:=(XW a0 a1 0)) ?_ ?_,L1]
 rotate_left
 ·kernel_rfl
 ·simp+decide [XW]
 simp+decide [Za1]
theorem ZvV(L1:Zk Tryz.prog (tab n) 0 28 (Za 22) 2 Vx (XW a0 a1 0)=some (.exit 0,J9)):
  run n 22 [Ze a0,.lit (.int .i64 a1)]=some (.agg [.lit (.bool false),.sl 1 [],.sl 1 []]):=by
 unfold run fnP
 simp+decide [Tryz.f22]
 rw [Zi (C':=Vx) (e:=(XW a0 a1 0)) ?_ ?_,L1]
 rotate_left
 ·kernel_rfl
 ·simp+decide [XW]
 simp+decide [J9]
end
theorem ZuV{n:Nat}{a0:Zf}{a1:Zf}{r:Zf}{r2:Zf}(K2:run (n+2) 41 [Ze a1,Zn (ofQ (-1))]=some (Ze r))(K3:run (n+2) 50 [Ze a0,Ze r]=some (Ze r2)):
  run (n+3) 61 [Ze a0,Ze a1]=some (Ze r2):=by
 have K1:=WD (z:=(-1)) (by omega) (by omega)
 simp only [Zn,Ze] at K2
 simp only [Ze] at K3
 unfold run fnP
 simp+decide [Tryz.f61,K1,K2,K3]
end
section
open Go.RowKit
def Srt(F:List (Int × Rat)):Prop:=F.Pairwise (fun a b=>a.1<b.1)∧∀t∈F,t.2≠0
def LBd(k:Int)(F:List (Int × Rat)):Prop:=∀t∈F,k<t.1
def cof:List (Int × Rat)→Int→Rat
 | [],_=>0
 | t::l,u=>if t.1=u then t.2 else cof l u
theorem Qg(u:Int):cof [] u=0:=rfl
theorem Y7{t:Int × Rat}{F:List (Int × Rat)}{u:Int}(h:u=t.1):cof (t::F) u=t.2:=by unfold cof;rw [if_pos h.symm]
theorem QH{t:Int × Rat}{F:List (Int × Rat)}{u:Int}(h:u≠t.1):cof (t::F) u=cof F u:=by rw [cof,if_neg fun e=>h e.symm]
theorem Srt.nil:Srt []:=⟨List.Pairwise.nil,fun t ht=>by cases ht⟩
theorem Srt.tail{t:Int × Rat}{F:List (Int × Rat)}(h:Srt (t::F)):Srt F:=⟨(List.pairwise_cons.1 h.1).2,fun u hu=>h.2 u (by simp [hu])⟩
theorem Srt.head{t:Int × Rat}{F:List (Int × Rat)}(h:Srt (t::F)):LBd t.1 F:=fun u hu=>(List.pairwise_cons.1 h.1).1 u hu
theorem Srt.nz{t:Int × Rat}{F:List (Int × Rat)}(h:Srt (t::F)):t.2≠0:=h.2 t (by simp)
theorem Va:∀{F:List (Int × Rat)} {u:Int},(∀t∈F,t.1≠u)→cof F u=0
 | [],_,_=>rfl
 | t::F,u,h=>by rw [cof,if_neg (h t (by simp))];exact Va fun x hx=>h x (by simp [hx])
theorem LBd.cof{F:List (Int × Rat)}{k u:Int}(h:LBd k F)(hu:u≤k):cof F u=0:=Va fun t ht e=>by have:=h t ht;omega
theorem LBd.mono{F:List (Int × Rat)}{k j:Int}(h:LBd k F)(hj:j≤k):LBd j F:=fun t ht=>by have:=h t ht;omega
theorem W0{F:List (Int × Rat)}{v:Int}{q:Rat}(h:Srt F)(hl:LBd v F):Srt (Z4 v q++F)∧(∀u,cof (Z4 v q++F) u=if u=v then q else cof F u)∧∀k,k<v→LBd k (Z4 v q++F):=by
 unfold Z4
 split
 ·rename_i h0
  rw [List.nil_append]
  refine ⟨h,fun u=>?_,fun k hk=>hl.mono (by omega)⟩
  split
  ·rename_i e;subst e;rw [hl.cof (Int.le_refl _),h0]
  ·rfl
 ·rename_i h0
  refine ⟨⟨List.pairwise_cons.2 ⟨fun x hx=>hl x hx,h.1⟩,fun t ht=>?_⟩,fun u=>?_,fun k hk t ht=>?_⟩
  ·rcases List.mem_cons.1 ht with rfl|ht
   ·exact h0
   ·exact h.2 t ht
  ·show cof ((v,q)::F) u=_
   rw [cof]
   by_cases e:v=u
   ·rw [if_pos e,if_pos e.symm]
   ·rw [if_neg e,if_neg fun e2=>e e2.symm]
  ·rcases List.mem_cons.1 ht with rfl|ht
   ·exact hk
   ·have:=hl t ht;omega
theorem ZaG:∀{F G:List (Int × Rat)},Srt F→Srt G→(∀u,cof F u=cof G u)→F=G
 | [],[],_,_,_=>rfl
 | [],t::G,_,hg,h=>by
   have:=h t.1
   rw [Qg,Y7 rfl] at this
   exact absurd this.symm hg.nz
 | t::F,[],hf,_,h=>by
   have:=h t.1
   rw [Qg,Y7 rfl] at this
   exact absurd this hf.nz
 | (v,q)::F,(u,p)::G,hf,hg,h=>by
   have e:v=u:=by
    rcases Int.lt_trichotomy v u with h1|h1|h1
    ·have h2:=h v
     rw [Y7 rfl,QH (by dsimp only;omega),hg.head.cof (by dsimp only;omega)] at h2
     exact absurd h2 hf.nz
    ·exact h1
    ·have h2:=h u
     rw [QH (by dsimp only;omega),hf.head.cof (by dsimp only;omega),Y7 rfl] at h2
     exact absurd h2.symm hg.nz
   subst e
   have e2:q=p:=by
    have h2:=h v
    rw [Y7 rfl,Y7 rfl] at h2
    exact h2
   subst e2
   rw [ZaG hf.tail hg.tail fun u=>?_]
   by_cases e:u=v
   ·subst e
    rw [hf.head.cof (Int.le_refl _),hg.head.cof (Int.le_refl _)]
   ·have h2:=h u
    rw [QH e,QH e] at h2
    exact h2
theorem Ja{F:List (Int × Rat)}{v:Int}{c:Rat}(h:LBd v F)(hz:∀t∈F,t.2≠0):ZZ true F v c=F:=by
 induction F with
 | nil=>rfl
 | cons t F ih=>
   have h1:=h t (by simp)
   rw [Zdl (by omega) (.inl rfl),ih (fun x hx=>h x (by simp [hx])) fun x hx=>hz x (by simp [hx])]
   unfold Z4
   rw [if_neg (hz t (by simp))]
   rfl
theorem Zsa{t:Int × Rat}{F:List (Int × Rat)}(h:t.2≠0):Z4 t.1 t.2++F=t::F:=by unfold Z4;rw [if_neg h];rfl
theorem Zcp{v:Int}{c:Rat}:∀{F:List (Int × Rat)},Srt F→Srt (ZZ false F v c)∧(∀u,cof (ZZ false F v c) u=cof F u+if u=v then c else 0)∧∀k,k<v→LBd k F→LBd k (ZZ false F v c)
 | [],h=>by
   have e:ZZ false [] v c=Z4 v c++[]:=by rw [List.append_nil];rfl
   rw [e]
   obtain ⟨h1,h2,h3⟩:=W0 (v:=v) (q:=c) h (fun t ht=>by cases ht)
   refine ⟨h1,fun u=>?_,fun k hk _=>h3 k hk⟩
   rw [h2,Qg]
   split <;>grind
 | t::F,h=>by
   have hd:=h.head
   rcases Int.lt_trichotomy t.1 v with h1|h1|h1
   ·obtain ⟨a1,a2,a3⟩:=Zcp (v:=v) (c:=c) h.tail
    rw [Zdl (by omega) (.inr h1)]
    obtain ⟨b1,b2,b3⟩:=W0 (v:=t.1) (q:=t.2) a1 (a3 _ h1 hd)
    refine ⟨b1,fun u=>?_,fun k hk hl=>b3 k (hl t (by simp))⟩
    rw [b2,a2]
    by_cases e:u=t.1
    ·rw [if_pos e,Y7 e,if_neg (by omega)];grind
    ·rw [if_neg e,QH e]
   ·rw [Zg9 h1,Ja (by rw [←h1];exact hd) h.tail.2]
    obtain ⟨b1,b2,b3⟩:=W0 (v:=t.1) (q:=t.2+c) h.tail hd
    refine ⟨b1,fun u=>?_,fun k hk hl=>b3 k (hl t (by simp))⟩
    rw [b2]
    by_cases e:u=t.1
    ·have e5:u=v:=by omega
     rw [if_pos e,if_pos e5,Y7 e]
    ·have e5:¬u=v:=by omega
     rw [if_neg e,if_neg e5,QH e];grind
   ·rw [Zg1 h1,Ja (hd.mono (by omega)) h.tail.2,Zsa h.nz]
    obtain ⟨b1,b2,b3⟩:=W0 (v:=v) (q:=c) h (fun x hx=>by
     rcases List.mem_cons.1 hx with rfl|hx
     ·exact h1
     ·have:=hd x hx;omega)
    refine ⟨b1,fun u=>?_,fun k hk hl=>b3 k hk⟩
    rw [b2]
    by_cases e:u=v
    ·have e3:cof (t::F) u=0:=Va fun x hx=>by
      rcases List.mem_cons.1 hx with rfl|hx
      ·omega
      ·have:=hd x hx;omega
     rw [if_pos e,if_pos e,e3]
     grind
    ·rw [if_neg e,if_neg e];grind
theorem Za3:∀{G F:List (Int × Rat)},Srt F→Srt G→Srt (X7 F G)∧∀u,cof (X7 F G) u=cof F u+cof G u
 | [],F,hf,_=>⟨hf,fun u=>by rw [Qg];show cof F u=_;grind⟩
 | t::G,F,hf,hg=>by
   obtain ⟨a1,a2,_⟩:=Zcp (v:=t.1) (c:=t.2) hf
   obtain ⟨b1,b2⟩:=Za3 a1 hg.tail
   refine ⟨b1,fun u=>?_⟩
   show cof (X7 (ZZ false F t.1 t.2) G) u=_
   rw [b2,a2]
   by_cases e:u=t.1
   ·rw [if_pos e,Y7 e,hg.head.cof (by omega)];grind
   ·rw [if_neg e,QH e];grind
theorem Wf{c:Rat}:∀(n:Nat) {F G:List (Int × Rat)},F.length+G.length≤n→Srt F→Srt G→Srt (Yl F G c)∧(∀u,cof (Yl F G c) u=cof F u+cof G u*c)∧∀k,LBd k F→LBd k G→LBd k (Yl F G c)
 | n,[],[],_,hf,hg=>by rw [JL];exact ⟨hf,fun u=>by rw [Qg];grind,fun k h _=>h⟩
 | 0,a::F,G,hn,_,_=>by simp at hn
 | 0,[],b::G,hn,_,_=>by simp at hn
 | n+1,a::F,[],hn,hf,hg=>by
   obtain ⟨a1,a2,a3⟩:=Wf (c:=c) n (F:=F) (G:=[]) (by simp at hn ⊢;omega) hf.tail hg
   rw [ZfC]
   obtain ⟨b1,b2,b3⟩:=W0 (v:=a.1) (q:=a.2) a1 (a3 _ hf.head fun t ht=>by cases ht)
   refine ⟨b1,fun u=>?_,fun k h1 _=>b3 k (h1 a (by simp))⟩
   rw [b2,a2]
   by_cases e:u=a.1
   ·rw [if_pos e,Y7 e,Qg];grind
   ·rw [if_neg e,QH e]
 | n+1,[],b::G,hn,hf,hg=>by
   obtain ⟨a1,a2,a3⟩:=Wf (c:=c) n (F:=[]) (G:=G) (by simp at hn ⊢;omega) hf hg.tail
   rw [Zco]
   obtain ⟨b1,b2,b3⟩:=W0 (v:=b.1) (q:=b.2*c) a1 (a3 _ (fun t ht=>by cases ht) hg.head)
   refine ⟨b1,fun u=>?_,fun k _ h1=>b3 k (h1 b (by simp))⟩
   rw [b2,a2]
   by_cases e:u=b.1
   ·rw [if_pos e,Y7 e,Qg];grind
   ·rw [if_neg e,QH e]
 | n+1,a::F,b::G,hn,hf,hg=>by
   simp only [List.length_cons] at hn
   rcases Int.lt_trichotomy a.1 b.1 with h1|h1|h1
   ·obtain ⟨a1,a2,a3⟩:=Wf (c:=c) n (F:=F) (G:=b::G) (by simp;omega) hf.tail hg
    rw [Zeo h1]
    obtain ⟨b1,b2,b3⟩:=W0 (v:=a.1) (q:=a.2) a1 (a3 _ hf.head fun t ht=>by
     rcases List.mem_cons.1 ht with rfl|ht
     ·exact h1
     ·have:=hg.head t ht;omega)
    refine ⟨b1,fun u=>?_,fun k h2 _=>b3 k (h2 a (by simp))⟩
    rw [b2,a2]
    by_cases e:u=a.1
    ·have e3:cof (b::G) u=0:=Va fun x hx=>by
      rcases List.mem_cons.1 hx with rfl|hx
      ·omega
      ·have:=hg.head x hx;omega
     have e4:cof (a::F) u=a.2:=Y7 e
     rw [if_pos e,e3,e4];grind
    ·have e4:cof (a::F) u=cof F u:=QH e
     rw [if_neg e,e4]
   ·obtain ⟨a1,a2,a3⟩:=Wf (c:=c) n (F:=F) (G:=G) (by omega) hf.tail hg.tail
    rw [Zel h1]
    obtain ⟨b1,b2,b3⟩:=W0 (v:=a.1) (q:=a.2+b.2*c) a1 (a3 _ hf.head (by rw [h1];exact hg.head))
    refine ⟨b1,fun u=>?_,fun k h2 _=>b3 k (h2 a (by simp))⟩
    rw [b2,a2]
    by_cases e:u=a.1
    ·rw [if_pos e,Y7 e,Y7 (u:=u) (by omega)]
    ·have e3:cof (b::G) u=cof G u:=QH (by omega)
     have e4:cof (a::F) u=cof F u:=QH e
     rw [if_neg e,e3,e4]
   ·obtain ⟨a1,a2,a3⟩:=Wf (c:=c) n (F:=a::F) (G:=G) (by simp;omega) hf hg.tail
    rw [Zd4 h1]
    obtain ⟨b1,b2,b3⟩:=W0 (v:=b.1) (q:=b.2*c) a1 (a3 _ (fun t ht=>by
     rcases List.mem_cons.1 ht with rfl|ht
     ·exact h1
     ·have:=hf.head t ht;omega) hg.head)
    refine ⟨b1,fun u=>?_,fun k _ h2=>b3 k (h2 b (by simp))⟩
    rw [b2,a2]
    by_cases e:u=b.1
    ·have e3:cof (a::F) u=0:=Va fun x hx=>by
      rcases List.mem_cons.1 hx with rfl|hx
      ·omega
      ·have:=hf.head x hx;omega
     have e4:cof (b::G) u=b.2:=Y7 e
     rw [if_pos e,e3,e4];grind
    ·have e4:cof (b::G) u=cof G u:=QH e
     rw [if_neg e,e4]
theorem Jl(c:Rat):∀(F:List (Int × Rat)),Yl [] F c=Yf F c
 | []=>JL c
 | t::F=>by rw [Zco,Jl c F];simp [Yf]
theorem YH{F:List (Int × Rat)}{c:Rat}(h:Srt F):Srt (Yf F c)∧∀u,cof (Yf F c) u=cof F u*c:=by
 rw [←Jl]
 obtain ⟨a1,a2,_⟩:=Wf (c:=c) _ (Nat.le_refl _) Srt.nil h
 exact ⟨a1,fun u=>by rw [a2,Qg];grind⟩
theorem ZdJ{F G:List (Int × Rat)}{c:Rat}(hf:Srt F)(hg:Srt G):Yl F G c=X7 F (Yf G c):=by
 obtain ⟨a1,a2,_⟩:=Wf (c:=c) _ (Nat.le_refl _) hf hg
 obtain ⟨b1,b2⟩:=YH (c:=c) hg
 obtain ⟨d1,d2⟩:=Za3 hf b1
 exact ZaG a1 d1 fun u=>by rw [a2,d2,b2]
theorem ZrD{F:List (Int × Rat)}(h:Srt F):Yf F 1=F:=ZaG (YH h).1 h fun u=>by rw [(YH h).2];grind
theorem OkFm.srt{f:Zf}{vars:Int}(h:OkFm f vars):Srt f.1∧∀t∈f.1,0≤t.1∧t.1<vars:=by
 have key:∀(i:Nat) (hi:i<f.1.length),0≤(f.1[i]).1∧(f.1[i]).1<vars∧(f.1[i]).2≠0∧∀(h0:0<i),(f.1[i-1]'(by omega)).1<(f.1[i]).1:=fun i hi=>by
  obtain ⟨a1,a2,a3,a4⟩:=h i hi (f.1[i]).1 (f.1[i]).2 (List.getElem?_eq_getElem hi)
  exact ⟨a1,a2,a3,fun h0=>a4 _ (f.1[i-1]'(by omega)).2 h0 (List.getElem?_eq_getElem _)⟩
 have ord:∀(j i:Nat) (hj:j<f.1.length) (hij:i<j),(f.1[i]'(by omega)).1<(f.1[j]).1:=fun j=>by
  induction j with
  | zero=>intro i hj hij;omega
  | succ j ih=>
    intro i hj hij
    have h1:=(key (j+1) hj).2.2.2 (by omega)
    have h2:(f.1[j+1-1]'(by omega))=f.1[j]'(by omega):=rfl
    rw [h2] at h1
    by_cases e:i=j
    ·subst e;exact h1
    ·have:=ih i (by omega) (by omega);omega
 refine ⟨⟨List.pairwise_iff_getElem.2 fun i j hi hj hij=>ord j i hj hij,fun t ht=>?_⟩,fun t ht=>?_⟩
 ·obtain ⟨i,hi,rfl⟩:=List.getElem_of_mem ht
  exact (key i hi).2.2.1
 ·obtain ⟨i,hi,rfl⟩:=List.getElem_of_mem ht
  exact ⟨(key i hi).1,(key i hi).2.1⟩
end
section
open Go.RowKit
attribute [local irreducible] run Zp Zk exec
theorem ZfG{q:Rat}(hq:H q≤17179869184):(oN1 (fun _=>true) fun x=>Zc (lmb (val x))) [Zc (Zd q).l1]=some (Zc (Zd q).l1)∧(oN1 (fun _=>true) fun x=>Zc (lmb (val x))) [Zc (Zd q).l2]=some (Zc (Zd q).l2):=by
 have hb:=Zbn hq
 have e1:lmb (val (Zd q).l1)=(Zd q).l1:=by unfold Zd;dsimp only;rw [Zg]
 have e2:lmb (val (Zd q).l2)=(Zd q).l2:=by
  unfold Zd QK
  dsimp only
  split
  ·decide+kernel
  ·rw [Zg]
 have f1:Xv (Zd q).l1=true:=Nat.ble_eq_true_of_le (by have:=hb.bn;omega)
 have f2:Xv (Zd q).l2=true:=Nat.ble_eq_true_of_le (by have:=hb.bd;omega)
 constructor
 ·simp only [oN1,Y0 hb.n,f1,Bool.and_true,if_true,e1]
 ·simp only [oN1,Y0 hb.d,f2,Bool.and_true,if_true,e2]
theorem ZyR{n:Nat}{q:Rat}(hq:H q≤17179869184):run (n+2) 83 [Zn q]=some (Zn q):=Zv0 (ZfG hq).1 (ZfG hq).2
def Zax(v:Int)(_:Nat)(_:Unit)(t:Int × Rat):Except Rat Unit:=if t.1=v then .error t.2 else .ok ()
theorem Zdf{v:Int}:∀{l:List (Int × Rat)} (i:Nat),XE (Zax v) i () l=(match XE (Zax v) i () l with|.ok _=>.ok ()|.error _=>.error (cof l v))∧((∃u,XE (Zax v) i () l=.ok u)→cof l v=0)
 | [],i=>⟨rfl,fun _=>rfl⟩
 | t::l,i=>by
   obtain ⟨h1,h2⟩:=Zdf (v:=v) (l:=l) (i+1)
   by_cases e:t.1=v
   ·have e1:Zax v i () t=.error t.2:=if_pos e
    have e2:XE (Zax v) i () (t::l)=.error t.2:=by rw [XE,e1]
    rw [e2]
    exact ⟨by rw [cof,if_pos e],fun ⟨u,h⟩=>by cases h⟩
   ·have e1:Zax v i () t=.ok ():=if_neg e
    have e2:XE (Zax v) i () (t::l)=XE (Zax v) (i+1) () l:=by rw [XE,e1]
    have e3:cof (t::l) v=cof l v:=by rw [cof,if_neg e]
    rw [e2,e3]
    exact ⟨h1,h2⟩
theorem Zmb{n:Nat}{f:Zf}{v:Int}(hB:BdF 17179869184 f):run (n+3) 45 [Ze f,.lit (.int .i64 v)]=some (Zn (cof f.1 v)):=by
 have hl:=hB.l
 have L:=Zfn (O:=tab (n+3)) (P:= Tryz.prog) (m:=0) (N:=23) (lives:=Za 45) (r:=2) (C:=Vo) (L:=f.1) (f:=Zax v) (enc:=fun i _=>XT f v i) (exN:=.exit 0) (exE:=.ret) (out:=fun _=>ZaO) (outE:=Zai) (Inv:=fun _ _=>True) () trivial (by omega) (fun h=>by cases h) (fun h=>by cases h)
  (fun i t s hi hI=>by
   obtain ⟨u,c⟩:=t
   have hlt:=(List.getElem?_eq_some_iff.1 hi).1
   unfold Zax
   by_cases e:u=v
   ·rw [if_pos e]
    exact Zl9 (by omega) hi e (ZyR (hB.t _ (List.mem_of_getElem? hi)))
   ·rw [if_neg e]
    exact ⟨Znw (by omega) hi e ⟨by omega,by omega⟩,trivial⟩)
  (fun b hI=>ZpT (by omega))
 obtain ⟨h1,h2⟩:=Zdf (v:=v) (l:=f.1) 0
 have L:=L.1
 cases hE:XE (Zax v) 0 () f.1 with
 | ok s=>
   rw [hE] at L
   rw [h2 ⟨s,hE⟩]
   have h:=Zuj (a1:=v) L
   simpa using h
 | error s=>
   rw [hE] at L h1
   cases h1
   exact Zvc L
theorem Zjk{n:Nat}{f:Zf}{v:Int}(hl:f.1.length≤100000000):run n 22 [Ze f,.lit (.int .i64 v)]=some (Zn (cof f.1 v)):=by
 have L:=Zfn (O:=tab n) (P:= Tryz.prog) (m:=0) (N:=28) (lives:=Za 22) (r:=2) (C:=Vx) (L:=f.1) (f:=Zax v) (enc:=fun i _=>XW f v i) (exN:=.exit 0) (exE:=.ret) (out:=fun _=>J9) (outE:=Za1) (Inv:=fun _ _=>True) () trivial (by omega) (fun h=>by cases h) (fun h=>by cases h)
  (fun i t s hi hI=>by
   obtain ⟨u,c⟩:=t
   have hlt:=(List.getElem?_eq_some_iff.1 hi).1
   unfold Zax
   by_cases e:u=v
   ·rw [if_pos e]
    exact ZpD (by omega) hi e
   ·rw [if_neg e]
    exact ⟨Zl7 (by omega) hi e ⟨by omega,by omega⟩,trivial⟩)
  (fun b hI=>Zm0 (by omega))
 obtain ⟨h1,h2⟩:=Zdf (v:=v) (l:=f.1) 0
 have L:=L.1
 cases hE:XE (Zax v) 0 () f.1 with
 | ok s=>
   rw [hE] at L
   rw [h2 ⟨s,hE⟩]
   have h:=ZvV (a1:=v) L
   simpa using h
 | error s=>
   rw [hE] at L h1
   cases h1
   exact Zt9 L
end
section
set_option maxHeartbeats 1600000
open Go.RowKit
attribute [local irreducible] run Zp Zk exec
theorem Zjj{n:Nat}{l:List Nat}(hL:Lim l):∃(z:Nat) (b:Bool),run n 92 [Zc l]=some (.tup [.lit (.int .i64 (z:Int)),.lit (.bool b)])∧z<4294967296∧(b=true→val l=z∧z≤1073741824):=by
 match l,hL with
 | [],_=>exact ⟨0,true,Zvz rfl,by omega,fun _=>⟨rfl,by omega⟩⟩
 | [x],h=>
   have hx:=h x (by simp)
   refine ⟨x,_,Zv5 (a0:=[x]) (by simp) rfl ⟨by omega,by omega⟩ (by simp),hx,fun hb=>⟨by simp [val],?_⟩⟩
   have:=of_decide_eq_true hb
   omega
 | x::y::l,h=>
   have hx:=h x (by simp)
   exact ⟨x,false,Zt6 (a0:=x::y::l) (by simp;omega) rfl ⟨by omega,by omega⟩ (by simp;omega),hx,fun h=>by cases h⟩
theorem Ztv{n a b:Nat}(ha:a<4611686018427387904)(hb:b<4611686018427387904):run n 93 [.lit (.int .i64 (a:Int)),.lit (.int .i64 (b:Int))]=some (.lit (.int .i64 ((Nat.gcd a b:Nat):Int))):=by
 obtain ⟨ex,t,h1,h2⟩:=Q3 (O:=tab n) (P:= Tryz.prog) (m:=0) (N:=12) (lives:=Za 93) (r:=1) (C:=Vr) (M:=128) (enc:=fun _ (p:Nat × Nat)=>XG (p.1:Int) (p.2:Int))
  (fun i p=>Nat.gcd p.1 p.2=Nat.gcd a b∧p.1<4611686018427387904∧p.2<4611686018427387904∧(i=0∨p.2<p.1∧p.1*p.2*2 ^ (i-1)<21267647932558653966460912964485513216)) (fun ex t=>ex=.exit 0∧t=Wl ((Nat.gcd a b:Nat):Int)) (a,b) ⟨rfl,ha,hb,.inl rfl⟩ (by omega)
  (fun i p _ hI=>by
   obtain ⟨x,y⟩:=p
   obtain ⟨hg,hx,hy,hi⟩:=hI
   dsimp only at hg hx hy hi
   by_cases h0:y=0
   ·right
    subst h0
    rw [Nat.gcd_zero_right] at hg
    exact ⟨.exit 0,Wl (x:Int),by simp,ZcR rfl,rfl,by rw [hg]⟩
   ·left
    have hm:=Nat.mod_lt x (show y >0 by omega)
    refine ⟨(y,x % y),?_,?_,hy,by show x % y<_;omega,.inr ⟨hm,?_⟩⟩
    ·have h9:=ZhU (n:=n) (i_1:=(x:Int)) (i2_1:=(y:Int)) (by omega) (by omega)
     rw [←Int.ofNat_tmod] at h9
     exact h9
    ·show Nat.gcd y (x % y)=_
     rw [Nat.gcd_comm y,←Nat.gcd_rec,Nat.gcd_comm,hg]
    ·show y*(x % y)*2 ^ (i+1-1)<_
     rw [Nat.add_sub_cancel]
     rcases Nat.eq_zero_or_pos i with rfl|hpos
     ·have h8:y*(x % y)≤4611686018427387903*4611686018427387903:=Nat.mul_le_mul (by omega) (by omega)
      omega
     ·rcases hi with h|⟨h5,h6⟩
      ·omega
      obtain ⟨k,rfl⟩:∃k,i=k+1:=⟨i-1,by omega⟩
      rw [Nat.add_sub_cancel] at h6
      have h7:=Nat.div_add_mod x y
      have h8:y≤y*(x / y):=Nat.le_mul_of_pos_right _ (Nat.div_pos (by omega) (by omega))
      have h9:2*(x % y)≤x:=by omega
      have h10:y*(2*(x % y))*2 ^ k≤y*x*2 ^ k:=Nat.mul_le_mul_right _ (Nat.mul_le_mul_left _ h9)
      have e1:y*(x % y)*2 ^ (k+1)=y*(2*(x % y))*2 ^ k:=by rw [Nat.pow_succ];grind
      have e2:x*y*2 ^ k=y*x*2 ^ k:=by rw [Nat.mul_comm x y]
      omega)
  (fun p hI=>by
   obtain ⟨x,y⟩:=p
   obtain ⟨hg,hx,hy,hi⟩:=hI
   dsimp only at hg hx hy hi
   rcases hi with h|⟨h5,h6⟩
   ·omega
   have e:(2:Nat) ^ (128-1)=170141183460469231731687303715884105728:=rfl
   rw [e] at h6
   have h7:x*y=0:=by
    rcases Nat.eq_zero_or_pos (x*y) with h|h
    ·exact h
    ·omega
   rcases Nat.mul_eq_zero.1 h7 with h|h
   ·omega
   subst h
   rw [Nat.gcd_zero_right] at hg
   exact ⟨.exit 0,Wl (x:Int),by simp,ZcR rfl,rfl,by rw [hg]⟩)
 obtain ⟨rfl,rfl⟩:=h2
 exact ZmS h1
theorem JG{l:List Int}{i j:Nat}{v:Int}(hi:i<l.length):(l.set i v).getD j 0=if j=i then v else l.getD j 0:=by
 rw [List.getD_eq_getElem?_getD,List.getElem?_set,List.getD_eq_getElem?_getD]
 by_cases h:i=j
 ·subst h;simp [hi]
 ·rw [if_neg h,if_neg (fun h2=>h h2.symm)]
theorem ZiY{l:List Int}{i:Nat}{x:Int}(h:l[i]?=some x):l.getD i 0=x:=by rw [List.getD_eq_getElem?_getD,h];rfl
theorem Xa{l:List Int}{i:Nat}(h:i<l.length):l[i]?=some (l.getD i 0):=by rw [List.getD_eq_getElem?_getD,List.getElem?_eq_getElem h];rfl
theorem Zhp{l:List Int}{i:Nat}(h:l.length≤i):l.getD i 0=0:=by rw [List.getD_eq_getElem?_getD,List.getElem?_eq_none h];rfl
def ZAA(c R:List Int):Prop:=∃d:Int,0<d∧∀i,c.getD i 0=d*R.getD i 0∧-1073741824≤R.getD i 0∧R.getD i 0≤1073741824
theorem Ztu{n:Nat}{c:List Int}(hc:∀x∈c,-4611686018427387904<x∧x<4611686018427387904)(hl:c.length≤1000000):
  ∃(ok:Bool) (R:List Int),Zp (n+1) 94 [.own 0 c.length] [.row 3 1 (c.map ZG) 0]=some (.lit (.bool ok),[(0,.row 3 1 (R.map ZG) 0)])∧R.length=c.length∧(ok=true→ZAA c R):=by
 obtain ⟨d,L1,hd,hdv⟩:=QJ (O:=tab (n+1)) (P:= Tryz.prog) (m:=1) (N:=53) (lives:=Za 94) (r:=3) (C:=Uz) (exN:=.exit 0) (M:=c.length) (enc:=fun i (d:Nat)=>Wk c (d:Int) i) (out:=fun d=>UC c (d:Int))
  (fun i d=>d<4611686018427387904∧∀j,j<i→(d:Int) ∣ c.getD j 0) 0 ⟨by omega,fun j hj=>absurd hj (by omega)⟩ (by omega) (by simp)
  (fun i d hi hI=>by
   obtain ⟨hd,hv⟩:=hI
   have hx:=Xa hi
   obtain ⟨x,hxx⟩:∃x,c.getD i 0=x:=⟨_,rfl⟩
   rw [hxx] at hx
   have hb:=hc x (List.mem_of_getElem? hx)
   have e:(if x < -x then -x else x)=((x.natAbs:Nat):Int):=by split <;>omega
   have K:=Ztv (n:=n) (a:=x.natAbs) (b:=d) (by omega) hd
   rw [←e] at K
   refine ⟨Nat.gcd x.natAbs d,ZnK (by omega) hi hx ⟨by omega,by omega⟩ K ⟨by omega,by omega⟩,?_,fun j hj=>?_⟩
   ·rcases Nat.eq_zero_or_pos x.natAbs with h|h
    ·rw [h,Nat.gcd_zero_left];exact hd
    ·have:=Nat.gcd_le_left d h
     omega
   ·by_cases h:j=i
    ·subst h;rw [hxx];exact Int.ofNat_dvd_left.2 (Nat.gcd_dvd_left _ _)
    ·exact Int.dvd_trans (Int.ofNat_dvd.2 (Nat.gcd_dvd_right _ _)) (hv j (by omega)))
  (fun d _=>ZnS (by omega))
 obtain ⟨ex,t,L2,hQ⟩:=Q3 (O:=tab (n+1)) (P:= Tryz.prog) (m:=1) (N:=53) (lives:=Za 94) (r:=7) (C:=Y5) (M:=c.length) (enc:=fun i (out:List Int)=>YD out (d:Int) i)
  (fun i out=>out.length=c.length∧(∀j,j<i→c.getD j 0=(if 1<(d:Int) then (d:Int) else 1)*out.getD j 0∧-1073741824≤out.getD j 0∧out.getD j 0≤1073741824)∧∀j,i≤j→out.getD j 0=c.getD j 0)
  (fun ex t=>(ex=.exit 2∧∃R,t=J8 R∧R.length=c.length∧∀j,j<c.length→c.getD j 0=(if 1<(d:Int) then (d:Int) else 1)*R.getD j 0∧-1073741824≤R.getD j 0∧R.getD j 0≤1073741824)∨(ex=.ret∧((∃R,t=UT R∧R.length=c.length)∨∃R k x,t=UV R k x (d:Int)∧R.length=c.length)))
  c ⟨rfl,fun j hj=>absurd hj (by omega),fun _ _=>rfl⟩ (by omega)
  (fun i out hi hI=>by
   obtain ⟨h1,h2,h3⟩:=hI
   have hi2:i<out.length:=by omega
   have hx:=Xa hi2
   obtain ⟨x,hxx⟩:∃x,out.getD i 0=x:=⟨_,rfl⟩
   rw [hxx] at hx
   have hxc:c.getD i 0=x:=by rw [←h3 i (Nat.le_refl _),hxx]
   have hb:=hc x (List.mem_of_getElem? (by rw [Xa hi,hxc]))
   by_cases h9:1<(d:Int)
   ·obtain ⟨y,hy⟩:=hdv i hi
    rw [hxc] at hy
    have hq:x.tdiv (d:Int)=y:=by rw [hy];exact Int.mul_tdiv_cancel_left _ (by omega)
    have hyb:y.natAbs≤x.natAbs:=by
     rw [hy,Int.natAbs_mul]
     exact Nat.le_mul_of_pos_left _ (by omega)
    have E10:(out.set i (x.tdiv (d:Int)))[i]?=some y:=by rw [List.getElem?_set_self hi2,hq]
    by_cases c1:1073741824<y
    ·exact .inr ⟨.ret,_,by simp,ZmN (by omega) h9 hi2 hx (by rw [hq];exact ⟨by omega,by omega⟩) (by omega) E10 c1,.inr ⟨rfl,.inr ⟨_,_,_,rfl,h1⟩⟩⟩
    by_cases c2:y < -1073741824
    ·exact .inr ⟨.ret,_,by simp,Znp (by omega) h9 hi2 hx (by rw [hq];exact ⟨by omega,by omega⟩) (by omega) E10 c1 c2,.inr ⟨rfl,.inr ⟨_,_,_,rfl,h1⟩⟩⟩
    refine .inl ⟨out.set i (x.tdiv (d:Int)),Zp5 (by omega) h9 hi2 hx (by rw [hq];exact ⟨by omega,by omega⟩) (by omega) E10 c1 c2 ⟨by omega,by omega⟩,by rw [List.length_set];exact h1,fun j hj=>?_,fun j hj=>?_⟩
    ·rw [JG hi2]
     by_cases hji:j=i
     ·subst hji
      rw [if_pos rfl,if_pos h9,hxc,hq]
      exact ⟨hy,by omega,by omega⟩
     ·rw [if_neg hji];exact h2 j (by omega)
    ·rw [JG hi2,if_neg (by omega)];exact h3 j (by omega)
   ·by_cases c1:1073741824<x
    ·exact .inr ⟨.ret,_,by simp,ZoM (by omega) h9 hi2 hx c1,.inr ⟨rfl,.inl ⟨_,rfl,h1⟩⟩⟩
    by_cases c2:x < -1073741824
    ·exact .inr ⟨.ret,_,by simp,Zmv (by omega) h9 hi2 hx c1 c2,.inr ⟨rfl,.inl ⟨_,rfl,h1⟩⟩⟩
    refine .inl ⟨out,ZoS (by omega) h9 hi2 hx c1 c2 ⟨by omega,by omega⟩,h1,fun j hj=>?_,fun j hj=>h3 j (by omega)⟩
    by_cases hji:j=i
    ·subst hji
     rw [if_neg h9,hxc,hxx]
     exact ⟨by omega,by omega,by omega⟩
    ·exact h2 j (by omega))
  (fun out hI=>by
   obtain ⟨h1,h2,h3⟩:=hI
   exact ⟨.exit 2,_,by simp,Zm1 (by omega),.inl ⟨rfl,_,rfl,h1,h2⟩⟩)
 rcases hQ with ⟨rfl,R,rfl,hR,hv⟩|⟨rfl,⟨R,rfl,hR⟩|⟨R,k,x,rfl,hR⟩⟩
 ·refine ⟨true,R,Zwm L1 L2,hR,fun _=>⟨if 1<(d:Int) then (d:Int) else 1,?_,fun i=>?_⟩⟩
  ·split <;>omega
  ·by_cases hi:i<c.length
   ·exact hv i hi
   ·rw [Zhp (by omega),Zhp (by omega)]
    exact ⟨by simp,by omega,by omega⟩
 ·exact ⟨false,R,Zwu L1 L2,hR,fun h=>by cases h⟩
 ·exact ⟨false,_,Zuh L1 L2,by rw [List.length_set];exact hR,fun h=>by cases h⟩
end
end Go.Proofs.YtdaonnnlgfhlaaaGreatDoor
