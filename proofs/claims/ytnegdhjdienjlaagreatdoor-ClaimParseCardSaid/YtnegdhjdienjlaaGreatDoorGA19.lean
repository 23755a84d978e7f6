import Derived.Test.YtnegdhjdienjlaaGreatDoorGA18
import Derived.Test.YtnegdhjdienjlaaGreatDoorGA16
import Derived.Test.YtnegdhjdienjlaaGreatDoorGA17
set_option linter.all false
set_option maxHeartbeats 6400000
set_option maxRecDepth 100000
namespace Go.Proofs.YtnegdhjdienjlaaGreatDoor
section
open Go.RowKit
open Lib (decDigits)
attribute [local irreducible] run runL loopG exec
theorem den_pos(q:Rat):0<(lmb q.den).length:=by rw [lmb_pos q.den_pos];simp
end
section
open Go.RowKit
end
section
open Go.RowKit
end
section
open Go.RowKit
end
section
open Go.RowKit
end
section
open Go.RowKit
end
section
open Go.RowKit
open Lib (decDigits)
attribute [local irreducible] run runL loopG exec
structure TxB (f:Form):Prop where
 l:f.1.length≤100
 t:∀t∈f.1,H t.2≤100∧0≤t.1∧t.1<9223372036854775808
 k:H f.2≤100
section
variable {n : Nat}
end
end
section
open Go.RowKit
def Srt(F:List (Int × Rat)):Prop:=F.Pairwise (fun a b=>a.1<b.1)∧∀t∈F,t.2≠0
def LBd(k:Int)(F:List (Int × Rat)):Prop:=∀t∈F,k<t.1
def cof:List (Int × Rat)→Int→Rat
 | [],_=>0
 | t::l,u=>if t.1=u then t.2 else cof l u
theorem cof_nil(u:Int):cof [] u=0:=rfl
theorem cof_hd{t:Int × Rat}{F:List (Int × Rat)}{u:Int}(h:u=t.1):cof (t::F) u=t.2:=by unfold cof;rw [if_pos h.symm]
theorem cof_tl{t:Int × Rat}{F:List (Int × Rat)}{u:Int}(h:u≠t.1):cof (t::F) u=cof F u:=by rw [cof,if_neg fun e=>h e.symm]
theorem Srt.nil:Srt []:=⟨List.Pairwise.nil,fun t ht=>by cases ht⟩
theorem Srt.tail{t:Int × Rat}{F:List (Int × Rat)}(h:Srt (t::F)):Srt F:=⟨(List.pairwise_cons.1 h.1).2,fun u hu=>h.2 u (by simp [hu])⟩
theorem Srt.head{t:Int × Rat}{F:List (Int × Rat)}(h:Srt (t::F)):LBd t.1 F:=fun u hu=>(List.pairwise_cons.1 h.1).1 u hu
theorem Srt.nz{t:Int × Rat}{F:List (Int × Rat)}(h:Srt (t::F)):t.2≠0:=h.2 t (by simp)
theorem cof_low:∀{F:List (Int × Rat)} {u:Int},(∀t∈F,t.1≠u)→cof F u=0
 | [],_,_=>rfl
 | t::F,u,h=>by rw [cof,if_neg (h t (by simp))];exact cof_low fun x hx=>h x (by simp [hx])
theorem LBd.cof{F:List (Int × Rat)}{k u:Int}(h:LBd k F)(hu:u≤k):cof F u=0:=cof_low fun t ht e=>by have:=h t ht;omega
theorem LBd.mono{F:List (Int × Rat)}{k j:Int}(h:LBd k F)(hj:j≤k):LBd j F:=fun t ht=>by have:=h t ht;omega
theorem put_srt{F:List (Int × Rat)}{v:Int}{q:Rat}(h:Srt F)(hl:LBd v F):Srt (put1 v q++F)∧(∀u,cof (put1 v q++F) u=if u=v then q else cof F u)∧∀k,k<v→LBd k (put1 v q++F):=by
 unfold put1
 split
 ·rename_i h0
  rw [List.nil_append]
  refine ⟨h,fun u=>?_,fun k hk=>hl.mono (by omega)⟩
  split
  ·rename_i e;subst e;rw [hl.cof (Int.le_refl _),h0]
  ·rfl
 ·rename_i h0
  refine ⟨⟨List.pairwise_cons.2 ⟨fun x hx=>hl x hx,h.1⟩,fun t ht=>?_⟩,fun u=>?_,fun k hk t ht=>?_⟩
  ·rcases List.mem_cons.1 ht with rfl|ht
   ·exact h0
   ·exact h.2 t ht
  ·show cof ((v,q)::F) u=_
   rw [cof]
   by_cases e:v=u
   ·rw [if_pos e,if_pos e.symm]
   ·rw [if_neg e,if_neg fun e2=>e e2.symm]
  ·rcases List.mem_cons.1 ht with rfl|ht
   ·exact hk
   ·have:=hl t ht;omega
theorem srt_ext:∀{F G:List (Int × Rat)},Srt F→Srt G→(∀u,cof F u=cof G u)→F=G
 | [],[],_,_,_=>rfl
 | [],t::G,_,hg,h=>by
   have:=h t.1
   rw [cof_nil,cof_hd rfl] at this
   exact absurd this.symm hg.nz
 | t::F,[],hf,_,h=>by
   have:=h t.1
   rw [cof_nil,cof_hd rfl] at this
   exact absurd this hf.nz
 | (v,q)::F,(u,p)::G,hf,hg,h=>by
   have e:v=u:=by
    rcases Int.lt_trichotomy v u with h1|h1|h1
    ·have h2:=h v
     rw [cof_hd rfl,cof_tl (by dsimp only;omega),hg.head.cof (by dsimp only;omega)] at h2
     exact absurd h2 hf.nz
    ·exact h1
    ·have h2:=h u
     rw [cof_tl (by dsimp only;omega),hf.head.cof (by dsimp only;omega),cof_hd rfl] at h2
     exact absurd h2.symm hg.nz
   subst e
   have e2:q=p:=by
    have h2:=h v
    rw [cof_hd rfl,cof_hd rfl] at h2
    exact h2
   subst e2
   rw [srt_ext hf.tail hg.tail fun u=>?_]
   by_cases e:u=v
   ·subst e
    rw [hf.head.cof (Int.le_refl _),hg.head.cof (Int.le_refl _)]
   ·have h2:=h u
    rw [cof_tl e,cof_tl e] at h2
    exact h2
theorem plus_done{F:List (Int × Rat)}{v:Int}{c:Rat}(h:LBd v F)(hz:∀t∈F,t.2≠0):plusV true F v c=F:=by
 induction F with
 | nil=>rfl
 | cons t F ih=>
   have h1:=h t (by simp)
   rw [plusV_lt (by omega) (.inl rfl),ih (fun x hx=>h x (by simp [hx])) fun x hx=>hz x (by simp [hx])]
   unfold put1
   rw [if_neg (hz t (by simp))]
   rfl
theorem put_one{t:Int × Rat}{F:List (Int × Rat)}(h:t.2≠0):put1 t.1 t.2++F=t::F:=by unfold put1;rw [if_neg h];rfl
theorem plus_srt{v:Int}{c:Rat}:∀{F:List (Int × Rat)},Srt F→Srt (plusV false F v c)∧(∀u,cof (plusV false F v c) u=cof F u+if u=v then c else 0)∧∀k,k<v→LBd k F→LBd k (plusV false F v c)
 | [],h=>by
   have e:plusV false [] v c=put1 v c++[]:=by rw [List.append_nil];rfl
   rw [e]
   obtain ⟨h1,h2,h3⟩:=put_srt (v:=v) (q:=c) h (fun t ht=>by cases ht)
   refine ⟨h1,fun u=>?_,fun k hk _=>h3 k hk⟩
   rw [h2,cof_nil]
   split <;>grind
 | t::F,h=>by
   have hd:=h.head
   rcases Int.lt_trichotomy t.1 v with h1|h1|h1
   ·obtain ⟨a1,a2,a3⟩:=plus_srt (v:=v) (c:=c) h.tail
    rw [plusV_lt (by omega) (.inr h1)]
    obtain ⟨b1,b2,b3⟩:=put_srt (v:=t.1) (q:=t.2) a1 (a3 _ h1 hd)
    refine ⟨b1,fun u=>?_,fun k hk hl=>b3 k (hl t (by simp))⟩
    rw [b2,a2]
    by_cases e:u=t.1
    ·rw [if_pos e,cof_hd e,if_neg (by omega)];grind
    ·rw [if_neg e,cof_tl e]
   ·rw [plusV_eq h1,plus_done (by rw [←h1];exact hd) h.tail.2]
    obtain ⟨b1,b2,b3⟩:=put_srt (v:=t.1) (q:=t.2+c) h.tail hd
    refine ⟨b1,fun u=>?_,fun k hk hl=>b3 k (hl t (by simp))⟩
    rw [b2]
    by_cases e:u=t.1
    ·have e5:u=v:=by omega
     rw [if_pos e,if_pos e5,cof_hd e]
    ·have e5:¬u=v:=by omega
     rw [if_neg e,if_neg e5,cof_tl e];grind
   ·rw [plusV_gt h1,plus_done (hd.mono (by omega)) h.tail.2,put_one h.nz]
    obtain ⟨b1,b2,b3⟩:=put_srt (v:=v) (q:=c) h (fun x hx=>by
     rcases List.mem_cons.1 hx with rfl|hx
     ·exact h1
     ·have:=hd x hx;omega)
    refine ⟨b1,fun u=>?_,fun k hk hl=>b3 k hk⟩
    rw [b2]
    by_cases e:u=v
    ·have e3:cof (t::F) u=0:=cof_low fun x hx=>by
      rcases List.mem_cons.1 hx with rfl|hx
      ·omega
      ·have:=hd x hx;omega
     rw [if_pos e,if_pos e,e3]
     grind
    ·rw [if_neg e,if_neg e];grind
theorem add_srt:∀{G F:List (Int × Rat)},Srt F→Srt G→Srt (addV F G)∧∀u,cof (addV F G) u=cof F u+cof G u
 | [],F,hf,_=>⟨hf,fun u=>by rw [cof_nil];show cof F u=_;grind⟩
 | t::G,F,hf,hg=>by
   obtain ⟨a1,a2,_⟩:=plus_srt (v:=t.1) (c:=t.2) hf
   obtain ⟨b1,b2⟩:=add_srt a1 hg.tail
   refine ⟨b1,fun u=>?_⟩
   show cof (addV (plusV false F t.1 t.2) G) u=_
   rw [b2,a2]
   by_cases e:u=t.1
   ·rw [if_pos e,cof_hd e,hg.head.cof (by omega)];grind
   ·rw [if_neg e,cof_tl e];grind
theorem merge_srt{c:Rat}:∀(n:Nat) {F G:List (Int × Rat)},F.length+G.length≤n→Srt F→Srt G→Srt (mergeV F G c)∧(∀u,cof (mergeV F G c) u=cof F u+cof G u*c)∧∀k,LBd k F→LBd k G→LBd k (mergeV F G c)
 | n,[],[],_,hf,hg=>by rw [mergeV_nil];exact ⟨hf,fun u=>by rw [cof_nil];grind,fun k h _=>h⟩
 | 0,a::F,G,hn,_,_=>by simp at hn
 | 0,[],b::G,hn,_,_=>by simp at hn
 | n+1,a::F,[],hn,hf,hg=>by
   obtain ⟨a1,a2,a3⟩:=merge_srt (c:=c) n (F:=F) (G:=[]) (by simp at hn ⊢;omega) hf.tail hg
   rw [mergeV_a]
   obtain ⟨b1,b2,b3⟩:=put_srt (v:=a.1) (q:=a.2) a1 (a3 _ hf.head fun t ht=>by cases ht)
   refine ⟨b1,fun u=>?_,fun k h1 _=>b3 k (h1 a (by simp))⟩
   rw [b2,a2]
   by_cases e:u=a.1
   ·rw [if_pos e,cof_hd e,cof_nil];grind
   ·rw [if_neg e,cof_tl e]
 | n+1,[],b::G,hn,hf,hg=>by
   obtain ⟨a1,a2,a3⟩:=merge_srt (c:=c) n (F:=[]) (G:=G) (by simp at hn ⊢;omega) hf hg.tail
   rw [mergeV_b]
   obtain ⟨b1,b2,b3⟩:=put_srt (v:=b.1) (q:=b.2*c) a1 (a3 _ (fun t ht=>by cases ht) hg.head)
   refine ⟨b1,fun u=>?_,fun k _ h1=>b3 k (h1 b (by simp))⟩
   rw [b2,a2]
   by_cases e:u=b.1
   ·rw [if_pos e,cof_hd e,cof_nil];grind
   ·rw [if_neg e,cof_tl e]
 | n+1,a::F,b::G,hn,hf,hg=>by
   simp only [List.length_cons] at hn
   rcases Int.lt_trichotomy a.1 b.1 with h1|h1|h1
   ·obtain ⟨a1,a2,a3⟩:=merge_srt (c:=c) n (F:=F) (G:=b::G) (by simp;omega) hf.tail hg
    rw [mergeV_lt h1]
    obtain ⟨b1,b2,b3⟩:=put_srt (v:=a.1) (q:=a.2) a1 (a3 _ hf.head fun t ht=>by
     rcases List.mem_cons.1 ht with rfl|ht
     ·exact h1
     ·have:=hg.head t ht;omega)
    refine ⟨b1,fun u=>?_,fun k h2 _=>b3 k (h2 a (by simp))⟩
    rw [b2,a2]
    by_cases e:u=a.1
    ·have e3:cof (b::G) u=0:=cof_low fun x hx=>by
      rcases List.mem_cons.1 hx with rfl|hx
      ·omega
      ·have:=hg.head x hx;omega
     have e4:cof (a::F) u=a.2:=cof_hd e
     rw [if_pos e,e3,e4];grind
    ·have e4:cof (a::F) u=cof F u:=cof_tl e
     rw [if_neg e,e4]
   ·obtain ⟨a1,a2,a3⟩:=merge_srt (c:=c) n (F:=F) (G:=G) (by omega) hf.tail hg.tail
    rw [mergeV_eq h1]
    obtain ⟨b1,b2,b3⟩:=put_srt (v:=a.1) (q:=a.2+b.2*c) a1 (a3 _ hf.head (by rw [h1];exact hg.head))
    refine ⟨b1,fun u=>?_,fun k h2 _=>b3 k (h2 a (by simp))⟩
    rw [b2,a2]
    by_cases e:u=a.1
    ·rw [if_pos e,cof_hd e,cof_hd (u:=u) (by omega)]
    ·have e3:cof (b::G) u=cof G u:=cof_tl (by omega)
     have e4:cof (a::F) u=cof F u:=cof_tl e
     rw [if_neg e,e3,e4]
   ·obtain ⟨a1,a2,a3⟩:=merge_srt (c:=c) n (F:=a::F) (G:=G) (by simp;omega) hf hg.tail
    rw [mergeV_gt h1]
    obtain ⟨b1,b2,b3⟩:=put_srt (v:=b.1) (q:=b.2*c) a1 (a3 _ (fun t ht=>by
     rcases List.mem_cons.1 ht with rfl|ht
     ·exact h1
     ·have:=hf.head t ht;omega) hg.head)
    refine ⟨b1,fun u=>?_,fun k _ h2=>b3 k (h2 b (by simp))⟩
    rw [b2,a2]
    by_cases e:u=b.1
    ·have e3:cof (a::F) u=0:=cof_low fun x hx=>by
      rcases List.mem_cons.1 hx with rfl|hx
      ·omega
      ·have:=hf.head x hx;omega
     have e4:cof (b::G) u=b.2:=cof_hd e
     rw [if_pos e,e3,e4];grind
    ·have e4:cof (b::G) u=cof G u:=cof_tl e
     rw [if_neg e,e4]
theorem merge_scl(c:Rat):∀(F:List (Int × Rat)),mergeV [] F c=sclV F c
 | []=>mergeV_nil c
 | t::F=>by rw [mergeV_b,merge_scl c F];simp [sclV]
theorem scl_srt{F:List (Int × Rat)}{c:Rat}(h:Srt F):Srt (sclV F c)∧∀u,cof (sclV F c) u=cof F u*c:=by
 rw [←merge_scl]
 obtain ⟨a1,a2,_⟩:=merge_srt (c:=c) _ (Nat.le_refl _) Srt.nil h
 exact ⟨a1,fun u=>by rw [a2,cof_nil];grind⟩
theorem merge_add{F G:List (Int × Rat)}{c:Rat}(hf:Srt F)(hg:Srt G):mergeV F G c=addV F (sclV G c):=by
 obtain ⟨a1,a2,_⟩:=merge_srt (c:=c) _ (Nat.le_refl _) hf hg
 obtain ⟨b1,b2⟩:=scl_srt (c:=c) hg
 obtain ⟨d1,d2⟩:=add_srt hf b1
 exact srt_ext a1 d1 fun u=>by rw [a2,d2,b2]
end
end Go.Proofs.YtnegdhjdienjlaaGreatDoor
