import Derived.Test.YtnegdhjdienjlaaGreatDoorGB18
import Derived.Test.YtnegdhjdienjlaaGreatDoorGB16
import Derived.Test.YtnegdhjdienjlaaGreatDoorGB17
set_option linter.all false
set_option maxHeartbeats 6400000
set_option maxRecDepth 100000
namespace Go.Proofs.YtnegdhjdienjlaaGreatDoor
section
open Go.RowKit
open Lib (decDigits)
def skL:List UInt8→List UInt8
 | []=>[]
 | c::l=>if c=32 then skL l else c::l
def isD(c:UInt8):Bool:=decide (48≤c.toNat∧c.toNat≤57)
def dgL:Nat→List UInt8→Nat→Nat × List UInt8
 | 0,l,n=>(n,l)
 | _+1,[],n=>(n,[])
 | k+1,c::l,n=>if isD c=true then dgL k l (n*10+(c.toNat-48)) else (n,c::l)
def nmL(zero:Bool)(most:Nat):List UInt8→Option (Nat × List UInt8)
 | []=>none
 | c::l=>if isD c=true then (if c=48 then (if zero=true then some (0,l) else none) else some (dgL most (c::l) 0)) else none
def qv(neg:Bool)(a d:Nat):Rat:=mkRat (sgi neg a) d
def vaL(f:Form)(q:Rat)(l:List UInt8):Except (List UInt8) (Form × List UInt8):=
 match nmL true 9 l with
 | none=>.error l
 | some (v,r)=>.ok ((plusV false f.1 (v:Int) q,f.2),r)
def afL(f:Form)(q:Rat):List UInt8→Except (List UInt8) (Form × List UInt8)
 | []=>.ok ((f.1,f.2+q),[])
 | c::r=>if c=42 then (match skL r with
    | []=>.error []
    | c2::r2=>if c2=120 then vaL f q r2 else .error (c2::r2)) else .ok ((f.1,f.2+q),c::r)
def deL(f:Form)(neg:Bool)(a:Nat):List UInt8→Except (List UInt8) (Form × List UInt8)
 | []=>afL f (qv neg a 1) []
 | c::r=>if c=47 then (match nmL false 200 (skL r) with
    | none=>.error (skL r)
    | some (d,r3)=>afL f (qv neg a d) (skL r3)) else afL f (qv neg a 1) (c::r)
def nuL(f:Form)(neg:Bool)(l:List UInt8):Except (List UInt8) (Form × List UInt8):=
 match nmL true 200 l with
 | none=>.error l
 | some (a,r)=>deL f neg a (skL r)
def paL(f:Form)(neg:Bool):List UInt8→Except (List UInt8) (Form × List UInt8)
 | []=>nuL f neg []
 | c::r=>if c=120 then vaL f (qv neg 1 1) r else nuL f neg (c::r)
def psL:Nat→Form→Bool→List UInt8→Except (List UInt8) Form
 | 0,_,_,l=>.error l
 | k+1,f,neg,l=>match paL f neg (skL l) with
   | .error r=>.error r
   | .ok (g,r)=>match skL r with
     | []=>.ok g
     | c::r2=>if c=43∨c=45 then psL k g (decide (c=45)) r2 else .error (c::r2)
def psT(l:List UInt8):Except (List UInt8) Form:=
 match skL l with
 | []=>psL (l.length+1) ([],0) false []
 | c::r=>if c=43∨c=45 then psL (l.length+1) ([],0) (decide (c=45)) r else psL (l.length+1) ([],0) false (c::r)
theorem skL_ne{c:UInt8}{l:List UInt8}(h:c≠32):skL (c::l)=c::l:=by rw [skL,if_neg h]
theorem skL_b(l:List UInt8):skL (32::l)=skL l:=by rw [skL,if_pos rfl]
def NoD:List UInt8→Prop
 | []=>True
 | c::_=>isD c=false
def dgV(D:List UInt8)(n:Nat):Nat:=D.foldl (fun n c=>n*10+(c.toNat-48)) n
theorem dgL_run:∀(D:List UInt8) (k n:Nat) (r:List UInt8),(∀c∈D,isD c=true)→D.length≤k→NoD r→dgL k (D++r) n=(dgV D n,r)
 | [],0,n,r,_,_,_=>by rw [List.nil_append,dgL];rfl
 | [],k+1,n,[],_,_,_=>rfl
 | [],k+1,n,c::r,_,_,h=>by
   have h2:isD c=false:=h
   rw [List.nil_append,dgL,h2];rfl
 | c::D,0,n,r,_,h,_=>by simp at h
 | c::D,k+1,n,r,hD,hl,hr=>by
   rw [List.cons_append,dgL,if_pos (hD c (by simp)),dgL_run D k _ r (fun x hx=>hD x (by simp [hx])) (by simp at hl;omega) hr]
   rfl
theorem dig_nat{k:Nat}(h:k<10):(dig k).toNat=48+k:=by
 unfold dig
 rw [UInt8.toNat_ofNat']
 omega
theorem dig_d{k:Nat}(h:k<10):isD (dig k)=true:=by
 unfold isD
 rw [dig_nat h]
 simp;omega
theorem dd_d:∀(m u:Nat),u≤m→(∀c∈decDigits u,isD c=true)∧dgV (decDigits u) 0=u∧(0<u→∃c r,decDigits u=c::r∧c≠48)
 | m,u,hm=>by
   by_cases h:u<10
   ·rw [dd_lt h]
    refine ⟨fun c hc=>by rw [List.mem_singleton.1 hc];exact dig_d h,?_,fun h0=>⟨dig u,[],rfl,fun e=>?_⟩⟩
    ·show 0*10+((dig u).toNat-48)=u
     rw [dig_nat h];omega
    ·have:=dig_nat h
     rw [e] at this
     have e2:(48:UInt8).toNat=48:=rfl
     omega
   ·cases m with
    | zero=>omega
    | succ m=>
      obtain ⟨a1,a2,a3⟩:=dd_d m (u / 10) (by omega)
      obtain ⟨c,r,e,hc⟩:=a3 (by omega)
      rw [dd_ge h]
      have hr:u % 10<10:=Nat.mod_lt _ (by omega)
      refine ⟨fun c hc=>?_,?_,fun _=>⟨c,r++[dig (u % 10)],by rw [e];rfl,hc⟩⟩
      ·rcases List.mem_append.1 hc with h1|h1
       ·exact a1 c h1
       ·rw [List.mem_singleton.1 h1];exact dig_d hr
      ·unfold dgV at a2 ⊢
       rw [List.foldl_append,a2]
       show u / 10*10+((dig (u % 10)).toNat-48)=u
       rw [dig_nat hr];omega
theorem nmL_dd{zero:Bool}{most u:Nat}{r:List UInt8}(hl:(decDigits u).length≤most)(hr:NoD r)(h0:zero=true∨0<u):nmL zero most (decDigits u++r)=some (u,r):=by
 obtain ⟨a1,a2,a3⟩:=dd_d u u (Nat.le_refl _)
 by_cases h:0<u
 ·obtain ⟨c,D,e,hc⟩:=a3 h
  have hd:=a1 c (by rw [e];simp)
  have hrun:=dgL_run (decDigits u) most 0 r a1 hl hr
  rw [a2] at hrun
  rw [e,List.cons_append] at hrun ⊢
  rw [nmL,if_pos hd,if_neg hc,hrun]
 ·have:u=0:=by omega
  subst this
  rcases h0 with h0|h0
  ·subst h0
   rw [dd_lt (by omega)]
   show nmL true most (dig 0::r)=_
   have e:dig 0=48:=rfl
   rw [nmL,if_pos (dig_d (by omega)),if_pos e,if_pos rfl]
  ·omega
theorem noD_c{c:UInt8}{l:List UInt8}(h:¬(48≤c.toNat∧c.toNat≤57)):NoD (c::l):=by
 show isD c=false
 unfold isD
 rw [decide_eq_false h]
theorem qv_of(q:Rat):qv (ngT q) q.num.natAbs q.den=q:=by
 unfold qv ngT
 rw [(rawQ_parts q).2.2]
 exact rat_back q
def End:List UInt8→Prop
 | []=>True
 | c::_=>c=32
theorem End.noD{l:List UInt8}(h:End l):NoD l:=by
 cases l with
 | nil=>trivial
 | cons c l=>
   have:c=32:=h
   subst this
   exact noD_c (by decide)
structure NB (q:Rat):Prop where
 n:(decDigits q.num.natAbs).length≤200
 d:(decDigits q.den).length≤200
theorem nu_abs{f:Form}{q:Rat}{r:List UInt8}(hq:NB q)(hr:NoD r)(hs:∀c l,skL r=c::l→c≠47):
  nuL f (ngT q) (absT q++r)=afL f q (skL r):=by
 have hqv:=qv_of q
 unfold nuL absT
 by_cases h:q.den=1
 ·rw [if_pos h,List.append_nil,nmL_dd hq.n hr (.inl rfl)]
  dsimp only
  rw [h] at hqv
  cases e:skL r with
  | nil=>rw [deL,hqv]
  | cons c l=>rw [deL,if_neg (hs c l e),hqv]
 ·rw [if_neg h,List.append_assoc,List.cons_append,nmL_dd hq.n (noD_c (by decide)) (.inl rfl)]
  dsimp only
  have hd:=q.den_pos
  obtain ⟨c,D,e,hc⟩:=(dd_d q.den q.den (Nat.le_refl _)).2.2 hd
  have hdig:=(dd_d q.den q.den (Nat.le_refl _)).1 c (by rw [e];simp)
  have hsk:skL (decDigits q.den++r)=decDigits q.den++r:=by
   rw [e,List.cons_append]
   refine skL_ne fun e2=>?_
   rw [e2] at hdig
   exact absurd hdig (by decide)
  rw [skL_ne (by decide),deL,if_pos rfl,hsk,nmL_dd hq.d hr (.inr hd)]
  dsimp only
  rw [hqv]
theorem absT_hd(q:Rat)(r:List UInt8):∃c l,absT q++r=c::l∧isD c=true:=by
 unfold absT
 cases e:decDigits q.num.natAbs with
 | nil=>exact absurd e (dd_ne _)
 | cons c D=>
   have:=(dd_d q.num.natAbs q.num.natAbs (Nat.le_refl _)).1 c (by rw [e];simp)
   exact ⟨c,_,rfl,this⟩
theorem isD_ne{c d:UInt8}(h:isD c=true)(hd:isD d=false):c≠d:=fun e=>by rw [e,hd] at h;cases h
theorem pa_prt{f:Form}{t:Int × Rat}{r:List UInt8}(hq:NB t.2)(h0:0≤t.1)(hv:(decDigits t.1.toNat).length≤9)(hr:NoD r)(hs:∀c l,skL r=c::l→c≠47):
  skL (prt t++r)=prt t++r∧paL f (ngT t.2) (prt t++r)=.ok ((plusV false f.1 t.1 t.2,f.2),r):=by
 have hva:∀q,vaL f q (decDigits t.1.toNat++r)=.ok ((plusV false f.1 t.1 q,f.2),r):=fun q=>by
  unfold vaL
  rw [nmL_dd hv hr (.inl rfl)]
  dsimp only
  rw [show ((t.1.toNat:Nat):Int)=t.1 from by omega]
 unfold prt
 by_cases h:absT t.2=[49]
 ·rw [if_pos h,List.nil_append,List.cons_append]
  refine ⟨skL_ne (by decide),?_⟩
  rw [paL,if_pos rfl]
  have e:qv (ngT t.2) 1 1=t.2:=by
   have h1:=qv_of t.2
   have hn:t.2.num.natAbs=1∧t.2.den=1:=by
    unfold absT at h
    have hd:t.2.den=1:=by
     false_or_by_contra
     rename_i h2
     rw [if_neg h2] at h
     have:=congrArg List.length h
     rw [List.length_append,List.length_cons,List.length_singleton] at this
     have:=dd_pos t.2.num.natAbs
     omega
    rw [if_pos hd,List.append_nil] at h
    have:=(dd_d t.2.num.natAbs t.2.num.natAbs (Nat.le_refl _)).2.1
    rw [h] at this
    exact ⟨this.symm,hd⟩
   rw [hn.1,hn.2] at h1
   exact h1
  rw [e,hva]
 ·rw [if_neg h,List.append_assoc,List.append_assoc,List.cons_append,List.cons_append,List.nil_append]
  obtain ⟨c,l,e,hc⟩:=absT_hd t.2 (42::120::(decDigits t.1.toNat++r))
  have hn:=nu_abs (f:=f) hq (r:=42::120::(decDigits t.1.toNat++r)) (noD_c (by decide)) (fun c l e=>by rw [skL_ne (by decide)] at e;cases e;decide)
  rw [e] at hn ⊢
  refine ⟨skL_ne (isD_ne hc (by decide)),?_⟩
  rw [paL,if_neg (isD_ne hc (by decide)),hn,skL_ne (by decide),afL,if_pos rfl,skL_ne (by decide)]
  dsimp only
  rw [if_pos rfl,hva]
theorem pa_abs{f:Form}{q:Rat}{r:List UInt8}(hq:NB q)(hr:End r)(hs:∀c l,skL r=c::l→c≠47∧c≠42):
  skL (absT q++r)=absT q++r∧paL f (ngT q) (absT q++r)=.ok ((f.1,f.2+q),skL r):=by
 obtain ⟨c,l,e,hc⟩:=absT_hd q r
 have hn:=nu_abs (f:=f) hq (r:=r) hr.noD (fun c l e=>(hs c l e).1)
 rw [e] at hn ⊢
 refine ⟨skL_ne (isD_ne hc (by decide)),?_⟩
 rw [paL,if_neg (isD_ne hc (by decide)),hn]
 cases e2:skL r with
 | nil=>rw [afL]
 | cons c l=>rw [afL,if_neg (hs c l e2).2]
def tlT(c:Rat):List (Int × Rat)→List UInt8
 | []=>if c≠0 then (if ngT c=true then [32,45,32] else [32,43,32])++absT c else []
 | t::l=>((if ngT t.2=true then [32,45,32] else [32,43,32])++prt t)++tlT c l
def sumP(f:Form)(c:Rat):List (Int × Rat)→Form
 | []=>(f.1,f.2+c)
 | t::l=>sumP (plusV false f.1 t.1 t.2,f.2) c l
structure TmN (t:Int × Rat):Prop where
 q:NB t.2
 v0:0≤t.1
 v:(decDigits t.1.toNat).length≤9
def coL(k:Nat)(f:Form)(l:List UInt8):Except (List UInt8) Form:=
 match skL l with
 | []=>.ok f
 | d::r2=>if d=43∨d=45 then psL k f (decide (d=45)) r2 else .error (d::r2)
theorem coL_s{k:Nat}{f:Form}{d:UInt8}{r:List UInt8}(h:d=43∨d=45):coL k f (32::d::r)=psL k f (decide (d=45)) r:=by
 have hd:d≠32:=by rcases h with rfl|rfl <;>decide
 unfold coL
 rw [skL_b,skL_ne hd]
 dsimp only
 rw [if_pos h]
theorem txL_tl(c:Rat):∀(l:List (Int × Rat)) (a:List UInt8),a≠[]→(if c≠0∨l.foldl txS a=[] then jn (l.foldl txS a) (ngT c) (absT c) else l.foldl txS a)=a++tlT c l
 | [],a,h=>by
   rw [List.foldl_nil]
   unfold tlT jn
   rw [if_neg h]
   by_cases hc:c=0
   ·rw [if_neg (by intro e;rcases e with e|e;exact e hc;exact h e),if_neg (fun e=>e hc),List.append_nil]
   ·rw [if_pos (.inl hc),if_pos hc]
 | t::l,a,h=>by
   rw [List.foldl_cons,txL_tl c l (txS a t) (jn_ne (prt_ne t))]
   show txS a t++tlT c l=a++(((if ngT t.2=true then [32,45,32] else [32,43,32])++prt t)++tlT c l)
   unfold txS jn
   rw [if_neg h,List.append_assoc]
theorem sgn_first{k:Nat}{neg:Bool}{p r:List UInt8}(hp:∃c l,p++r=c::l∧c≠32∧c≠43∧c≠45):
  psT ((if neg=true then 45::p else p)++r)=psL (((if neg=true then 45::p else p)++r).length+1) ([],0) neg (p++r):=by
 obtain ⟨c,l,e,h1,h2,h3⟩:=hp
 unfold psT
 cases neg with
 | true=>
   rw [if_pos rfl,List.cons_append,skL_ne (by decide)]
   dsimp only
   rw [if_pos (.inr rfl)];rfl
 | false=>
   rw [if_neg (by simp),e,skL_ne h1]
   dsimp only
   rw [if_neg (by intro e;rcases e with e|e;exact h2 e;exact h3 e)]
theorem prt_hd(t:Int × Rat)(r:List UInt8):∃c l,prt t++r=c::l∧c≠32∧c≠43∧c≠45:=by
 unfold prt
 split
 ·exact ⟨120,_,rfl,by decide,by decide,by decide⟩
 ·obtain ⟨c,l,e,hc⟩:=absT_hd t.2 ([42]++(120::decDigits t.1.toNat++r))
  refine ⟨c,l,?_,isD_ne hc (by decide),isD_ne hc (by decide),isD_ne hc (by decide)⟩
  rw [←e];simp
theorem plus_at:∀{F:List (Int × Rat)} {v:Int} {q:Rat},(∀t∈F,t.1<v∧t.2≠0)→q≠0→plusV false F v q=F++[(v,q)]
 | [],v,q,_,h=>by
   show put1 v q=_
   unfold put1;rw [if_neg h];rfl
 | t::F,v,q,hF,h=>by
   have h0:=hF t (by simp)
   rw [plusV_lt (by omega) (.inr h0.1),plus_at (fun u hu=>hF u (by simp [hu])) h]
   unfold put1;rw [if_neg h0.2];rfl
theorem sum_srt(c:Rat):∀(l:List (Int × Rat)) (f:Form),Srt (f.1++l)→sumP f c l=(f.1++l,f.2+c)
 | [],f,_=>by rw [sumP,List.append_nil]
 | t::l,f,h=>by
   have hF:∀u∈f.1,u.1<t.1∧u.2≠0:=fun u hu=>⟨(List.pairwise_append.1 h.1).2.2 u hu t (by simp),h.2 u (by simp [hu])⟩
   rw [sumP,plus_at hF (h.2 t (by simp)),sum_srt c l (f.1++[(t.1,t.2)],f.2) (by rw [List.append_assoc];exact h)]
   simp
end
section
open Go.RowKit
open Lib (decDigits)
theorem skE_end{e:List UInt8}(he:skL e=[]):End e:=by
 cases e with
 | nil=>trivial
 | cons c l=>
   show c=32
   false_or_by_contra
   rename_i h
   rw [skL_ne h] at he
   cases he
theorem tl_endb{c:Rat}(l:List (Int × Rat)){e:List UInt8}(he:skL e=[]):End (tlT c l++e)∧∀d r,skL (tlT c l++e)=d::r→d≠47∧d≠42:=by
 have key:∀(s:UInt8) (x:List UInt8),s=45∨s=43→End (32::s::x)∧∀d r,skL (32::s::x)=d::r→d≠47∧d≠42:=fun s x hs=>by
  refine ⟨rfl,fun d r h=>?_⟩
  rw [skL_b] at h
  rcases hs with rfl|rfl
  ·rw [skL_ne (by decide)] at h;cases h;decide
  ·rw [skL_ne (by decide)] at h;cases h;decide
 cases l with
 | nil=>
   unfold tlT
   split
   ·split
    ·exact key 45 _ (.inl rfl)
    ·exact key 43 _ (.inr rfl)
   ·exact ⟨skE_end he,fun d r h=>by rw [List.nil_append,he] at h;cases h⟩
 | cons t l=>
   unfold tlT
   split
   ·exact key 45 _ (.inl rfl)
   ·exact key 43 _ (.inr rfl)
theorem ps_tlb{c:Rat}(hc:NB c){e:List UInt8}(he:skL e=[]):∀(l:List (Int × Rat)) (k:Nat) (f:Form),(∀t∈l,TmN t)→l.length+1≤k→
  coL k f (tlT c l++e)=.ok (sumP f c l)
 | [],k,f,_,hk=>by
   unfold tlT
   by_cases h:c=0
   ·rw [if_neg (fun e=>e h),sumP,h,Rat.add_zero,List.nil_append]
    unfold coL
    rw [he]
   ·rw [if_pos h]
    obtain ⟨k,rfl⟩:∃j,k=j+1:=⟨k-1,by omega⟩
    obtain ⟨a1,a2⟩:=pa_abs (f:=f) (r:=e) hc (skE_end he) (fun c l h=>by rw [he] at h;cases h)
    rw [he] at a2
    have hps:psL (k+1) f (ngT c) (32::(absT c++e))=.ok (sumP f c []):=by
     rw [psL,skL_b,a1,a2]
     rfl
    by_cases hn:ngT c=true
    ·rw [if_pos hn]
     show coL _ f (32::45::32::(absT c++e))=_
     rw [coL_s (.inr rfl),←hps,hn];rfl
    ·rw [if_neg hn]
     show coL _ f (32::43::32::(absT c++e))=_
     rw [coL_s (.inl rfl),←hps,Bool.eq_false_iff.2 hn];rfl
 | t::l,k,f,hT,hk=>by
   obtain ⟨k,rfl⟩:∃j,k=j+1:=⟨k-1,by simp at hk;omega⟩
   have ht:=hT t (by simp)
   obtain ⟨b1,b2⟩:=tl_endb (c:=c) l he
   obtain ⟨a1,a2⟩:=pa_prt (f:=f) (r:=tlT c l++e) ht.q ht.v0 ht.v b1.noD (fun d r e=>(b2 d r e).1)
   have ih:=ps_tlb hc he l k (plusV false f.1 t.1 t.2,f.2) (fun u hu=>hT u (by simp [hu])) (by simp at hk;omega)
   have hps:psL (k+1) f (ngT t.2) (32::(prt t++(tlT c l++e)))=.ok (sumP f c (t::l)):=by
    rw [psL,skL_b,a1,a2]
    exact ih
   unfold tlT
   by_cases hn:ngT t.2=true
   ·rw [if_pos hn,List.append_assoc,List.append_assoc]
    show coL _ f (32::45::32::(prt t++(tlT c l++e)))=_
    rw [coL_s (.inr rfl),←hps,hn];rfl
   ·rw [if_neg hn,List.append_assoc,List.append_assoc]
    show coL _ f (32::43::32::(prt t++(tlT c l++e)))=_
    rw [coL_s (.inl rfl),←hps,Bool.eq_false_iff.2 hn];rfl
theorem sgn_firstb{neg:Bool}{a p r:List UInt8}(ha:a=[]∨a=[32])(hp:∃c l,p++r=c::l∧c≠32∧c≠43∧c≠45):
  psT (a++((if neg=true then 45::p else p)++r))=psL ((a++((if neg=true then 45::p else p)++r)).length+1) ([],0) neg (p++r):=by
 rcases ha with rfl|rfl
 ·exact sgn_first (k:=0) hp
 obtain ⟨c,l,e,h1,h2,h3⟩:=hp
 unfold psT
 cases neg with
 | true=>
   rw [if_pos rfl,List.singleton_append,skL_b,List.cons_append,skL_ne (by decide)]
   dsimp only
   rw [if_pos (.inr rfl)];rfl
 | false=>
   rw [if_neg (by simp),e,List.singleton_append,skL_b,skL_ne h1]
   dsimp only
   rw [if_neg (by intro e;rcases e with e|e;exact h2 e;exact h3 e)]
theorem psT_txtb{f:Form}(hS:Srt f.1)(hT:∀t∈f.1,TmN t)(hc:NB f.2){a e:List UInt8}(ha:a=[]∨a=[32])(he:skL e=[]):psT (a++(txt f++e))=.ok f:=by
 obtain ⟨F,c⟩:=f
 dsimp only at hS hT hc
 cases F with
 | nil=>
   have e1:txt ([],c)=(if ngT c=true then 45::absT c else absT c):=by
    unfold txt
    rw [if_pos (.inr rfl)]
    show jn [] (ngT c) (absT c)=_
    unfold jn
    rw [if_pos rfl]
   obtain ⟨d,l,e2,hd⟩:=absT_hd c e
   have h2:=sgn_firstb (neg:=ngT c) ha (p:=absT c) (r:=e) ⟨d,l,e2,isD_ne hd (by decide),isD_ne hd (by decide),isD_ne hd (by decide)⟩
   obtain ⟨a1,a2⟩:=pa_abs (f:=([],0)) (r:=e) hc (skE_end he) (fun c l h=>by rw [he] at h;cases h)
   rw [he] at a2
   rw [e1,h2,psL,a1,a2]
   show Except.ok (([]:List (Int × Rat)),(0:Rat)+c)=_
   rw [Rat.zero_add]
 | cons t l=>
   have ht:=hT t (by simp)
   have e1:txt (t::l,c)=(if ngT t.2=true then 45::prt t else prt t)++tlT c l:=by
    have h1:=txL_tl c l (txS [] t) (jn_ne (prt_ne t))
    have h2:txS [] t=(if ngT t.2=true then 45::prt t else prt t):=by unfold txS jn;rw [if_pos rfl]
    rw [h2] at h1
    rw [←h1,←h2]
    rfl
   obtain ⟨b1,b2⟩:=tl_endb (c:=c) l he
   obtain ⟨a1,a2⟩:=pa_prt (f:=([],0)) (r:=tlT c l++e) ht.q ht.v0 ht.v b1.noD (fun d r e=>(b2 d r e).1)
   have hlen:l.length≤(tlT c l).length:=by
    clear a1 a2 b1 b2 e1 hS hT ht hc
    induction l with
    | nil=>simp
    | cons u l ih=>
      unfold tlT
      rw [List.length_append,List.length_append,List.length_cons]
      have:1≤(prt u).length:=List.length_pos_iff.2 (prt_ne u)
      omega
   have hpl:1≤(prt t).length:=List.length_pos_iff.2 (prt_ne t)
   rw [e1,List.append_assoc,sgn_firstb ha (prt_hd t _),psL,a1,a2]
   have key:=ps_tlb hc he l ((a++((if ngT t.2=true then 45::prt t else prt t)++(tlT c l++e))).length) (plusV false [] t.1 t.2,0) (fun u hu=>hT u (by simp [hu])) (by
    rw [List.length_append,List.length_append,List.length_append]
    split <;>first|omega|(rw [List.length_cons];omega))
   refine key.trans ?_
   have e3:plusV false [] t.1 t.2=[t]:=by rw [plus_at (fun u hu=>by cases hu) (hS.2 t (by simp))];rfl
   rw [e3,sum_srt c l ([t],0) hS]
   show Except.ok (t::l,(0:Rat)+c)=_
   rw [Rat.zero_add]
def Fx(c:UInt8):Prop:=isD c=true∨c=47∨c=42∨c=120∨c=43∨c=45∨c=32
theorem dd_fx(k:Nat):∀c∈decDigits k,Fx c:=fun c hc=>.inl ((dd_d k k (Nat.le_refl _)).1 c hc)
theorem abs_fx(q:Rat):∀c∈absT q,Fx c:=fun c hc=>by
 unfold absT at hc
 rcases List.mem_append.1 hc with h|h
 ·exact dd_fx _ c h
 ·split at h
  ·cases h
  ·rcases List.mem_cons.1 h with rfl|h
   ·exact .inr (.inl rfl)
   ·exact dd_fx _ c h
theorem prt_fx(t:Int × Rat):∀c∈prt t,Fx c:=fun c hc=>by
 unfold prt at hc
 rcases List.mem_append.1 hc with h|h
 ·split at h
  ·cases h
  ·rcases List.mem_append.1 h with h|h
   ·exact abs_fx _ c h
   ·rw [List.mem_singleton.1 h];exact .inr (.inr (.inl rfl))
 ·rcases List.mem_cons.1 h with rfl|h
  ·exact .inr (.inr (.inr (.inl rfl)))
  ·exact dd_fx _ c h
theorem jn_fx{a p:List UInt8}{neg:Bool}(ha:∀c∈a,Fx c)(hp:∀c∈p,Fx c):∀c∈jn a neg p,Fx c:=fun c hc=>by
 unfold jn at hc
 split at hc
 ·split at hc
  ·rcases List.mem_cons.1 hc with rfl|h
   ·exact .inr (.inr (.inr (.inr (.inr (.inl rfl)))))
   ·exact hp c h
  ·exact hp c hc
 ·rcases List.mem_append.1 hc with h|h
  ·exact ha c h
  ·rcases List.mem_append.1 h with h|h
   ·have h32:Fx 32:=.inr (.inr (.inr (.inr (.inr (.inr rfl)))))
    have h45:Fx 45:=.inr (.inr (.inr (.inr (.inr (.inl rfl)))))
    have h43:Fx 43:=.inr (.inr (.inr (.inr (.inl rfl))))
    split at h <;>simp only [List.mem_cons,List.not_mem_nil,or_false] at h <;>rcases h with rfl|rfl|rfl <;>assumption
   ·exact hp c h
theorem txL_fx:∀(l:List (Int × Rat)) (a:List UInt8),(∀c∈a,Fx c)→∀c∈l.foldl txS a,Fx c
 | [],_,ha=>ha
 | t::l,a,ha=>txL_fx l (txS a t) (jn_fx ha (prt_fx t))
theorem txt_fx(f:Form):∀c∈txt f,Fx c:=by
 unfold txt
 have h:=txL_fx f.1 [] (fun c hc=>by cases hc)
 split
 ·exact jn_fx h (abs_fx _)
 ·exact h
theorem Fx.ne{c d:UInt8}(h:Fx c)(hd:isD d=false)(h2:d≠47∧d≠42∧d≠120∧d≠43∧d≠45∧d≠32):c≠d:=fun e=>by
 subst e
 rcases h with h|h|h|h|h|h|h
 ·rw [hd] at h;cases h
 ·exact h2.1 h
 ·exact h2.2.1 h
 ·exact h2.2.2.1 h
 ·exact h2.2.2.2.1 h
 ·exact h2.2.2.2.2.1 h
 ·exact h2.2.2.2.2.2 h
theorem dd_ten:∀(m k:Nat),k<10 ^ (m+1)→(decDigits k).length≤m+1
 | 0,k,h=>by rw [dd_lt (by simpa using h)];simp
 | m+1,k,h=>by
   by_cases h10:k<10
   ·rw [dd_lt h10];simp
   ·rw [dd_ge h10,List.length_append,List.length_singleton]
    have h2:k / 10<10 ^ (m+1):=Nat.div_lt_of_lt_mul (by rw [Nat.pow_succ] at h;omega)
    have:=dd_ten m _ h2
    omega
theorem dd_lm{k m:Nat}(hm:1≤m)(h:(lmb k).length≤m):(decDigits k).length≤10*m:=by
 have h1:=val_lt (lim_lmb k)
 rw [val_lmb] at h1
 have h2:4294967296 ^ (lmb k).length≤4294967296 ^ m:=Nat.pow_le_pow_right (by decide) h
 have h3:4294967296 ^ m≤(10 ^ 10) ^ m:=Nat.pow_le_pow_left (by decide) m
 rw [←Nat.pow_mul] at h3
 have e:10*m=(10*m-1)+1:=by omega
 rw [e] at h3 ⊢
 exact dd_ten _ k (Nat.lt_of_lt_of_le h1 (Nat.le_trans h2 h3))
theorem abs_lm{q:Rat}{m:Nat}(hm:1≤m)(h:H q≤m):(absT q).length≤20*m+1∧(decDigits q.num.natAbs).length≤10*m∧(decDigits q.den).length≤10*m:=by
 have a1:(lmb q.num.natAbs).length≤H q:=Nat.le_max_left _ _
 have a2:(lmb q.den).length≤H q:=Nat.le_max_right _ _
 have h1:=dd_lm (k:=q.num.natAbs) hm (by omega)
 have h2:=dd_lm (k:=q.den) hm (by omega)
 refine ⟨?_,h1,h2⟩
 unfold absT
 rw [List.length_append]
 split
 ·simp;omega
 ·simp;omega
theorem abs_two{q:Rat}(h:H q≤2):(absT q).length≤41∧NB q:=by
 obtain ⟨h1,h2,h3⟩:=abs_lm (m:=2) (by omega) h
 exact ⟨by omega,by omega,by omega⟩
theorem prt_two{t:Int × Rat}(h:H t.2≤2)(h0:0≤t.1)(h1:t.1<256):(prt t).length≤46∧TmN t:=by
 obtain ⟨a1,a2⟩:=abs_two h
 have h3:=dd_ten 2 t.1.toNat (by omega)
 refine ⟨?_,a2,h0,by omega⟩
 unfold prt
 rw [List.length_append,List.length_cons]
 split
 ·simp;omega
 ·rw [List.length_append];simp;omega
theorem txL_two:∀{l:List (Int × Rat)} {a:List UInt8},(∀t∈l,H t.2≤2∧0≤t.1∧t.1<256)→(l.foldl txS a).length≤a.length+l.length*49
 | [],a,_=>by simp
 | t::l,a,h=>by
   have h0:=h t (by simp)
   have h1:=(prt_two h0.1 h0.2.1 h0.2.2).1
   have h3:=jn_len a (ngT t.2) (prt t)
   have h2:=txL_two (l:=l) (a:=txS a t) (fun u hu=>h u (by simp [hu]))
   have e:txS a t=jn a (ngT t.2) (prt t):=rfl
   rw [List.foldl_cons,List.length_cons,Nat.add_mul]
   rw [e] at h2 ⊢
   omega
theorem txt_two{f:Form}(hT:∀t∈f.1,H t.2≤2∧0≤t.1∧t.1<256)(hc:H f.2≤2)(hl:f.1.length≤6):(txt f).length≤338:=by
 have h1:=txL_two (a:=[]) hT
 have h2:=(abs_two hc).1
 have h3:=jn_len (txL f.1) (ngT f.2) (absT f.2)
 have e:txL f.1=f.1.foldl txS []:=rfl
 have h4:f.1.length*49≤6*49:=Nat.mul_le_mul_right _ hl
 simp only [List.length_nil] at h1
 unfold txt
 split
 ·rw [←e] at h1;omega
 ·rw [e];omega
end
section
open Go.RowKit
section
variable {r4 : Int} {sub2 : ByteArray} {r3 : Bool} {n : Nat} {r2 : ByteArray} {a0 : ByteArray} {r : Int} {r5 : Bool} {sub : ByteArray} {r9 : Form} {r10 : Bool} {r11 : Bool} {r12 : Bool} {r7 : Int} {r6 : List Form} {r8 : Bool} {r14 : Bool} {r13 : Form} {r15 : Bool} {r16 : Bool} {r18 : Bool} {r19 : Int} {r17 : ByteArray} {r20 : Bool} {r25 : Bool} {r24 : Form} {r27 : Bool} {r26 : Bool} {r22 : Int} {r21 : List Form} {r23 : Bool} {r29 : Bool} {r28 : Form} {r30 : Bool} {r31 : Bool}
section
variable(K1:(oLastIndex) [.lit (.string a0),.lit (.string (⟨#[109,97,114,103,105,110]⟩:ByteArray))]=some (.lit (.int .i64 r)))
include K1
section
variable(C2:0≤r)(U3:0≤0∧0≤r∧r≤(a0.size:Int))(D3:sub=a0.extract 0 r.toNat)(W4:InI (r+6))(U5:0≤r+6∧r+6≤(a0.size:Int)∧(a0.size:Int)≤(a0.size:Int))(D5:sub2=a0.extract ((r+6).toNat) a0.size)(K6:(oTrimLeft) [.lit (.string sub),.lit (.string (⟨#[32]⟩:ByteArray))]=some (.lit (.string r2)))(K7:(oHasPrefix) [.lit (.string r2),.lit (.string (⟨#[116,111,112]⟩:ByteArray))]=some (.lit (.bool r3)))
include C2 U3 D3 W4 U5 D5 K6 K7
section
variable(C8:r3=true)(K9:run (n+13) 59 [.lit (.string sub)]=some (.tup [.lit (.int .i64 r4),.lit (.bool r5)]))
include C8 K9
theorem cpa_f1(C10:r5=false):
  run (n+14) 21 [.lit (.string a0)]=some (.tup [.agg [.lit (.int .i64 0),.lit (.int .i64 0),.lit (.bool false),.sl 1 [],.sl 1 [],.sl 4 []],.lit (.int .i64 0),.lit (.int .i64 4)]):=by
 have D3_:=D3.symm
 have W4_:IntKind.i64.wrap (r+6)=r+6:=wr64 W4.1 W4.2
 have D5_:=D5.symm
 rw [C8] at K7
 rw [C10] at K9
 unfold run fnP
 simp+decide [Tryz.f21,K1,C2,U3,D3_,W4_,U5,D5_,K6,K7,C8,K9,C10]
section
variable(C10:r5=true)(K11:run (n+13) 61 [.lit (.string sub2)]=some (.tup [formV r9,.lit (.bool r10)]))
include C10 K11
theorem cpa_f2(C12:r10=false):
  run (n+14) 21 [.lit (.string a0)]=some (.tup [.agg [.lit (.int .i64 0),.lit (.int .i64 0),.lit (.bool false),.sl 1 [],.sl 1 [],.sl 4 []],.lit (.int .i64 (r+6)),.lit (.int .i64 4)]):=by
 have D3_:=D3.symm
 have W4_:IntKind.i64.wrap (r+6)=r+6:=wr64 W4.1 W4.2
 have D5_:=D5.symm
 simp only [formV] at K11
 rw [C8] at K7
 rw [C10] at K9
 rw [C12] at K11
 unfold run fnP
 simp+decide [Tryz.f21,K1,C2,U3,D3_,W4_,U5,D5_,K6,K7,C8,K9,C10,K11,C12]
section
variable(C12:r10=true)(K13:(oContains) [.lit (.string sub2),.lit (.string (⟨#[121]⟩:ByteArray))]=some (.lit (.bool r11)))
include C12 K13
theorem cpa_f3(C14:r11=true):
  run (n+14) 21 [.lit (.string a0)]=some (.tup [.agg [.lit (.int .i64 0),.lit (.int .i64 0),.lit (.bool false),.sl 1 [],.sl 1 [],.sl 4 []],.lit (.int .i64 (r+6)),.lit (.int .i64 4)]):=by
 have D3_:=D3.symm
 have W4_:IntKind.i64.wrap (r+6)=r+6:=wr64 W4.1 W4.2
 have D5_:=D5.symm
 simp only [formV] at K11
 rw [C8] at K7
 rw [C10] at K9
 rw [C12] at K11
 rw [C14] at K13
 unfold run fnP
 simp+decide [Tryz.f21,K1,C2,U3,D3_,W4_,U5,D5_,K6,K7,C8,K9,C10,K11,C12,K13,C14]
section
variable(C14:r11=false)(K15:run (n+13) 44 [.agg [.lit (.int .i64 1),.lit (.int .i64 r4),.lit (.bool (rawQ r9.2).s),natA (rawQ r9.2).l1,natA (rawQ r9.2).l2,.sl 4 []],.lit (.int .i64 256)]=some (.lit (.bool r12)))
include C14 K15
theorem cpa_f4(C16:r12=false):
  run (n+14) 21 [.lit (.string a0)]=some (.tup [.agg [.lit (.int .i64 0),.lit (.int .i64 0),.lit (.bool false),.sl 1 [],.sl 1 [],.sl 4 []],.lit (.int .i64 0),.lit (.int .i64 1)]):=by
 have D3_:=D3.symm
 have W4_:IntKind.i64.wrap (r+6)=r+6:=wr64 W4.1 W4.2
 have D5_:=D5.symm
 simp only [formV] at K11
 rw [C8] at K7
 rw [C10] at K9
 rw [C12] at K11
 rw [C14] at K13
 rw [C16] at K15
 unfold run fnP
 simp+decide [Tryz.f21,K1,C2,U3,D3_,W4_,U5,D5_,K6,K7,C8,K9,C10,K11,C12,K13,C14,K15,C16]
theorem cpa_f5(C16:r12=true):
  run (n+14) 21 [.lit (.string a0)]=some (.tup [.agg [.lit (.int .i64 1),.lit (.int .i64 r4),.lit (.bool (rawQ r9.2).s),natA (rawQ r9.2).l1,natA (rawQ r9.2).l2,.sl 4 []],.lit (.int .i64 0),.lit (.int .i64 0)]):=by
 have D3_:=D3.symm
 have W4_:IntKind.i64.wrap (r+6)=r+6:=wr64 W4.1 W4.2
 have D5_:=D5.symm
 simp only [formV] at K11
 rw [C8] at K7
 rw [C10] at K9
 rw [C12] at K11
 rw [C14] at K13
 rw [C16] at K15
 unfold run fnP
 simp+decide [Tryz.f21,K1,C2,U3,D3_,W4_,U5,D5_,K6,K7,C8,K9,C10,K11,C12,K13,C14,K15,C16]
end
end
end
end
section
variable(C8:r3=false)(K9:run (n+13) 60 [.lit (.string sub)]=some (.tup [.sl 4 (r6.map formC),.lit (.int .i64 r7),.lit (.bool r8)]))
include C8 K9
theorem cpa_f6(C10:r8=false):
  run (n+14) 21 [.lit (.string a0)]=some (.tup [.agg [.lit (.int .i64 0),.lit (.int .i64 0),.lit (.bool false),.sl 1 [],.sl 1 [],.sl 4 []],.lit (.int .i64 r7),.lit (.int .i64 4)]):=by
 have D3_:=D3.symm
 have W4_:IntKind.i64.wrap (r+6)=r+6:=wr64 W4.1 W4.2
 have D5_:=D5.symm
 rw [C8] at K7
 rw [C10] at K9
 unfold run fnP
 simp+decide [Tryz.f21,K1,C2,U3,D3_,W4_,U5,D5_,K6,K7,C8,K9,C10]
section
variable(C10:r8=true)(K11:run (n+13) 61 [.lit (.string sub2)]=some (.tup [formV r13,.lit (.bool r14)]))
include C10 K11
theorem cpa_f7(C12:r14=false):
  run (n+14) 21 [.lit (.string a0)]=some (.tup [.agg [.lit (.int .i64 0),.lit (.int .i64 0),.lit (.bool false),.sl 1 [],.sl 1 [],.sl 4 []],.lit (.int .i64 (r+6)),.lit (.int .i64 4)]):=by
 have D3_:=D3.symm
 have W4_:IntKind.i64.wrap (r+6)=r+6:=wr64 W4.1 W4.2
 have D5_:=D5.symm
 simp only [formV] at K11
 rw [C8] at K7
 rw [C10] at K9
 rw [C12] at K11
 unfold run fnP
 simp+decide [Tryz.f21,K1,C2,U3,D3_,W4_,U5,D5_,K6,K7,C8,K9,C10,K11,C12]
section
variable(C12:r14=true)(K13:(oContains) [.lit (.string sub2),.lit (.string (⟨#[121]⟩:ByteArray))]=some (.lit (.bool r15)))
include C12 K13
theorem cpa_f8(C14:r15=true):
  run (n+14) 21 [.lit (.string a0)]=some (.tup [.agg [.lit (.int .i64 0),.lit (.int .i64 0),.lit (.bool false),.sl 1 [],.sl 1 [],.sl 4 []],.lit (.int .i64 (r+6)),.lit (.int .i64 4)]):=by
 have D3_:=D3.symm
 have W4_:IntKind.i64.wrap (r+6)=r+6:=wr64 W4.1 W4.2
 have D5_:=D5.symm
 simp only [formV] at K11
 rw [C8] at K7
 rw [C10] at K9
 rw [C12] at K11
 rw [C14] at K13
 unfold run fnP
 simp+decide [Tryz.f21,K1,C2,U3,D3_,W4_,U5,D5_,K6,K7,C8,K9,C10,K11,C12,K13,C14]
section
variable(C14:r15=false)(K15:run (n+13) 44 [.agg [.lit (.int .i64 2),.lit (.int .i64 0),.lit (.bool (rawQ r13.2).s),natA (rawQ r13.2).l1,natA (rawQ r13.2).l2,.sl 4 (r6.map formC)],.lit (.int .i64 256)]=some (.lit (.bool r16)))
include C14 K15
theorem cpa_f9(C16:r16=false):
  run (n+14) 21 [.lit (.string a0)]=some (.tup [.agg [.lit (.int .i64 0),.lit (.int .i64 0),.lit (.bool false),.sl 1 [],.sl 1 [],.sl 4 []],.lit (.int .i64 0),.lit (.int .i64 1)]):=by
 have D3_:=D3.symm
 have W4_:IntKind.i64.wrap (r+6)=r+6:=wr64 W4.1 W4.2
 have D5_:=D5.symm
 simp only [formV] at K11
 rw [C8] at K7
 rw [C10] at K9
 rw [C12] at K11
 rw [C14] at K13
 rw [C16] at K15
 unfold run fnP
 simp+decide [Tryz.f21,K1,C2,U3,D3_,W4_,U5,D5_,K6,K7,C8,K9,C10,K11,C12,K13,C14,K15,C16]
theorem cpa_f10(C16:r16=true):
  run (n+14) 21 [.lit (.string a0)]=some (.tup [.agg [.lit (.int .i64 2),.lit (.int .i64 0),.lit (.bool (rawQ r13.2).s),natA (rawQ r13.2).l1,natA (rawQ r13.2).l2,.sl 4 (r6.map formC)],.lit (.int .i64 0),.lit (.int .i64 0)]):=by
 have D3_:=D3.symm
 have W4_:IntKind.i64.wrap (r+6)=r+6:=wr64 W4.1 W4.2
 have D5_:=D5.symm
 simp only [formV] at K11
 rw [C8] at K7
 rw [C10] at K9
 rw [C12] at K11
 rw [C14] at K13
 rw [C16] at K15
 unfold run fnP
 simp+decide [Tryz.f21,K1,C2,U3,D3_,W4_,U5,D5_,K6,K7,C8,K9,C10,K11,C12,K13,C14,K15,C16]
end
end
end
end
end
section
variable(C2:¬0≤r)(K3:(oTrimLeft) [.lit (.string a0),.lit (.string (⟨#[32]⟩:ByteArray))]=some (.lit (.string r17)))(K4:(oHasPrefix) [.lit (.string r17),.lit (.string (⟨#[116,111,112]⟩:ByteArray))]=some (.lit (.bool r18)))
include C2 K3 K4
section
variable(C5:r18=true)(K6:run (n+13) 59 [.lit (.string a0)]=some (.tup [.lit (.int .i64 r19),.lit (.bool r20)]))
include C5 K6
theorem cpa_f11(C7:r20=false):
  run (n+14) 21 [.lit (.string a0)]=some (.tup [.agg [.lit (.int .i64 0),.lit (.int .i64 0),.lit (.bool false),.sl 1 [],.sl 1 [],.sl 4 []],.lit (.int .i64 0),.lit (.int .i64 4)]):=by
 rw [C5] at K4
 rw [C7] at K6
 unfold run fnP
 simp+decide [Tryz.f21,K1,C2,K3,K4,C5,K6,C7]
section
variable(C7:r20=true)(K8:run (n+13) 61 [.lit (.string (⟨#[48]⟩:ByteArray))]=some (.tup [formV r24,.lit (.bool r25)]))
include C7 K8
theorem cpa_f12(C9:r25=false)(W10:InI (r+6)):
  run (n+14) 21 [.lit (.string a0)]=some (.tup [.agg [.lit (.int .i64 0),.lit (.int .i64 0),.lit (.bool false),.sl 1 [],.sl 1 [],.sl 4 []],.lit (.int .i64 (r+6)),.lit (.int .i64 4)]):=by
 simp only [formV] at K8
 have W10_:IntKind.i64.wrap (r+6)=r+6:=wr64 W10.1 W10.2
 rw [C5] at K4
 rw [C7] at K6
 rw [C9] at K8
 unfold run fnP
 simp+decide [Tryz.f21,K1,C2,K3,K4,C5,K6,C7,K8,C9,W10_]
section
variable(C9:r25=true)(K10:(oContains) [.lit (.string (⟨#[48]⟩:ByteArray)),.lit (.string (⟨#[121]⟩:ByteArray))]=some (.lit (.bool r26)))(C11:r26=false)(K12:run (n+13) 44 [.agg [.lit (.int .i64 1),.lit (.int .i64 r19),.lit (.bool (rawQ r24.2).s),natA (rawQ r24.2).l1,natA (rawQ r24.2).l2,.sl 4 []],.lit (.int .i64 256)]=some (.lit (.bool r27)))
include C9 K10 C11 K12
theorem cpa_f14(C13:r27=false):
  run (n+14) 21 [.lit (.string a0)]=some (.tup [.agg [.lit (.int .i64 0),.lit (.int .i64 0),.lit (.bool false),.sl 1 [],.sl 1 [],.sl 4 []],.lit (.int .i64 0),.lit (.int .i64 1)]):=by
 simp only [formV] at K8
 rw [C5] at K4
 rw [C7] at K6
 rw [C9] at K8
 rw [C11] at K10
 rw [C13] at K12
 unfold run fnP
 simp+decide [Tryz.f21,K1,C2,K3,K4,C5,K6,C7,K8,C9,K10,C11,K12,C13]
theorem cpa_f15(C13:r27=true):
  run (n+14) 21 [.lit (.string a0)]=some (.tup [.agg [.lit (.int .i64 1),.lit (.int .i64 r19),.lit (.bool (rawQ r24.2).s),natA (rawQ r24.2).l1,natA (rawQ r24.2).l2,.sl 4 []],.lit (.int .i64 0),.lit (.int .i64 0)]):=by
 simp only [formV] at K8
 rw [C5] at K4
 rw [C7] at K6
 rw [C9] at K8
 rw [C11] at K10
 rw [C13] at K12
 unfold run fnP
 simp+decide [Tryz.f21,K1,C2,K3,K4,C5,K6,C7,K8,C9,K10,C11,K12,C13]
end
end
end
section
variable(C5:r18=false)(K6:run (n+13) 60 [.lit (.string a0)]=some (.tup [.sl 4 (r21.map formC),.lit (.int .i64 r22),.lit (.bool r23)]))
include C5 K6
theorem cpa_f16(C7:r23=false):
  run (n+14) 21 [.lit (.string a0)]=some (.tup [.agg [.lit (.int .i64 0),.lit (.int .i64 0),.lit (.bool false),.sl 1 [],.sl 1 [],.sl 4 []],.lit (.int .i64 r22),.lit (.int .i64 4)]):=by
 rw [C5] at K4
 rw [C7] at K6
 unfold run fnP
 simp+decide [Tryz.f21,K1,C2,K3,K4,C5,K6,C7]
section
variable(C7:r23=true)(K8:run (n+13) 61 [.lit (.string (⟨#[48]⟩:ByteArray))]=some (.tup [formV r28,.lit (.bool r29)]))
include C7 K8
theorem cpa_f17(C9:r29=false)(W10:InI (r+6)):
  run (n+14) 21 [.lit (.string a0)]=some (.tup [.agg [.lit (.int .i64 0),.lit (.int .i64 0),.lit (.bool false),.sl 1 [],.sl 1 [],.sl 4 []],.lit (.int .i64 (r+6)),.lit (.int .i64 4)]):=by
 simp only [formV] at K8
 have W10_:IntKind.i64.wrap (r+6)=r+6:=wr64 W10.1 W10.2
 rw [C5] at K4
 rw [C7] at K6
 rw [C9] at K8
 unfold run fnP
 simp+decide [Tryz.f21,K1,C2,K3,K4,C5,K6,C7,K8,C9,W10_]
section
variable(C9:r29=true)(K10:(oContains) [.lit (.string (⟨#[48]⟩:ByteArray)),.lit (.string (⟨#[121]⟩:ByteArray))]=some (.lit (.bool r30)))(C11:r30=false)(K12:run (n+13) 44 [.agg [.lit (.int .i64 2),.lit (.int .i64 0),.lit (.bool (rawQ r28.2).s),natA (rawQ r28.2).l1,natA (rawQ r28.2).l2,.sl 4 (r21.map formC)],.lit (.int .i64 256)]=some (.lit (.bool r31)))
include C9 K10 C11 K12
theorem cpa_f19(C13:r31=false):
  run (n+14) 21 [.lit (.string a0)]=some (.tup [.agg [.lit (.int .i64 0),.lit (.int .i64 0),.lit (.bool false),.sl 1 [],.sl 1 [],.sl 4 []],.lit (.int .i64 0),.lit (.int .i64 1)]):=by
 simp only [formV] at K8
 rw [C5] at K4
 rw [C7] at K6
 rw [C9] at K8
 rw [C11] at K10
 rw [C13] at K12
 unfold run fnP
 simp+decide [Tryz.f21,K1,C2,K3,K4,C5,K6,C7,K8,C9,K10,C11,K12,C13]
theorem cpa_f20(C13:r31=true):
  run (n+14) 21 [.lit (.string a0)]=some (.tup [.agg [.lit (.int .i64 2),.lit (.int .i64 0),.lit (.bool (rawQ r28.2).s),natA (rawQ r28.2).l1,natA (rawQ r28.2).l2,.sl 4 (r21.map formC)],.lit (.int .i64 0),.lit (.int .i64 0)]):=by
 simp only [formV] at K8
 rw [C5] at K4
 rw [C7] at K6
 rw [C9] at K8
 rw [C11] at K10
 rw [C13] at K12
 unfold run fnP
 simp+decide [Tryz.f21,K1,C2,K3,K4,C5,K6,C7,K8,C9,K10,C11,K12,C13]
end
end
end
end
end
end
end
section
open Go.RowKit
section
variable {n : Nat} {a0 : ByteArray} {r : Bool} {r4 : Int} {r3 : Form} {r2 : ByteArray} {r5 : Int}
theorem cfm_f1(K1:(oContains) [.lit (.string a0),.lit (.string (⟨#[120]⟩:ByteArray))]=some (.lit (.bool r)))(C2:r=true):
  run (n+12) 61 [.lit (.string a0)]=some (.tup [.agg [.sl 4 [],.lit (.bool false),.sl 1 [],.sl 1 []],.lit (.bool false)]):=by
 rw [C2] at K1
 unfold run fnP
 simp+decide [Tryz.f61,K1,C2]
theorem cfm_f2(K1:(oContains) [.lit (.string a0),.lit (.string (⟨#[120]⟩:ByteArray))]=some (.lit (.bool r)))(C2:r=false)(K3:(oReplaceAll) [.lit (.string a0),.lit (.string (⟨#[121]⟩:ByteArray)),.lit (.string (⟨#[120]⟩:ByteArray))]=some (.lit (.string r2)))(K4:run (n+11) 124 [.lit (.string r2)]=some (.tup [formV r3,.lit (.int .i64 r4),.lit (.int .i64 r5)])):
  run (n+12) 61 [.lit (.string a0)]=some (.tup [formV r3,.lit (.bool (r5==0))]):=by
 simp only [formV] at K4
 rw [C2] at K1
 unfold run fnP
 simp+decide [Tryz.f61,K1,C2,K3,K4]
end
section
variable {n : Nat} {r2 : Int} {a0 : ByteArray} {r : Int}
section
variable(K1:(oIndex) [.lit (.string a0),.lit (.string (⟨#[62,61]⟩:ByteArray))]=some (.lit (.int .i64 r)))(K2:(oIndex) [.lit (.string a0),.lit (.string (⟨#[60,61]⟩:ByteArray))]=some (.lit (.int .i64 r2)))
include K1 K2
theorem csp_f1(C3:r<0):
  run (n+4) 123 [.lit (.string a0)]=some (.lit (.int .i64 r2)):=by
 unfold run fnP
 simp+decide [Tryz.f123,K1,K2,C3]
theorem csp_f2(C3:¬r<0)(C4:0≤r2)(C5:r2<r):
  run (n+4) 123 [.lit (.string a0)]=some (.lit (.int .i64 r2)):=by
 unfold run fnP
 simp+decide [Tryz.f123,K1,K2,C3,C4,C5]
theorem csp_f3(C3:¬r<0)(C4:0≤r2)(C5:¬r2<r):
  run (n+4) 123 [.lit (.string a0)]=some (.lit (.int .i64 r)):=by
 unfold run fnP
 simp+decide [Tryz.f123,K1,K2,C3,C4,C5]
theorem csp_f4(C3:¬r<0)(C4:¬0≤r2):
  run (n+4) 123 [.lit (.string a0)]=some (.lit (.int .i64 r)):=by
 unfold run fnP
 simp+decide [Tryz.f123,K1,K2,C3,C4]
end
end
section
variable {r4 : Bool} {r3 : ByteArray} {n : Nat} {r2 : ByteArray} {a0 : ByteArray} {r : ByteArray} {b : UInt8} {r5 : ByteArray} {r7 : AV} {r6 : Int} {r9 : AV} {r8 : Int}
section
variable(K1:(oTrimLeft) [.lit (.string a0),.lit (.string (⟨#[32]⟩:ByteArray))]=some (.lit (.string r)))(K2:(oTrimPrefix) [.lit (.string r),.lit (.string (⟨#[116,111,112]⟩:ByteArray))]=some (.lit (.string r2)))(K3:(oTrim) [.lit (.string r2),.lit (.string (⟨#[32]⟩:ByteArray))]=some (.lit (.string r3)))(K4:(oHasPrefix) [.lit (.string r2),.lit (.string (⟨#[32]⟩:ByteArray))]=some (.lit (.bool r4)))
include K1 K2 K3 K4
theorem ctg_f1(C5:r4=false):
  run (n+9) 59 [.lit (.string a0)]=some (.tup [.lit (.int .i64 0),.lit (.bool false)]):=by
 rw [C5] at K4
 unfold run fnP
 simp+decide [Tryz.f59,K1,K2,K3,K4,C5]
theorem ctg_f2(C5:r4=true)(C6:r3=(⟨#[]⟩:ByteArray)):
  run (n+9) 59 [.lit (.string a0)]=some (.tup [.lit (.int .i64 0),.lit (.bool false)]):=by
 have C6_:(r3.toList==(⟨#[]⟩:ByteArray).toList)=true:=by rw [C6];simp
 have C6_n:(r3.toList !=(⟨#[]⟩:ByteArray).toList)=false:=by rw [bne,C6_];rfl
 have C6_i:r3.toList.isEmpty=true:=by rw [C6,ba_toList] <;>rfl
 rw [C5] at K4
 unfold run fnP
 simp+decide [Tryz.f59,K1,K2,K3,K4,C5,C6_,C6_n,C6_i]
section
variable(C5:r4=true)(C6:¬r3=(⟨#[]⟩:ByteArray))
include C5 C6
theorem ctg_f3(C7:9<(r3.size:Int)):
  run (n+9) 59 [.lit (.string a0)]=some (.tup [.lit (.int .i64 0),.lit (.bool false)]):=by
 have C6_:(r3.toList==(⟨#[]⟩:ByteArray).toList)=false:=by rw [beq_eq_false_iff_ne];exact fun h=>C6 (ba_inj h)
 have C6_n:(r3.toList !=(⟨#[]⟩:ByteArray).toList)=true:=by rw [bne,C6_];rfl
 have C6_i:r3.toList.isEmpty=false:=by rcases he:r3.toList.isEmpty with _|_;rfl;exact absurd (ba_inj (by rw [List.isEmpty_iff.1 he,ba_toList] <;>rfl)) C6
 have C7_:9<r3.size:=by omega
 rw [C5] at K4
 unfold run fnP
 simp+decide [Tryz.f59,K1,K2,K3,K4,C5,C6_,C6_n,C6_i,C7,C7_]
section
variable(C7:¬9<(r3.size:Int))(E8:r3[0]?=some b)
include C7 E8
theorem ctg_f4(C9:(b.toNat:Int)=48)(C10:1<(r3.size:Int)):
  run (n+9) 59 [.lit (.string a0)]=some (.tup [.lit (.int .i64 0),.lit (.bool false)]):=by
 have C6_:(r3.toList==(⟨#[]⟩:ByteArray).toList)=false:=by rw [beq_eq_false_iff_ne];exact fun h=>C6 (ba_inj h)
 have C6_n:(r3.toList !=(⟨#[]⟩:ByteArray).toList)=true:=by rw [bne,C6_];rfl
 have C6_i:r3.toList.isEmpty=false:=by rcases he:r3.toList.isEmpty with _|_;rfl;exact absurd (ba_inj (by rw [List.isEmpty_iff.1 he,ba_toList] <;>rfl)) C6
 have C7_:¬9<r3.size:=by omega
 have C9_:((b.toNat:Int)==48)=true:=by rw [C9];simp
 have C9_n:((b.toNat:Int) !=48)=false:=by rw [C9];simp
 have C10_:1<r3.size:=by omega
 rw [C5] at K4
 have EG8:∀h,(r3)[0]'h=b:=fun h=>Option.some.inj ((getElem?_pos (r3) (0) h).symm.trans E8)
 unfold run fnP
 simp+decide [EG8, Tryz.f59,K1,K2,K3,K4,C5,C6_,C6_n,C6_i,C7,C7_,E8,C9_,C9_n,C10,C10_]
section
variable(C9:(b.toNat:Int)=48)(C10:¬1<(r3.size:Int))(K11:(oTrim) [.lit (.string r3),.lit (.string (⟨#[48,49,50,51,52,53,54,55,56,57]⟩:ByteArray))]=some (.lit (.string r5)))
include C9 C10 K11
theorem ctg_f5(C12:¬r5=(⟨#[]⟩:ByteArray)):
  run (n+9) 59 [.lit (.string a0)]=some (.tup [.lit (.int .i64 0),.lit (.bool false)]):=by
 have C6_:(r3.toList==(⟨#[]⟩:ByteArray).toList)=false:=by rw [beq_eq_false_iff_ne];exact fun h=>C6 (ba_inj h)
 have C6_n:(r3.toList !=(⟨#[]⟩:ByteArray).toList)=true:=by rw [bne,C6_];rfl
 have C6_i:r3.toList.isEmpty=false:=by rcases he:r3.toList.isEmpty with _|_;rfl;exact absurd (ba_inj (by rw [List.isEmpty_iff.1 he,ba_toList] <;>rfl)) C6
 have C7_:¬9<r3.size:=by omega
 have C9_:((b.toNat:Int)==48)=true:=by rw [C9];simp
 have C9_n:((b.toNat:Int) !=48)=false:=by rw [C9];simp
 have C10_:¬1<r3.size:=by omega
 have C12_:(r5.toList==(⟨#[]⟩:ByteArray).toList)=false:=by rw [beq_eq_false_iff_ne];exact fun h=>C12 (ba_inj h)
 have C12_n:(r5.toList !=(⟨#[]⟩:ByteArray).toList)=true:=by rw [bne,C12_];rfl
 have C12_i:r5.toList.isEmpty=false:=by rcases he:r5.toList.isEmpty with _|_;rfl;exact absurd (ba_inj (by rw [List.isEmpty_iff.1 he,ba_toList] <;>rfl)) C12
 rw [C5] at K4
 have EG8:∀h,(r3)[0]'h=b:=fun h=>Option.some.inj ((getElem?_pos (r3) (0) h).symm.trans E8)
 unfold run fnP
 simp+decide [EG8, Tryz.f59,K1,K2,K3,K4,C5,C6_,C6_n,C6_i,C7,C7_,E8,C9_,C9_n,C10,C10_,K11,C12_,C12_n,C12_i]
theorem ctg_f6(C12:r5=(⟨#[]⟩:ByteArray))(K13:(oAtoi) [.lit (.string r3)]=some (.tup [.lit (.int .i64 r6),r7]))(A14:r7=AV.lit Value.nilIface):
  run (n+9) 59 [.lit (.string a0)]=some (.tup [.lit (.int .i64 r6),.lit (.bool true)]):=by
 have C6_:(r3.toList==(⟨#[]⟩:ByteArray).toList)=false:=by rw [beq_eq_false_iff_ne];exact fun h=>C6 (ba_inj h)
 have C6_n:(r3.toList !=(⟨#[]⟩:ByteArray).toList)=true:=by rw [bne,C6_];rfl
 have C6_i:r3.toList.isEmpty=false:=by rcases he:r3.toList.isEmpty with _|_;rfl;exact absurd (ba_inj (by rw [List.isEmpty_iff.1 he,ba_toList] <;>rfl)) C6
 have C7_:¬9<r3.size:=by omega
 have C9_:((b.toNat:Int)==48)=true:=by rw [C9];simp
 have C9_n:((b.toNat:Int) !=48)=false:=by rw [C9];simp
 have C10_:¬1<r3.size:=by omega
 have C12_:(r5.toList==(⟨#[]⟩:ByteArray).toList)=true:=by rw [C12];simp
 have C12_n:(r5.toList !=(⟨#[]⟩:ByteArray).toList)=false:=by rw [bne,C12_];rfl
 have C12_i:r5.toList.isEmpty=true:=by rw [C12,ba_toList] <;>rfl
 rw [C5] at K4
 have EG8:∀h,(r3)[0]'h=b:=fun h=>Option.some.inj ((getElem?_pos (r3) (0) h).symm.trans E8)
 unfold run fnP
 simp+decide [EG8, Tryz.f59,K1,K2,K3,K4,C5,C6_,C6_n,C6_i,C7,C7_,E8,C9_,C9_n,C10,C10_,K11,C12_,C12_n,C12_i,K13,A14]
end
section
variable(C9:¬(b.toNat:Int)=48)(K10:(oTrim) [.lit (.string r3),.lit (.string (⟨#[48,49,50,51,52,53,54,55,56,57]⟩:ByteArray))]=some (.lit (.string r5)))
include C9 K10
theorem ctg_f7(C11:¬r5=(⟨#[]⟩:ByteArray)):
  run (n+9) 59 [.lit (.string a0)]=some (.tup [.lit (.int .i64 0),.lit (.bool false)]):=by
 have C6_:(r3.toList==(⟨#[]⟩:ByteArray).toList)=false:=by rw [beq_eq_false_iff_ne];exact fun h=>C6 (ba_inj h)
 have C6_n:(r3.toList !=(⟨#[]⟩:ByteArray).toList)=true:=by rw [bne,C6_];rfl
 have C6_i:r3.toList.isEmpty=false:=by rcases he:r3.toList.isEmpty with _|_;rfl;exact absurd (ba_inj (by rw [List.isEmpty_iff.1 he,ba_toList] <;>rfl)) C6
 have C7_:¬9<r3.size:=by omega
 have C9_:((b.toNat:Int)==48)=false:=by simpa using C9
 have C9_n:((b.toNat:Int) !=48)=true:=by simpa using C9
 have C11_:(r5.toList==(⟨#[]⟩:ByteArray).toList)=false:=by rw [beq_eq_false_iff_ne];exact fun h=>C11 (ba_inj h)
 have C11_n:(r5.toList !=(⟨#[]⟩:ByteArray).toList)=true:=by rw [bne,C11_];rfl
 have C11_i:r5.toList.isEmpty=false:=by rcases he:r5.toList.isEmpty with _|_;rfl;exact absurd (ba_inj (by rw [List.isEmpty_iff.1 he,ba_toList] <;>rfl)) C11
 rw [C5] at K4
 have EG8:∀h,(r3)[0]'h=b:=fun h=>Option.some.inj ((getElem?_pos (r3) (0) h).symm.trans E8)
 unfold run fnP
 simp+decide [EG8, Tryz.f59,K1,K2,K3,K4,C5,C6_,C6_n,C6_i,C7,C7_,E8,C9_,C9_n,K10,C11_,C11_n,C11_i]
theorem ctg_f8(C11:r5=(⟨#[]⟩:ByteArray))(K12:(oAtoi) [.lit (.string r3)]=some (.tup [.lit (.int .i64 r8),r9]))(A13:r9=AV.lit Value.nilIface):
  run (n+9) 59 [.lit (.string a0)]=some (.tup [.lit (.int .i64 r8),.lit (.bool true)]):=by
 have C6_:(r3.toList==(⟨#[]⟩:ByteArray).toList)=false:=by rw [beq_eq_false_iff_ne];exact fun h=>C6 (ba_inj h)
 have C6_n:(r3.toList !=(⟨#[]⟩:ByteArray).toList)=true:=by rw [bne,C6_];rfl
 have C6_i:r3.toList.isEmpty=false:=by rcases he:r3.toList.isEmpty with _|_;rfl;exact absurd (ba_inj (by rw [List.isEmpty_iff.1 he,ba_toList] <;>rfl)) C6
 have C7_:¬9<r3.size:=by omega
 have C9_:((b.toNat:Int)==48)=false:=by simpa using C9
 have C9_n:((b.toNat:Int) !=48)=true:=by simpa using C9
 have C11_:(r5.toList==(⟨#[]⟩:ByteArray).toList)=true:=by rw [C11];simp
 have C11_n:(r5.toList !=(⟨#[]⟩:ByteArray).toList)=false:=by rw [bne,C11_];rfl
 have C11_i:r5.toList.isEmpty=true:=by rw [C11,ba_toList] <;>rfl
 rw [C5] at K4
 have EG8:∀h,(r3)[0]'h=b:=fun h=>Option.some.inj ((getElem?_pos (r3) (0) h).symm.trans E8)
 unfold run fnP
 simp+decide [EG8, Tryz.f59,K1,K2,K3,K4,C5,C6_,C6_n,C6_i,C7,C7_,E8,C9_,C9_n,K10,C11_,C11_n,C11_i,K12,A13]
end
end
end
end
end
end
end Go.Proofs.YtnegdhjdienjlaaGreatDoor
