import Derived.Test.YtdaonnnlgfhlaaaGreatDoorGH10
import Derived.Great.BuildSlice
import Derived.Laws.MakeOwn
set_option linter.all false
namespace Go.Proofs.YtdaonnnlgfhlaaaGreatDoor
open Go.RowKit
def MO(B:Nat→Option AB)(L:Nat→Option Value)(g o:Nat):Prop:=∃id blk v,B id=some blk∧L id=some v∧gOf v=some g∧¬blk.frz o
structure Aft (E:Nat→Nat→Prop) (B:Nat→Option AB) (L:Nat→Option Value) (B':Nat→Option AB) (L':Nat→Option Value) (w w':World):Prop where
 lk:∀b v,L b=some v→L' b=some v
 mod:Mod (MO B L) w w'
 bs:BsRel E B' L' w'
 cells:∀b o v,okS E B L b o→w.cell? ⟨b,o,none⟩=some v→w'.cell? ⟨b,o,none⟩=some v
 oks:∀b o v,okS E B L b o→w.cell? ⟨b,o,none⟩=some v→okS E B' L' b o
 own:∀id blk v g,B' id=some blk→L' id=some v→gOf v=some g→g<w.heap.size→∃id0 blk0 v0,B id0=some blk0∧L id0=some v0∧gOf v0=some g∧∀o,blk0.frz o→blk.frz o
section
variable{P:Program}{E:Nat→Nat→Prop}{w w' w1:World}{N:Nat}{T:Nat→AV}{B B' B1:Nat→Option AB}{L L' L1:Nat→Option Value}{a:Act}{up:List (Nat × Option AB)}
theorem Aft.rep(h:Aft E B L B' L' w w'){d:AV}{v:Value}(hr:Rep w (okS E B L) L d v):Rep w' (okS E B' L') L' d v:=hr.mono h.cells h.oks h.lk
theorem Step.aft(s:Step E B L up L' w w')(h:BsRel E B L w):Aft E B L (ZT B up) L' w w':=by
 refine ⟨s.lk,s.mod.mono fun g o _ ⟨id,blk,v,_,h1,h2,h3,h4⟩=>⟨id,blk,v,h1,h2,h3,h4⟩,s.bs h,s.cells,s.oks h,fun id blk v g h1 h2 h3 h4=>?_⟩
 cases hu:ZD up id with
 | none=>
   rw [QQ hu] at h1
   obtain ⟨v0,h5⟩:=(h.blk id blk h1).has
   have h6:=s.lk _ _ h5
   rw [h2] at h6;cases h6
   exact ⟨id,blk,v,h1,h5,h3,fun _ h=>h⟩
 | some o'=>
   rw [Qb hu] at h1
   subst h1
   rcases s.src id blk v g hu h2 h3 with h5|⟨id0,blk0,v0,_,h6⟩
   ·omega
   ·exact ⟨id0,blk0,v0,h6⟩
theorem Aft.refl(h:BsRel E B L w):Aft E B L B L w w:=by
 have:=(Step.refl (B:=B) (L:=L) (w:=w)).aft h
 rw [Q4] at this
 exact this
theorem Aft.trans(h:Aft E B L B1 L1 w w1)(k:Aft E B1 L1 B' L' w1 w'):Aft E B L B' L' w w':=by
 refine ⟨fun b v h1=>k.lk b v (h.lk b v h1),?_,k.bs,fun b o v h1 h2=>k.cells b o v (h.oks b o v h1 h2) (h.cells b o v h1 h2),fun b o v h1 h2=>k.oks b o v (h.oks b o v h1 h2) (h.cells b o v h1 h2),fun id blk v g h1 h2 h3 h4=>?_⟩
 ·refine (h.mod.trans k.mod).mono fun g o hg hm=>?_
  rcases hm with hm|⟨id,blk,v,h1,h2,h3,h4⟩
  ·exact hm
  ·obtain ⟨id0,blk0,v0,h5,h6,h7,h8⟩:=h.own id blk v g h1 h2 h3 hg
   exact ⟨id0,blk0,v0,h5,h6,h7,fun h9=>h4 (h8 o h9)⟩
 ·obtain ⟨id1,blk1,v1,h5,h6,h7,h8⟩:=k.own id blk v g h1 h2 h3 (Nat.lt_of_lt_of_le h4 h.mod.size)
  obtain ⟨id0,blk0,v0,h9,h10,h11,h12⟩:=h.own id1 blk1 v1 g h5 h6 h7 h4
  exact ⟨id0,blk0,v0,h9,h10,h11,fun o h=>h8 o (h12 o h)⟩
theorem SRel.aft(h:SRel E N T B L a w)(s:Aft E B L B' L' w w'){dst:Option Tmp}{d:AV}{v:Value}(hv:Rep w' (okS E B' L') L' d v)(hd:∀t,dst=some t→t<N):SRel E N (Vx T dst d) B' L' (a.put dst v) w':=by
 refine ⟨fun t=>?_,s.bs,?_,?_⟩
 ·cases dst with
  | none=>exact s.rep (h.slots t)
  | some x=>
    have hx:=hd x rfl
    by_cases e:t=x
    ·subst e
     have e1:(a.put (some t) v).tmps.getD t undef=v:=by
      simp only [Act.put]
      rw [Array.getD_eq_getD_getElem?,Array.getElem?_setIfInBounds_self_of_lt (by rw [h.size];exact hx)]
      rfl
     have e2:Vx T (some t) d t=d:=if_pos rfl
     rw [e1,e2]
     exact hv
    ·have e1:(a.put (some x) v).tmps.getD t undef=a.tmps.getD t undef:=by
      simp only [Act.put]
      rw [Array.getD_eq_getD_getElem?,Array.getElem?_setIfInBounds_ne (Ne.symm e),←Array.getD_eq_getD_getElem?]
     have e2:Vx T (some x) d t=T t:=if_neg e
     rw [e1,e2]
     exact s.rep (h.slots t)
 ·cases dst <;>simp [Act.put,h.size]
 ·cases dst <;>simp [Act.put,h.defers]
theorem V3(l m:List (Nat × Option AB))(x:Nat):ZD (l++m) x=match ZD l x with|some o=>some o|none=>ZD m x:=by
 induction l with
 | nil=>rfl
 | cons p l ih=>
   obtain ⟨y,b⟩:=p
   simp only [List.cons_append,ZD]
   split
   ·rfl
   ·exact ih
theorem XL(B:Nat→Option AB)(l m:List (Nat × Option AB)):ZT (ZT B m) l=ZT B (l++m):=by
 funext x
 unfold ZT
 rw [V3]
 cases ZD l x <;>rfl
def YY(B:Nat→Option AB)(l:List Nat):List (Nat × Option AB):=l.map fun b=>(b,(B b).map AB.freeze)
theorem UC(B:Nat→Option AB)(l:List Nat)(x:Nat):ZD (YY B l) x=if x∈l then some ((B x).map AB.freeze) else none:=by
 induction l with
 | nil=>rfl
 | cons b l ih=>
   simp only [YY,List.map_cons,ZD]
   by_cases h:x=b
   ·subst h;simp
   ·rw [if_neg h]
    have:=ih
    unfold YY at this
    rw [this]
    simp [h]
theorem Y4{k:List (Nat × Option AB)→Tr}{r:AV × List (Nat × Option AB) × Nat}:∀{l:List Nat},(ZaU l k).run T B=some r→(k (YY B l)).run T B=some r∧∀b∈l,∃blk,B b=some blk
 | [],h=>⟨h,fun b hb=>by cases hb⟩
 | b::l,h=>by
   simp only [ZaU,Tr.run] at h
   split at h
   ·rename_i x hx
    obtain ⟨h1,h2⟩:=Y4 (k:=fun up=>k ((b,some x.freeze)::up)) h
    refine ⟨?_,fun c hc=>?_⟩
    ·simp only [YY,List.map_cons,hx,Option.map_some]
     exact h1
    ·rcases List.mem_cons.1 hc with rfl|hc
     ·exact ⟨x,hx⟩
     ·exact h2 c hc
   ·cases h
theorem AB.frz_freeze{blk:AB}(hb:∀e k es fz,blk=.row e k es fz→fz≤es.length){o:Nat}(h:blk.frz o):blk.freeze.frz o:=by
 cases blk with
 | row e k es fz=>
   have:=hb e k es fz rfl
   simp only [AB.frz,AB.freeze] at h ⊢
   exact Nat.lt_of_lt_of_le h (Nat.mul_le_mul_right _ this)
 | box t cs fz=>rfl
 | mp es=>exact h.elim
theorem BRel.frz_freeze{ok:Nat→Nat→Prop}{id:Nat}{blk:AB}(h:BRel w ok L id blk){o:Nat}(ho:blk.frz o):blk.freeze.frz o:=
 AB.frz_freeze (fun e k es fz hb=>by subst hb;obtain ⟨v,xs,_,_,h3,_⟩:=h;exact h3) ho
theorem Step.frz(h:BsRel E B L w)(l:List Nat):Step E B L (YY B l) L w w:=by
 have get:∀id blk,ZD (YY B l) id=some (some blk)→id∈l∧∃b0,B id=some b0∧blk=b0.freeze:=fun id blk hu=>by
  rw [UC] at hu
  split at hu
  ·rename_i hm
   injection hu with hu
   obtain ⟨b0,h1,h2⟩:=Option.map_eq_some_iff.1 hu
   exact ⟨hm,b0,h1,h2.symm⟩
  ·cases hu
 refine ⟨fun _ _ h=>h,Mod.refl _ _,fun hr hrt id blk hu=>?_,fun id blk v g hu hL hg=>?_,fun id id' blk blk' v v' g hu hu' hL hL' hg hg'=>?_⟩
 ·obtain ⟨hm,b0,h1,rfl⟩:=get id blk hu
  have hb:=h.blk id b0 h1
  cases b0 with
  | row e k es fz=>
    obtain ⟨v,xs,h2,h3,h4,h5,h6⟩:=hb
    exact ⟨v,xs,h2,h3,Nat.le_refl _,h5,fun i j x d h7 h8=>by
     obtain ⟨u,h9,h10⟩:=h6 i j x d h7 h8
     exact ⟨u,h9,hrt _ _ h10⟩⟩
  | box t cs fz=>
    obtain ⟨g,cells,h2,h3,h4,h5,h6⟩:=hb
    exact ⟨g,cells,h2,h3,h4,fun i d hi=>hr _ _ (h5 i d hi),h6⟩
  | mp es=>
    obtain ⟨g,ents,c,h2,h3,h4⟩:=hb
    exact ⟨g,ents,c,h2,h3,h4⟩
 ·obtain ⟨hm,b0,h1,rfl⟩:=get id blk hu
  exact .inr ⟨id,b0,v,by rw [hu];rfl,h1,hL,hg,fun o ho=>(h.blk id b0 h1).frz_freeze ho⟩
 ·obtain ⟨hm,b0,h1,rfl⟩:=get id blk hu
  obtain ⟨hm',b1,h2,rfl⟩:=get id' blk' hu'
  exact h.inj id id' b0 b1 v v' g h1 h2 hL hL' hg hg'
structure FrzOk (E:Nat→Nat→Prop) (B:Nat→Option AB) (L:Nat→Option Value) (w:World) (fs:List Nat) (ok':Nat→Nat→Prop):Prop where
 old:∀b o v,okS E B L b o→w.cell? ⟨b,o,none⟩=some v→ok' b o
 new:∀b,b∈fs→∀blk v g o,B b=some blk→L b=some v→gOf v=some g→blk.freeze.frz o→ok' g o
theorem FrzOk.sub{fs fs':List Nat}{ok':Nat→Nat→Prop}(h:FrzOk E B L w fs ok')(hs:∀b∈fs',b∈fs):FrzOk E B L w fs' ok':=⟨h.old,fun b hb=>h.new b (hs b hb)⟩
theorem FrzOk.of(h:BsRel E B L w)(l:List Nat):FrzOk E B L w l (okS E (ZT B (YY B l)) L):=by
 refine ⟨(Step.frz h l).oks h,fun b hb blk v g o h1 h2 h3 h4=>⟨h.ext b blk v g h1 h2 h3 o,fun id blk' v' h5 h6 h7=>?_⟩⟩
 have hu:ZD (YY B l) b=some (some blk.freeze):=by rw [UC,if_pos hb,h1];rfl
 have h5':=h5
 have:id=b:=(Step.frz h l).bs h |>.inj id b blk' blk.freeze v' v g h5 (Qb hu) h6 h2 h7 h3
 subst this
 rw [Qb hu] at h5
 cases h5
 exact h4
theorem Wv{r:AV→(AV→List Nat→Tr)→Tr}{F:AV→Value→Prop}{G:AV→List Nat→Value→Prop}(hr:∀(d:AV) (k:AV→List Nat→Tr) (x:AV × List (Nat × Option AB) × Nat),(r d k).run T B=some x→∃d' fs,(k d' fs).run T B=some x∧∀v,F d v→G d' fs v):
  ∀(cs:List AV) (k:List AV→List Nat→Tr) (x:AV × List (Nat × Option AB) × Nat),(V4 r cs k).run T B=some x→
   ∃cs' fs,(k cs' fs).run T B=some x∧cs'.length=cs.length∧∀(i:Nat) (d d':AV),cs[i]?=some d→cs'[i]?=some d'→∃fs',(∀b∈fs',b∈fs)∧∀v,F d v→G d' fs' v
 | [],k,x,h=>⟨[],[],h,rfl,fun i d d' h1=>by simp at h1⟩
 | c::cs,k,x,h=>by
   obtain ⟨c',f1,h1,h2⟩:=hr c _ x h
   obtain ⟨cs',f2,h3,h4,h5⟩:=Wv hr cs _ x h1
   refine ⟨c'::cs',f1++f2,h3,by simp [h4],fun i d d' h6 h7=>?_⟩
   cases i with
   | zero=>simp at h6 h7;subst h6 h7;exact ⟨f1,fun b hb=>by simp [hb],h2⟩
   | succ i=>
     obtain ⟨fs',h8,h9⟩:=h5 i d d' (by simpa using h6) (by simpa using h7)
     exact ⟨fs',fun b hb=>by simp [h8 b hb],h9⟩
theorem Qv(h:BsRel E B L w):∀(n:Nat) (d:AV) (k:AV→List Nat→Tr) (x:AV × List (Nat × Option AB) × Nat),(res n d k).run T B=some x→
  ∃d' fs,(k d' fs).run T B=some x∧∀v,Rep w (okS E B L) L d v→∀ok',FrzOk E B L w fs ok'→RepT w ok' d' v:=by
 have plain:∀(d:AV) (v:Value) (ok':Nat→Nat→Prop) (fs:List Nat),d.isT=true→Rep w (okS E B L) L d v→FrzOk E B L w fs ok'→RepT w ok' d v:=fun d v ok' fs h1 h2 h3=>(h2.toT h1).mono (fun _ _ _ _ h=>h) h3.old
 intro n
 induction n with
 | zero=>
   intro d k x hx
   simp only [res] at hx
   split at hx
   ·rename_i ht
    exact ⟨d,[],hx,fun v hv ok' hf=>plain d v ok' [] ht hv hf⟩
   ·simp [Tr.run] at hx
 | succ n ih=>
   have lst:∀(cs:List AV) (k:List AV→List Nat→Tr) (x:AV × List (Nat × Option AB) × Nat),(V4 (res n) cs k).run T B=some x→
     ∃cs' fs,(k cs' fs).run T B=some x∧cs'.length=cs.length∧∀ok',FrzOk E B L w fs ok'→∀(i:Nat) (d d':AV),cs[i]?=some d→cs'[i]?=some d'→∀v,Rep w (okS E B L) L d v→RepT w ok' d' v:=fun cs k x hx=>by
    obtain ⟨cs',fs,h1,h2,h3⟩:=Wv (F:=fun d v=>Rep w (okS E B L) L d v) (G:=fun d' fs v=>∀ok',FrzOk E B L w fs ok'→RepT w ok' d' v) ih cs k x hx
    refine ⟨cs',fs,h1,h2,fun ok' hf i d d' h4 h5 v hv=>?_⟩
    obtain ⟨fs',h6,h7⟩:=h3 i d d' h4 h5
    exact h7 v hv ok' (hf.sub h6)
   have elem:∀{cs cs':List AV} {vs:Array Value} {ok':Nat→Nat→Prop},cs'.length=cs.length→(∀(i:Nat) (d d':AV),cs[i]?=some d→cs'[i]?=some d'→∀v,Rep w (okS E B L) L d v→RepT w ok' d' v)→
     (∀(i:Nat) (d:AV),cs[i]?=some d→Rep w (okS E B L) L d (vs.getD i undef))→∀(i:Nat) (d':AV),cs'[i]?=some d'→RepT w ok' d' (vs.getD i undef):=fun hl h1 h2 i d' h3=>by
    have hi:=(List.getElem?_eq_some_iff.1 h3).1
    exact h1 i _ d' (List.getElem?_eq_getElem (by omega)) h3 _ (h2 i _ (List.getElem?_eq_getElem (by omega)))
   intro d k x hx
   have rest:d.isT=true→(k d []).run T B=some x→∃d' fs,(k d' fs).run T B=some x∧∀v,Rep w (okS E B L) L d v→∀ok',FrzOk E B L w fs ok'→RepT w ok' d' v:=fun ht hx=>⟨d,[],hx,fun v hv ok' hf=>plain d v ok' [] ht hv hf⟩
   cases d with
   | any=>exact rest rfl hx
   | lit v=>exact rest rfl hx
   | err=>exact rest rfl hx
   | nl kk=>exact ⟨_,[],hx,fun v hv ok' hf=>by cases hv with|t hv=>cases hv;exact .nil _ _⟩
   | sl k es=>exact rest rfl hx
   | mem cs=>exact rest rfl hx
   | rptr b k i j=>simp [res,Tr.run] at hx
   | mp b=>simp [res,Tr.run] at hx
   | agg cs=>
     obtain ⟨cs',fs,h1,h2,h3⟩:=lst cs _ x hx
     refine ⟨_,fs,h1,fun v hv ok' hf=>?_⟩
     cases hv with
     | t hv=>cases hv with|agg hn hh=>exact .agg (by omega) (elem h2 (h3 ok' hf) fun i d hi=>.t (hh i d hi))
     | agg hn hh=>exact .agg (by omega) (elem h2 (h3 ok' hf) hh)
   | tup cs=>
     obtain ⟨cs',fs,h1,h2,h3⟩:=lst cs _ x hx
     refine ⟨_,fs,h1,fun v hv ok' hf=>?_⟩
     cases hv with
     | t hv=>cases hv with|tup hn hh=>exact .tup (by omega) (elem h2 (h3 ok' hf) fun i d hi=>.t (hh i d hi))
     | tup hn hh=>exact .tup (by omega) (elem h2 (h3 ok' hf) hh)
   | clo f cs=>
     obtain ⟨cs',fs,h1,h2,h3⟩:=lst cs _ x hx
     refine ⟨_,fs,h1,fun v hv ok' hf=>?_⟩
     cases hv with
     | t hv=>cases hv with|clo hn hh=>exact .clo (by omega) (elem h2 (h3 ok' hf) fun i d hi=>.t (hh i d hi))
     | clo hn hh=>exact .clo (by omega) (elem h2 (h3 ok' hf) hh)
   | own b m=>
     simp only [res,Tr.run] at hx
     split at hx
     ·rename_i y hy
      split at hx
      ·rename_i e kk es fz
       split at hx
       ·rename_i hm
        refine ⟨_,_,hx,fun v hv ok' hf=>?_⟩
        cases hv with
        | t hv=>cases hv
        | own hL=>
          rename_i c ad
          subst hm
          have hb:=h.blk b _ hy
          obtain ⟨v',xs,h1,h2,h3,h4,h5⟩:=hb
          rw [hL] at h1;cases h1
          rcases h2.own.2 with ⟨h6,h7⟩|⟨g,cap,cur,h6,_,_,hcap,_⟩
          ·have:es=[]:=List.eq_nil_of_length_eq_zero h7
           subst this
           exact .nil _ _
          ·cases h6
           have cl:∀(i j:Nat) (e':List AV) (d:AV),es[i]?=some e'→e'[j]?=some d→∃u,w.cell? ⟨g,0+i*kk+j,none⟩=some u∧RepT w (okS E B L) d u:=fun i j e' d h8 h9=>by
            rw [Nat.zero_add]
            exact (h.blk b _ hy).row_cell hL h8 h9
           refine .sl h4 hcap (fun i j e' d h8 h9=>?_) (fun i j e' d h8 h9=>?_)
           ·obtain ⟨u,h10,_⟩:=cl i j e' d h8 h9
            refine ⟨hf.new b (by simp) _ _ g _ hy hL rfl ?_,by rw [h10];rfl⟩
            have hi:=(List.getElem?_eq_some_iff.1 h8).1
            have hj:=(List.getElem?_eq_some_iff.1 h9).1
            have hk:=h4 e' (List.mem_of_getElem? h8)
            simp only [AB.freeze,AB.frz]
            have:(i+1)*kk≤es.length*kk:=Nat.mul_le_mul_right _ hi
            rw [Nat.add_mul] at this
            omega
           ·obtain ⟨u,h10,h11⟩:=cl i j e' d h8 h9
            rw [h10]
            exact h11.mono (fun _ _ _ _ h=>h) hf.old
       ·simp [Tr.run] at hx
      ·simp [Tr.run] at hx
     ·cases hx
   | ptr b o=>
     simp only [res,Tr.run] at hx
     split at hx
     ·rename_i y hy
      split at hx
      ·rename_i t cs fz
       obtain ⟨cs',fs,h1,h2,h3⟩:=lst cs _ x hx
       refine ⟨_,_,h1,fun v hv ok' hf=>?_⟩
       cases hv with
       | t hv=>cases hv
       | ptr hL=>
         rename_i g
         have cl:∀(j:Nat) (d':AV),(cs'.drop o)[j]?=some d'→∃u,w.cell? ⟨g,o+j,none⟩=some u∧RepT w ok' d' u:=fun j d' h4=>by
          rw [List.getElem?_drop] at h4
          have hi:=(List.getElem?_eq_some_iff.1 h4).1
          have h5:cs[o+j]?=some (cs[o+j]'(by omega)):=List.getElem?_eq_getElem (by omega)
          obtain ⟨u,h6,h7⟩:=(h.blk b _ hy).box_cell hL h5
          exact ⟨u,h6,h3 ok' (hf.sub fun c hc=>List.mem_cons_of_mem _ hc) _ _ _ h5 h4 u h7⟩
         refine .mem (fun j d' h4=>?_) (fun j d' h4=>?_)
         ·obtain ⟨u,h6,_⟩:=cl j d' h4
          exact ⟨hf.new b (by simp) _ _ g _ hy hL rfl rfl,by rw [h6];rfl⟩
         ·obtain ⟨u,h6,h7⟩:=cl j d' h4
          rw [h6]
          exact h7
      ·simp [Tr.run] at hx
     ·cases hx
end
theorem Qj{α:Type}{cs:List α}{o:Nat}{ds:List α}(h:o+ds.length≤cs.length):(splice cs o ds).length=cs.length:=by
 simp [splice];omega
theorem Yv{α:Type}{cs:List α}{o:Nat}{ds:List α}(h:o+ds.length≤cs.length)(i:Nat):(splice cs o ds)[i]?=if i<o then cs[i]? else if i<o+ds.length then ds[i-o]? else cs[i]?:=by
 unfold splice
 by_cases h1:i<o
 ·rw [if_pos h1,List.append_assoc,List.getElem?_append_left (by simp;omega),List.getElem?_take,if_pos h1]
 ·rw [if_neg h1]
  by_cases h2:i<o+ds.length
  ·rw [if_pos h2,List.append_assoc,List.getElem?_append_right (by simp;omega),List.getElem?_append_left (by simp;omega)]
   congr 1
   simp;omega
  ·rw [if_neg h2,List.getElem?_append_right (by simp;omega),List.getElem?_drop]
   congr 1
   simp;omega
theorem ZgP{α:Type}{cs:List α}{o m:Nat}{ds:List α}(h:o+ds.length≤m)(hm:m≤cs.length):(splice cs o ds).take m=splice (cs.take m) o ds:=by
 apply List.ext_getElem?
 intro i
 rw [List.getElem?_take,Yv (by omega),Yv (by simp;omega),List.getElem?_take]
 by_cases h1:i<o
 ·simp [h1,show i<m by omega]
 ·by_cases h2:i<o+ds.length
  ·simp [h1,h2,show i<m by omega]
  ·simp [h1,h2]
theorem Zdr{α:Type}{cs:List α}{o:Nat}{ds:List α}{x:α}(h:x∈splice cs o ds):x∈cs∨x∈ds:=by
 simp only [splice,List.mem_append] at h
 rcases h with (h|h)|h
 ·exact .inl (List.mem_of_mem_take h)
 ·exact .inr h
 ·exact .inl (List.mem_of_mem_drop h)
theorem AV.allNotU_get:∀{l:List AV} {i:Nat} {d:AV},AV.allNotU l=true→l[i]?=some d→d.notU=true
 | [],_,_,_,h=>by simp at h
 | x::l,0,d,h,hi=>by
   rw [AV.allNotU,Bool.and_eq_true] at h
   simp at hi
   exact hi▸h.1
 | x::l,i+1,d,h,hi=>by
   rw [AV.allNotU,Bool.and_eq_true] at h
   exact AV.allNotU_get h.2 (by simpa using hi)
section
variable{P:Program}{E:Nat→Nat→Prop}{w w':World}{N:Nat}{T:Nat→AV}{B:Nat→Option AB}{L L':Nat→Option Value}{a:Act}{up:List (Nat × Option AB)}
theorem Xm{ok:Nat→Nat→Prop}{d:AV}{ds:List AV}(hd:d.cellsOf=some ds){v:Value}(h:Rep w ok L d v):v.cells.size=ds.length∧∀(i:Nat) (x:AV),ds[i]?=some x→Rep w ok L x (v.cells.getD i undef):=by
 have one:d.cellsOf=some [d]→v.cells=#[v]→v.cells.size=ds.length∧∀(i:Nat) (x:AV),ds[i]?=some x→Rep w ok L x (v.cells.getD i undef):=fun h1 h2=>by
  rw [h1] at hd
  cases hd
  rw [h2]
  refine ⟨rfl,fun i x hx=>?_⟩
  cases i with
  | zero=>simp at hx;subst hx;exact h
  | succ i=>simp at hx
 have agg:∀vs:Array Value,∀cs:List AV,d=.agg cs→v=.agg vs→vs.size=cs.length→(∀(i:Nat) (x:AV),cs[i]?=some x→Rep w ok L x (vs.getD i undef))→v.cells.size=ds.length∧∀(i:Nat) (x:AV),ds[i]?=some x→Rep w ok L x (v.cells.getD i undef):=fun vs cs h1 h2 h3 h4=>by
  subst h1 h2
  simp [AV.cellsOf] at hd
  subst hd
  exact ⟨h3,h4⟩
 cases h with
 | t h=>
   cases h with
   | any v=>simp [AV.cellsOf] at hd
   | lit v=>
     cases v <;>first
      | (simp [AV.cellsOf] at hd;done)
      | exact one rfl rfl
   | agg h1 h2=>exact agg _ _ rfl rfl h1 fun i x hx=>.t (h2 i x hx)
   | tup h1 h2=>simp [AV.cellsOf] at hd
   | clo h1 h2=>exact one rfl rfl
   | nl k=>exact one rfl rfl
   | err t v=>exact one rfl rfl
   | nil a c=>exact one rfl rfl
   | sl h1 h2 h3 h4=>exact one rfl rfl
   | mem h1 h2=>exact one rfl rfl
 | agg h1 h2=>exact agg _ _ rfl rfl h1 h2
 | tup h1 h2=>simp [AV.cellsOf] at hd
 | clo h1 h2=>exact one rfl rfl
 | own h=>exact one rfl rfl
 | ptr h=>exact one rfl rfl
 | rptr h=>exact one rfl rfl
 | mp h=>exact one rfl rfl
theorem We(w:World)(g:Nat)(cs:Array Value)(k:Nat)(h:k≠g):(w.setRow g cs).heap[k]?=w.heap[k]?:=by
 simp only [World.setRow]
 rw [Array.getElem?_modify]
 rw [if_neg (Ne.symm h)]
theorem ZgU(w:World)(g:Nat)(cs:Array Value):(w.setRow g cs).heap.size=w.heap.size:=by simp [World.setRow]
theorem ZdC{M:Nat→Nat→Prop}{g:Nat}{cur arr:Array Value}{t:TypeId}{fr:Nat × Nat}(hg:w.heap[g]?=some (.cells cur t fr))(hz:arr.size=cur.size)(hs:∀o,¬M g o→arr[o]?=cur[o]?):Mod M w (w.setRow g arr):=by
 refine ⟨rfl,rfl,rfl,by rw [ZgU];exact Nat.le_refl _,fun k hk hn=>?_,fun k o v hn hv=>?_,fun k _=>?_⟩
 ·by_cases e:k=g
  ·subst e
   have:arr=cur:=by
    apply Array.ext_getElem?
    intro i
    exact hs i (hn i)
   rw [setRow_heap w k cur arr t fr hg,hg,this]
  ·exact We w g arr k e
 ·by_cases e:k=g
  ·subst e
   rw [cell_setRow_same w k o cur arr t fr hg,hs o hn]
   have:w.cell? ⟨k,o,none⟩=cur[o]?:=by simp [World.cell?,hg]
   rw [←this];exact hv
  ·rw [World.cell?_of_block (w:=w) (a:=⟨k,o,none⟩) (We w g arr k e)]
   exact hv
 ·by_cases e:k=g
  ·subst e
   simp [World.shape?,setRow_heap w k cur arr t fr hg,hg,hz]
  ·simp [World.shape?,We w g arr k e]
theorem KI{t:TypeId}{gg:Bool}{n:Nat}(ht:QO P t=some (gg,n)){v:Value}(hn:v.cells.size=n)(h1:∀x∈v.cells.toList,x.oneCell'=true){g o:Nat}{cur:Array Value}{ty:TypeId}(hg:w.heap[g]?=some (.cells cur ty (0,0)))(ho:o+n≤cur.size):
  (Instr.storeAt t (.pointer (some ⟨g,o,none⟩)) v).run P w=.ok () (w.setRow g (splice cur.toList o v.cells.toList).toArray):=by
 have hl:v.cells.toList.length=n:=by simp [hn]
 have h2:=run_storeCells_at (P:=P) g o ty v.cells.toList 0 cur w hg (by rw [hl];omega) h1
 simp only [Instr.storeAt,Instr.sureAddr,storeVar,Sem.run_bind,Sem.run_pure,Result.andThen_ok,QJ ht,hn]
 simp only [ne_eq,not_true_eq_false,if_false,Sem.run_pure,Result.andThen_ok]
 rw [h2]
 rfl
theorem Zvl(h:BsRel E B L w){t:TypeId}{g:Bool}{n:Nat}(ht:QO P t=some (g,n)){b k i j fz gg n' c':Nat}{e':TypeId}{es:List (List AV)}{el ds:List AV}{u:Value}(hL:L b=some (.slice (some ⟨gg,0,none⟩) n' c'))(hy:B b=some (.row e' k es fz))(hel':es[i]?=some el)(hfz:fz≤i)(hj:j+ds.length≤el.length)(hn:ds.length=n)(hsz:u.cells.size=ds.length)(hval:∀x∈u.cells.toList,Xp x∧x.oneCell'=true)(hel:∀(i:Nat) (x:AV),ds[i]?=some x→RepT w (okS E B L) x (u.cells.getD i undef)):
  ∃w',(Instr.storeAt t (.pointer (some ⟨gg,i*k+j,none⟩)) u).run P w=.ok () w'∧Aft E B L (ZT B [(b,some (.row e' k (es.set i (splice el j ds)) fz))]) L w w':=by
 obtain ⟨v',xs,h1,h2,h3,h4,h5⟩:=h.blk b _ hy
 rw [hL] at h1;cases h1
 have hi:=(List.getElem?_eq_some_iff.1 hel').1
 have hk:=h4 el (List.mem_of_getElem? hel')
 have hik:(i+1)*k≤es.length*k:=Nat.mul_le_mul_right _ hi
 rw [Nat.add_mul,Nat.one_mul] at hik
 rcases h2.own.2 with ⟨h6,_⟩|⟨g',cap,cur,h6,_,h7,h8,h9,h10,h11⟩
 ·cases h6
 ·cases h6
  have hcap:es.length*k≤c'*k:=Nat.mul_le_mul_right _ h8
  have hlen:xs.length=es.length*k:=h2.own.1
  have hvl:u.cells.toList.length=ds.length:=by simp;omega
  have hl:(i*k+j)+u.cells.toList.length≤cur.toList.length:=by simp;omega
  have hlx:(i*k+j)+u.cells.toList.length≤xs.length:=by omega
  have hst:=KI (P:=P) (w:=w) ht (v:=u) (by omega) (fun x hx=>(hval x hx).2) h7 (o:=i*k+j) (by omega)
  refine ⟨_,hst,Step.aft ⟨fun _ _ h=>h,ZdC h7 (by rw [List.size_toArray,Qj hl,Array.length_toList]) fun o' hM=>?_,fun hr hrt id blk hu=>?_,fun id blk v' g0 hu hL' hg'=>?_,fun id id' blk blk' v1 v2 g0 hu hu' _ _ _ _=>?_⟩ h⟩
  ·have hfr:o'<fz*k:=by
    rcases Nat.lt_or_ge o' (fz*k) with h|h
    ·exact h
    ·exact absurd ⟨b,_,_,by simp [ZD],hy,hL,rfl,by simp only [AB.frz];omega⟩ hM
   have h12:fz*k≤i*k:=Nat.mul_le_mul_right _ hfz
   rw [List.getElem?_toArray,Yv hl,if_pos (by omega)]
   simp
  ·simp only [ZD] at hu
   split at hu
   ·rename_i e0
    subst e0
    cases hu
    refine ⟨_,splice xs (i*k+j) u.cells.toList,hL,⟨⟨by rw [Qj hlx,List.length_set];exact hlen,.inr ⟨gg,c',_,by rw [List.length_set],Nat.zero_le _,setRow_heap w gg cur _ e' (0,0) h7,by rw [List.length_set];exact h8,h9,by simp [Qj hl,h10],?_⟩⟩,fun g0 cur' t0 p0 hg0 hc0 x hx=>?_⟩,by rw [List.length_set];exact h3,fun x hx=>?_,fun i' j' x d hi' hj'=>?_⟩
    ·rw [List.length_set]
     simp only [List.toList_toArray]
     rw [ZgP (by omega) (by simp;omega),h11]
    ·simp only [Value.ownBlock,Option.some.injEq] at hg0
     subst hg0
     rw [setRow_heap w gg cur _ e' (0,0) h7] at hc0
     cases hc0
     rcases Zdr (by simpa using hx) with h13|h13
     ·exact h2.all gg cur e' (0,0) rfl h7 x (by simpa using h13)
     ·exact (hval x h13).1
    ·rcases List.mem_or_eq_of_mem_set hx with h13|rfl
     ·exact h4 x h13
     ·rw [Qj hj];exact hk
    ·rw [List.getElem?_set] at hi'
     split at hi'
     ·rename_i e1
      subst e1
      cases hi'
      rw [Yv hj] at hj'
      rw [Yv hlx]
      by_cases h13:j'<j
      ·rw [if_pos h13] at hj'
       rw [if_pos (by omega)]
       obtain ⟨u',h14,h15⟩:=h5 i j' el d hel' hj'
       exact ⟨u',h14,hrt _ _ h15⟩
      ·rw [if_neg h13] at hj'
       rw [if_neg (by omega)]
       by_cases h16:j'<j+ds.length
       ·rw [if_pos h16] at hj'
        rw [if_pos (by omega)]
        have h18:=hrt _ _ (hel (j'-j) d hj')
        refine ⟨_,?_,h18⟩
        rw [show i*k+j'-(i*k+j)=j'-j by omega]
        have:j'-j<u.cells.size:=by omega
        rw [Array.getElem?_toList,Array.getD_eq_getD_getElem?,Array.getElem?_eq_getElem this];rfl
       ·rw [if_neg h16] at hj'
        rw [if_neg (by omega)]
        obtain ⟨u',h14,h15⟩:=h5 i j' el d hel' hj'
        exact ⟨u',h14,hrt _ _ h15⟩
     ·rename_i e1
      obtain ⟨u',h14,h15⟩:=h5 i' j' x d hi' hj'
      refine ⟨u',?_,hrt _ _ h15⟩
      have hj2:=(List.getElem?_eq_some_iff.1 hj').1
      have hk2:=h4 x (List.mem_of_getElem? hi')
      rw [Yv hlx]
      rcases Nat.lt_or_gt_of_ne e1 with h16|h16
      ·have h17:(i+1)*k≤i'*k:=Nat.mul_le_mul_right _ h16
       rw [Nat.add_mul,Nat.one_mul] at h17
       rw [if_neg (by omega),if_neg (by omega)]
       exact h14
      ·have h17:(i'+1)*k≤i*k:=Nat.mul_le_mul_right _ h16
       rw [Nat.add_mul,Nat.one_mul] at h17
       rw [if_pos (by omega)]
       exact h14
   ·cases hu
  ·simp only [ZD] at hu
   split at hu
   ·rename_i e0
    subst e0
    cases hu
    rw [hL] at hL';cases hL'
    cases hg'
    exact .inr ⟨id,_,_,by simp [ZD],hy,hL,rfl,fun o h=>h⟩
   ·cases hu
  ·simp only [ZD] at hu hu'
   split at hu
   ·split at hu'
    ·rename_i e1 e2;rw [e1,e2]
    ·cases hu'
   ·cases hu
theorem Zhn(h:BsRel E B L w){t:TypeId}{g:Bool}{n:Nat}(ht:QO P t=some (g,n)){d e:AV}{v u:Value}(hv:Rep w (okS E B L) L d v)(hu:Rep w (okS E B L) L e u){nx nx':Nat}{r:AV}(hr:(stT n d e nx).run T B=some (r,up,nx')):
  r=.any∧nx'=nx∧∃w',(Instr.storeAt t v u).run P w=.ok () w'∧Aft E B L (ZT B up) L w w':=by
 unfold stT at hr
 split at hr
 ·rename_i ds hds
  obtain ⟨hsz,hel⟩:=Xm hds hu
  split at hr
  ·rename_i hc
   obtain ⟨hn,hnot⟩:=hc
   have hval:∀x∈u.cells.toList,Xp x∧x.oneCell'=true:=fun x hx=>by
    obtain ⟨i,hi⟩:=List.mem_iff_getElem?.1 hx
    have hlt:=(List.getElem?_eq_some_iff.1 hi).1
    have h1:ds[i]?=some (ds[i]'(by simp at hlt;omega)):=List.getElem?_eq_getElem _
    have h2:=(hel i _ h1).notU (AV.allNotU_get hnot h1)
    have:u.cells.getD i undef=x:=by rw [Array.getD_eq_getD_getElem?,←Array.getElem?_toList,hi];rfl
    rw [this] at h2
    exact h2
   split at hr
   ·rename_i b o
    simp only [Tr.run] at hr
    split at hr
    ·rename_i y hy
     split at hr
     ·rename_i t' cs fz
      split at hr
      ·rename_i hc
       obtain ⟨rfl,ho⟩:=hc
       simp only [Tr.run,Option.some.injEq,Prod.mk.injEq] at hr
       obtain ⟨rfl,rfl,rfl⟩:=hr
       refine ⟨rfl,rfl,?_⟩
       cases hv with
       | t hv=>cases hv
       | ptr hL=>
         rename_i gg
         obtain ⟨g',cells,h1,h2,h3,h4,h5⟩:=h.blk b _ hy
         rw [hL] at h1;cases h1
         refine ⟨_,KI ht (by omega) (fun x hx=>(hval x hx).2) h2 (by omega),Step.aft ⟨fun _ _ h=>h,ZdC h2 (by rw [List.size_toArray,Qj (by simp;omega),Array.length_toList]) fun o' hM=>?_,fun hr hrt id blk hu=>?_,fun id blk v' g0 hu hL' hg'=>?_,fun id id' blk blk' v1 v2 g0 hu hu' _ _ _ _=>?_⟩ h⟩
         ·exact absurd ⟨b,_,_,by simp [ZD],hy,hL,rfl,by simp [AB.frz]⟩ hM
         ·simp only [ZD] at hu
          split at hu
          ·rename_i e0
           subst e0
           cases hu
           have hl:o+u.cells.toList.length≤cells.toList.length:=by simp;omega
           refine ⟨gg,_,hL,setRow_heap w gg cells _ t' (0,0) h2,by simp [Qj hl,Qj ho,h3],fun i d hi=>?_,fun x hx=>?_⟩
           ·rw [Yv ho] at hi
            have e1:(splice cells.toList o u.cells.toList).toArray.getD i undef=((splice cells.toList o u.cells.toList)[i]?).getD undef:=by rw [Array.getD_eq_getD_getElem?];simp
            rw [e1,Yv hl]
            by_cases hi1:i<o
            ·rw [if_pos hi1] at hi ⊢
             have:=hr _ _ (h4 i d hi)
             rwa [Array.getD_eq_getD_getElem?,←Array.getElem?_toList] at this
            ·rw [if_neg hi1] at hi ⊢
             by_cases hi2:i<o+ds.length
             ·rw [if_pos hi2] at hi
              rw [if_pos (by simp;omega)]
              have:=hr _ _ (hel (i-o) d hi)
              rwa [Array.getD_eq_getD_getElem?,←Array.getElem?_toList] at this
             ·rw [if_neg hi2] at hi
              rw [if_neg (by simp;omega)]
              have:=hr _ _ (h4 i d hi)
              rwa [Array.getD_eq_getD_getElem?,←Array.getElem?_toList] at this
           ·rcases Zdr (by simpa using hx) with h9|h9
            ·exact h5 x (by simpa using h9)
            ·exact (hval x h9).1
          ·cases hu
         ·simp only [ZD] at hu
          split at hu
          ·rename_i e0
           subst e0
           cases hu
           rw [hL] at hL';cases hL'
           cases hg'
           exact .inr ⟨id,_,_,by simp [ZD],hy,hL,rfl,fun o h=>h⟩
          ·cases hu
         ·simp only [ZD] at hu hu'
          split at hu
          ·split at hu'
           ·rename_i e1 e2;rw [e1,e2]
           ·cases hu'
          ·cases hu
      ·simp [Tr.run] at hr
     ·simp [Tr.run] at hr
    ·cases hr
   ·rename_i b k i j
    obtain ⟨ds',fs,hr,hlen',hres⟩:=Wv (F:=fun d v=>Rep w (okS E B L) L d v) (G:=fun d' fs v=>∀ok',FrzOk E B L w fs ok'→RepT w ok' d' v) (fun d k x hx=>Qv h 2 d k x hx) ds _ _ hr
    split at hr
    ·rename_i hbf
     simp only [Tr.run] at hr
     split at hr
     ·rename_i y hy
      split at hr
      ·rename_i e' k' es fz
       split at hr
       ·rename_i hc
        obtain ⟨rfl,hfz⟩:=hc
        split at hr
        ·rename_i el hel'
         split at hr
         ·rename_i hj
          obtain ⟨hr,_⟩:=Y4 hr
          simp only [Tr.run,Option.some.injEq,Prod.mk.injEq] at hr
          obtain ⟨rfl,rfl,rfl⟩:=hr
          refine ⟨rfl,rfl,?_⟩
          have hB1:=(Step.frz h fs).aft h
          have hb1:ZT B (YY B fs) b=some (.row e' k es fz):=by
           rw [QQ ?_,hy]
           rw [UC,if_neg ?_]
           simpa using hbf
          cases hv with
          | t hv=>cases hv
          | rptr hL=>
            obtain ⟨w',h1,h2⟩:=Zvl hB1.bs ht hL hb1 hel' hfz hj (by omega) (by omega) hval fun i' x hi'=>by
             have hlt:=(List.getElem?_eq_some_iff.1 hi').1
             have h3:ds[i']?=some (ds[i']'(by omega)):=List.getElem?_eq_getElem _
             obtain ⟨fs',h4,h5⟩:=hres i' _ x h3 hi'
             exact h5 _ (hel i' _ h3) _ ((FrzOk.of h fs).sub h4)
            have h3:=hB1.trans h2
            rw [XL] at h3
            exact ⟨w',h1,h3⟩
         ·simp [Tr.run] at hr
        ·simp [Tr.run] at hr
       ·simp [Tr.run] at hr
      ·simp [Tr.run] at hr
     ·cases hr
    ·simp [Tr.run] at hr
   ·simp [Tr.run] at hr
  ·simp [Tr.run] at hr
 ·simp [Tr.run] at hr
end
section
variable{P:Program}{E:Nat→Nat→Prop}{w w':World}{N:Nat}{T:Nat→AV}{B:Nat→Option AB}{L L':Nat→Option Value}{a:Act}{up:List (Nat × Option AB)}
def Wb(L:Nat→Option Value)(nx:Nat)(v:Value)(id:Nat):Option Value:=if id=nx then some v else L id
theorem ZH(L:Nat→Option Value)(nx:Nat)(v:Value):Wb L nx v nx=some v:=if_pos rfl
theorem UU{nx:Nat}(h:L nx=none)(v:Value):∀b u,L b=some u→Wb L nx v b=some u:=fun b u hb=>by
 unfold Wb
 by_cases e:b=nx
 ·subst e;rw [h] at hb;cases hb
 ·rw [if_neg e];exact hb
theorem Xt{nx:Nat}(v:Value):∀id,L id=none→Wb L nx v id≠none→nx≤id∧id<nx+1:=fun id h1 h2=>by
 unfold Wb at h2
 split at h2
 ·omega
 ·exact absurd h1 h2
theorem Step.fresh{nx:Nat}{v:Value}{blk:AB}(hL:L nx=none)(hm:Mod (fun _ _=>False) w w')(hn:(∀d v,Rep w (okS E B L) L d v→Rep w' (okS E (ZT B [(nx,some blk)]) (Wb L nx v)) (Wb L nx v) d v)→True)(hnew:(∀d u,Rep w (okS E B L) L d u→Rep w' (okS E (ZT B [(nx,some blk)]) (Wb L nx v)) (Wb L nx v) d u)→(∀d u,RepT w (okS E B L) d u→RepT w' (okS E (ZT B [(nx,some blk)]) (Wb L nx v)) d u)→BRel w' (okS E (ZT B [(nx,some blk)]) (Wb L nx v)) (Wb L nx v) nx blk)(hg:∀g,gOf v=some g→w.heap.size≤g):Step E B L [(nx,some blk)] (Wb L nx v) w w':=by
 refine ⟨UU hL v,hm.mono fun _ _ _ h=>h.elim,fun hr hrt id b hu=>?_,fun id b u g hu hL' hg'=>?_,fun id id' b b' u u' g hu hu' _ _ _ _=>?_⟩
 ·simp only [ZD] at hu
  split at hu
  ·rename_i e;subst e;cases hu
   exact hnew hr hrt
  ·cases hu
 ·simp only [ZD] at hu
  split at hu
  ·rename_i e;subst e
   rw [ZH] at hL';cases hL'
   exact .inl (hg g hg')
  ·cases hu
 ·simp only [ZD] at hu hu'
  split at hu
  ·split at hu'
   ·rename_i e1 e2;rw [e1,e2]
   ·cases hu'
  ·cases hu
theorem ZbP(h:BsRel E B L w){nx:Nat}(hL:L nx=none){t:TypeId}{cs:List AV}{cells:Array Value}(hsz:cells.size=cs.length)(hel:∀(i:Nat) (d:AV),cs[i]?=some d→Rep w (okS E B L) L d (cells.getD i undef))(hn:AV.allNotU cs=true):
  Aft E B L (ZT B [(nx,some (.box t cs false))]) (Wb L nx (.pointer (some ⟨w.heap.size,0,none⟩))) w (w.alloc (.cells cells t)):=by
 refine Step.aft (Step.fresh hL (Mod.alloc _ _ _) (fun _=>trivial) (fun hr hrt=>?_) fun g hg=>?_) h
 ·refine ⟨w.heap.size,cells,ZH _ _ _,heap_alloc_new w _,hsz,fun i d hi=>hr _ _ (hel i d hi),fun x hx=>?_⟩
  obtain ⟨i,hi,rfl⟩:=Array.mem_iff_getElem.1 hx
  have h1:cs[i]?=some (cs[i]'(by omega)):=List.getElem?_eq_getElem _
  have h2:=((hel i _ h1).notU (AV.allNotU_get hn h1)).1
  have:cells.getD i undef=cells[i]:=by rw [Array.getD_eq_getD_getElem?,Array.getElem?_eq_getElem hi];rfl
  rw [this] at h2
  exact h2
 ·cases hg
  exact Nat.le_refl _
theorem Zbo{t:TypeId}{zs:List Value}(h:Vd P t=some zs):∃i z,P.info? t=some i∧i.zero=some z∧z.cells.toList=zs:=by
 unfold Vd at h
 split at h
 ·rename_i i hi
  split at h
  ·rename_i z hz
   cases h
   exact ⟨i,z,hi,hz,rfl⟩
  ·cases h
 ·cases h
theorem Wz{t e:TypeId}{g:Bool}{k by_:Nat}{z:List Value}(h:Wn P t=some (e,g,k,by_,z)):P.underlying t=some (.slice e)∧QO P e=some (g,k)∧∃i zv,P.info? e=some i∧i.size=k∧i.bytes=by_∧i.zero=some zv∧zv.cells.toList=z:=by
 unfold Wn at h
 split at h
 ·rename_i e' hu
  split at h
  ·rename_i g' n i hg hi
   split at h
   ·rename_i zv hz
    simp only [Option.some.injEq,Prod.mk.injEq] at h
    obtain ⟨rfl,rfl,rfl,rfl,rfl⟩:=h
    obtain ⟨_,i',hi',hs⟩:=VI hg
    rw [hi] at hi';cases hi'
    exact ⟨hu,hg,i,zv,hi,hs,rfl,hz,rfl⟩
   ·cases h
  ·cases h
 ·cases h
theorem ZfS{ok:Nat→Nat→Prop}:∀{ks:List (Option Nat)} {zs:List Value},(zA ks zs).length=zs.length∧∀(i:Nat) (d:AV),(zA ks zs)[i]?=some d→∃u,zs[i]?=some u∧RepT w ok d u
 | ks,[]=>⟨by cases ks <;>simp [zA],fun i d h=>by cases ks <;>simp [zA] at h⟩
 | [],z::zs=>by
   have ih:=ZfS (ok:=ok) (ks:=[]) (zs:=zs)
   have e:zA [] (z::zs)=.lit z::zA [] zs:=by simp [zA]
   rw [e]
   refine ⟨by simp [ih.1],fun i d h=>?_⟩
   cases i with
   | zero=>simp at h;subst h;exact ⟨z,rfl,.lit z⟩
   | succ i=>simpa using ih.2 i d (by simpa using h)
 | k::ks,z::zs=>by
   have ih:=ZfS (ok:=ok) (ks:=ks) (zs:=zs)
   have e:∃d,zA (k::ks) (z::zs)=d::zA ks zs∧RepT w ok d z:=by
    cases k with
    | none=>exact ⟨.lit z,by simp [zA],.lit z⟩
    | some k=>
      by_cases hz:z=.slice none 0 0
      ·subst hz;exact ⟨.nl k,by simp [zA],.nl k⟩
      ·refine ⟨.lit z,?_,.lit z⟩
       rw [zA]
       exact fun _ _ h=>hz h
   obtain ⟨d0,e,hd⟩:=e
   rw [e]
   refine ⟨by simp [ih.1],fun i d h=>?_⟩
   cases i with
   | zero=>simp at h;subst h;exact ⟨z,rfl,hd⟩
   | succ i=>simpa using ih.2 i d (by simpa using h)
theorem Zcq{ok:Nat→Nat→Prop}{t:TypeId}{zs:List Value}{i:Nat}{d:AV}(h:(zAV P t zs)[i]?=some d):∃u,zs[i]?=some u∧RepT w ok d u:=ZfS.2 i d h
theorem zAV_len{t:TypeId}{zs:List Value}:(zAV P t zs).length=zs.length:=(ZfS (w:=default) (ok:=fun _ _=>True)).1
theorem Zwj{ok:Nat→Nat→Prop}{d:AV}{v:Value}(h:RepT w ok d v):RepT w ok d.nz v:=by
 cases d with
 | nl k=>cases h;exact .nil _ _
 | _=>exact h
theorem Zex{t:TypeId}{z:List Value}(h:AV.allNotU (zAV P t z)=true):∀x∈z,Xp x∧x.oneCell'=true:=fun x hx=>by
 obtain ⟨i,hi⟩:=List.mem_iff_getElem?.1 hx
 have hlt:=(List.getElem?_eq_some_iff.1 hi).1
 have h1:(zAV P t z)[i]?=some ((zAV P t z)[i]'(by rw [zAV_len];exact hlt)):=List.getElem?_eq_getElem _
 obtain ⟨u,h2,h3⟩:=Zcq (w:=default) (ok:=fun _ _=>True) h1
 rw [hi] at h2;cases h2
 exact (Rep.t h3:Rep (default:World) (fun _ _=>True) (fun _=>none) _ _).notU (AV.allNotU_get h h1)
theorem KH{n b:Nat}(h:ZG n b=true):n≤1099511627776∧n*b≤140737488355328:=by
 unfold ZG at h
 rw [Bool.and_eq_true] at h
 exact ⟨of_decide_eq_true h.1,of_decide_eq_true h.2⟩
theorem ZdZ{z:Array Value}{k:Nat}(hz:z.size=k){i j n:Nat}(hj:j<k)(hi:i*k+j<n):(madeCells z n)[i*k+j]?=z[j]?:=by
 have h1:(i*k+j) % k=j:=by rw [Nat.mul_comm,Nat.mul_add_mod,Nat.mod_eq_of_lt hj]
 simp only [madeCells,Array.getElem?_map]
 rw [Array.getElem?_range]
 simp only [hi,if_true,Option.map_some,hz,h1]
 rw [getElem!_pos z j (by omega),Array.getElem?_eq_getElem (by omega)]
theorem ZnK(h:BsRel E B L w){t:TypeId}{l c d:AV}{lv cv:Value}(hl:Rep w (okS E B L) L l lv)(hc:Rep w (okS E B L) L c cv){nx nx':Nat}(hr:(mkT P t l c nx).run T B=some (d,up,nx'))(hf:L nx=none):
  nx'=nx+1∧∃v w' L',(Instr.makeSlice t lv cv).run P w=.ok v w'∧Aft E B L (ZT B up) L' w w'∧Rep w' (okS E (ZT B up) L') L' d v∧L'=Wb L nx v:=by
 have ix:∀{d:AV} {z:Int} {v:Value},idx d=some z→Rep w (okS E B L) L d v→∃k,v=.int k z:=fun {d z v} h1 h2=>by
  unfold idx at h1
  split at h1
  ·cases h1
   cases h2 with
   | t h2=>cases h2;exact ⟨_,rfl⟩
  ·cases h1
 unfold mkT at hr
 split at hr
 ·rename_i n m e g k by_ z hn hm hel
  split at hr
  ·rename_i hc2
   obtain ⟨h0,h1,h2,h3,h4,h5⟩:=hc2
   simp only [Tr.run,Option.some.injEq,Prod.mk.injEq] at hr
   obtain ⟨rfl,rfl,rfl⟩:=hr
   obtain ⟨kl,rfl⟩:=ix hn hl
   obtain ⟨kc,rfl⟩:=ix hm hc
   obtain ⟨hu,_,i,zv,hi,hs,hb,hz,rfl⟩:=Wz hel
   obtain ⟨h6,h7⟩:=KH h2
   have hzs:zv.cells.size=k:=by simpa using h3
   have hby:(i.bytes:Int)*m≤281474976710656:=by
    rw [hb]
    have:(by_:Int)*m=((m.toNat*by_:Nat):Int):=by
     rw [Int.natCast_mul,Int.toNat_of_nonneg (by omega),Int.mul_comm]
    omega
   have hrun:=run_make (P:=P) w t e i zv hu hi hz kl kc n m h0 h1 hby (by omega)
   rw [hs] at hrun
   refine ⟨rfl,_,_,_,hrun,Step.aft (Step.fresh (v:=.slice (some ⟨w.heap.size,0,none⟩) n.toNat m.toNat) hf (Mod.alloc _ _ _) (fun _=>trivial) (fun hr hrt=>?_) fun g hg=>?_) h,.own (ZH _ _ _),rfl⟩
   ·have hnm:n.toNat*k≤m.toNat*k:=Nat.mul_le_mul_right _ (by omega)
    have hsz:(madeCells zv.cells (m.toNat*k)).size=m.toNat*k:=size_madeCells _ _
    have hnot:=Zex h5
    refine ⟨_,(madeCells zv.cells (m.toNat*k)).toList.take (n.toNat*k),ZH _ _ _,⟨⟨?_,.inr ⟨w.heap.size,m.toNat,_,by rw [List.length_replicate],Nat.zero_le _,heap_alloc_new w _,by rw [List.length_replicate];omega,by simp only [maxLen];omega,hsz,by rw [List.length_replicate]⟩⟩,fun g cur t' p hg hcur x hx=>?_⟩,Nat.zero_le _,fun x hx=>?_,fun i j x d hi hj=>?_⟩
    ·rw [List.length_replicate,List.length_take];simp;omega
    ·simp only [Value.ownBlock,Option.some.injEq] at hg
     subst hg
     rw [heap_alloc_new w] at hcur
     cases hcur
     simp only [madeCells,Array.mem_map,Array.mem_range] at hx
     obtain ⟨j,_,rfl⟩:=hx
     rw [getElem!_pos zv.cells (j % zv.cells.size) (Nat.mod_lt _ (by omega))]
     exact (hnot _ (by simp)).1
    ·rw [List.eq_of_mem_replicate hx,List.length_map,zAV_len];simpa using h3
    ·rw [List.getElem?_replicate] at hi
     split at hi
     ·rename_i hin
      cases hi
      rw [List.getElem?_map] at hj
      obtain ⟨d0,h80,rfl⟩:=Option.map_eq_some_iff.1 hj
      obtain ⟨u,h8,h81⟩:=Zcq (ok:=okS E (ZT B [(nx,some (.row e k (List.replicate n.toNat ((zAV P e zv.cells.toList).map .nz)) 0))]) (Wb L nx (.slice (some ⟨w.heap.size,0,none⟩) n.toNat m.toNat))) (w:=w.alloc (.cells (madeCells zv.cells (m.toNat*k)) e)) h80
      have hjk:j<k:=by have:=(List.getElem?_eq_some_iff.1 h8).1;omega
      have hik:(i+1)*k≤n.toNat*k:=Nat.mul_le_mul_right _ hin
      rw [Nat.add_mul,Nat.one_mul] at hik
      refine ⟨u,?_,Zwj h81⟩
      rw [List.getElem?_take,if_pos (by omega),Array.getElem?_toList,ZdZ hzs hjk (by omega),←Array.getElem?_toList]
      exact h8
     ·cases hi
   ·cases hg
    exact Nat.le_refl _
  ·simp [Tr.run] at hr
 ·simp [Tr.run] at hr
end
section
variable{P:Program}{E:Nat→Nat→Prop}{w w':World}{N:Nat}{T:Nat→AV}{B:Nat→Option AB}{L L':Nat→Option Value}{a:Act}{up:List (Nat × Option AB)}
theorem ZaB(off:Nat):∀(vs:List Value) (k:Nat) (cells:Array Value),off+k+vs.length≤cells.size→(vs.zipIdx k).foldl (fun cs (p:Value × Nat)=>cs.setIfInBounds (off+p.2) p.1) cells=(splice cells.toList (off+k) vs).toArray
 | [],k,cells,_=>by simp [splice]
 | v::vs,k,cells,h=>by
   simp only [List.length_cons] at h
   rw [List.zipIdx_cons,List.foldl_cons,ZaB off vs (k+1) _ (by simp;omega)]
   apply congrArg List.toArray
   apply List.ext_getElem?
   intro i
   rw [Yv (by simp;omega),Yv (by simp;omega)]
   simp only [Array.toList_setIfInBounds,List.getElem?_set,List.length_cons]
   by_cases h1:i<off+k
   ·simp [h1,show i<off+(k+1) by omega,show ¬off+k=i by omega]
   ·by_cases h2:i=off+k
    ·subst h2
     simp [show off+k<off+(k+1) by omega,show off+k<cells.size by omega]
    ·by_cases h3:i<off+k+(vs.length+1)
     ·simp only [h1,if_false,h3,if_true,show ¬i<off+(k+1) by omega,show i<off+(k+1)+vs.length by omega]
      rw [show i-(off+k)=(i-(off+(k+1)))+1 by omega,List.getElem?_cons_succ]
     ·simp [h1,h3,show ¬i<off+(k+1) by omega,show ¬i<off+(k+1)+vs.length by omega,show ¬off+k=i by omega]
theorem ZeB(place:Nat→Option (Nat × Nat))(cells:Array Value)(i:Nat)(v:Value)(rest:List (Nat × Value)){off size:Nat}(hp:place i=some (off,size))(hs:v.cells.size=size)(ho:off+size≤cells.size):
  Instr.fill place cells ((i,v)::rest)=Instr.fill place (splice cells.toList off v.cells.toList).toArray rest:=by
 have h1:=ZaB off v.cells.toList 0 cells (by simp;omega)
 simp only [Instr.fill,hp,hs]
 rw [if_neg (by simp;omega)]
 congr 1
 rw [←Array.foldl_toList,Array.toList_zipIdx]
 exact h1
def RV(R:AV→Value→Prop)(cs:List AV)(vs:List Value):Prop:=vs.length=cs.length∧∀(i:Nat) (d:AV),cs[i]?=some d→∃u,vs[i]?=some u∧R d u
theorem RV.splice{R:AV→Value→Prop}{cs ds:List AV}{vs us:List Value}(h:RV R cs vs)(hd:RV R ds us){o:Nat}(ho:o+ds.length≤cs.length):RV R (splice cs o ds) (splice vs o us):=by
 have h1:=h.1
 have h2:=hd.1
 refine ⟨by rw [Qj ho,Qj (by omega)];exact h1,fun i d hi=>?_⟩
 rw [Yv ho] at hi
 rw [Yv (by omega)]
 by_cases h3:i<o
 ·rw [if_pos h3] at hi ⊢
  exact h.2 i d hi
 ·rw [if_neg h3] at hi ⊢
  by_cases h4:i<o+ds.length
  ·rw [if_pos h4] at hi
   rw [if_pos (by omega)]
   exact hd.2 _ d hi
  ·rw [if_neg h4] at hi
   rw [if_neg (by omega)]
   exact h.2 i d hi
theorem RV.of_getD{R:AV→Value→Prop}{cs:List AV}{vs:Array Value}(h1:vs.size=cs.length)(h2:∀(i:Nat) (d:AV),cs[i]?=some d→R d (vs.getD i undef)):RV R cs vs.toList:=by
 refine ⟨by simpa using h1,fun i d hi=>?_⟩
 have hlt:=(List.getElem?_eq_some_iff.1 hi).1
 refine ⟨vs[i]'(by omega),by rw [Array.getElem?_toList,Array.getElem?_eq_getElem (by omega)],?_⟩
 have:=h2 i d hi
 rwa [Array.getD_eq_getD_getElem?,Array.getElem?_eq_getElem (by omega)] at this
theorem RV.getD{R:AV→Value→Prop}{cs:List AV}{vs:List Value}(h:RV R cs vs):vs.toArray.size=cs.length∧∀(i:Nat) (d:AV),cs[i]?=some d→R d (vs.toArray.getD i undef):=by
 refine ⟨by simpa using h.1,fun i d hi=>?_⟩
 obtain ⟨u,h1,h2⟩:=h.2 i d hi
 have:vs.toArray.getD i undef=u:=by rw [Array.getD_eq_getD_getElem?,List.getElem?_toArray,h1];rfl
 rw [this];exact h2
theorem JL{ok:Nat→Nat→Prop}(place:Nat→Option (Nat × Nat)):∀(ix:List Nat) (ds:List AV) (vs:List Value) (cs cs':List AV) (cells:List Value),RV (Rep w ok L) ds vs→RV (Rep w ok L) cs cells→Zce place cs (ix.zip ds)=some cs'→
  ∃cells',Instr.fill place cells.toArray (ix.zip vs)=some cells'∧RV (Rep w ok L) cs' cells'.toList
 | [],ds,vs,cs,cs',cells,_,hc,h=>by
   simp only [List.zip_nil_left,Zce,Option.some.injEq] at h
   subst h
   exact ⟨_,rfl,hc⟩
 | i::ix,[],vs,cs,cs',cells,hd,hc,h=>by
   have h0:vs=[]:=List.eq_nil_of_length_eq_zero hd.1
   subst h0
   simp only [List.zip_nil_right,Zce,Option.some.injEq] at h
   subst h
   exact ⟨_,rfl,hc⟩
 | i::ix,d::ds,[],cs,cs',cells,hd,hc,h=>by have:=hd.1;simp at this
 | i::ix,d::ds,v::vs,cs,cs',cells,hd,hc,h=>by
   simp only [List.zip_cons_cons,Zce] at h
   split at h
   ·rename_i off size xs hp hx
    split at h
    ·rename_i h1
     obtain ⟨h1,h2⟩:=h1
     obtain ⟨u,h3,h4⟩:=hd.2 0 d rfl
     simp at h3
     subst h3
     obtain ⟨h5,h6⟩:=Xm hx h4
     have h7:RV (Rep w ok L) xs v.cells.toList:=RV.of_getD h5 h6
     have hcl:=hc.1
     obtain ⟨cells',h8,h9⟩:=JL place ix ds vs _ cs' (splice cells off v.cells.toList) ⟨by have:=hd.1;simpa using this,fun j e hj=>by
      obtain ⟨u,h10,h11⟩:=hd.2 (j+1) e (by simpa using hj)
      exact ⟨u,by simpa using h10,h11⟩⟩ (hc.splice h7 h2) h
     refine ⟨cells',?_,h9⟩
     rw [List.zip_cons_cons,ZeB place cells.toArray i v _ hp (by omega) (by simp;omega)]
     exact h8
    ·cases h
   ·cases h
theorem JM{t:TypeId}{n k:Nat}{g:Bool}(h:ZpD P t=some (n,g,k)):∃e,P.underlying t=some (.array n e)∧QO P e=some (g,k):=by
 unfold ZpD at h
 split at h
 ·rename_i n' e hu
  split at h
  ·rename_i g' k' hg
   simp only [Option.some.injEq,Prod.mk.injEq] at h
   obtain ⟨rfl,rfl,rfl⟩:=h
   exact ⟨e,hu,hg⟩
  ·cases h
 ·cases h
theorem Zhh{ok:Nat→Nat→Prop}{t:TypeId}{ix:List Nat}{ds:List AV}{vs:List Value}(hd:RV (Rep w ok L) ds vs){nx nx':Nat}{d:AV}(hr:(ZfT P t ix ds nx).run T B=some (d,up,nx')){parts:Array (Nat × Value)}(hparts:parts.toList=ix.zip vs):
  up=[]∧nx'=nx∧∃v,(Instr.build t parts).run P w=.ok v w∧Rep w ok L d v:=by
 unfold ZfT at hr
 split at hr
 ·rename_i zs hz
  obtain ⟨i,z,hi,hzz,rfl⟩:=Zbo hz
  have h0:RV (Rep w ok L) (zAV P t z.cells.toList) z.cells.toList:=⟨zAV_len.symm,fun i d h=>by
   obtain ⟨u,h1,h2⟩:=Zcq h
   exact ⟨u,h1,.t h2⟩⟩
  split at hr
  ·rename_i places hp
   split at hr
   ·rename_i cs hcs
    simp only [Tr.run,Option.some.injEq,Prod.mk.injEq] at hr
    obtain ⟨rfl,rfl,rfl⟩:=hr
    obtain ⟨cells',h1,h2⟩:=JL _ ix ds vs _ cs z.cells.toList hd h0 hcs
    obtain ⟨h3,h4⟩:=RV.getD h2
    refine ⟨rfl,rfl,_,run_build w t parts cells' ?_,.agg (by simpa using h3) (by simpa using h4)⟩
    unfold WV at hp
    split at hp
    ·rename_i fs hu
     unfold Program.built
     rw [hi,hu]
     simp only [hzz,hp,hparts]
     simpa using h1
    ·cases hp
   ·simp [Tr.run] at hr
  ·split at hr
   ·rename_i n g k har
    split at hr
    ·rename_i cs hcs
     simp only [Tr.run,Option.some.injEq,Prod.mk.injEq] at hr
     obtain ⟨rfl,rfl,rfl⟩:=hr
     obtain ⟨cells',h1,h2⟩:=JL _ ix ds vs _ cs z.cells.toList hd h0 hcs
     obtain ⟨h3,h4⟩:=RV.getD h2
     obtain ⟨e,hu,hg⟩:=JM har
     obtain ⟨_,ie,hie,hsz⟩:=VI hg
     refine ⟨rfl,rfl,_,run_build w t parts cells' ?_,.agg (by simpa using h3) (by simpa using h4)⟩
     unfold Program.built
     rw [hi,hu]
     simp only [hzz,hie,hparts,hsz]
     simpa using h1
    ·simp [Tr.run] at hr
   ·simp [Tr.run] at hr
 ·simp [Tr.run] at hr
end
section
variable{P:Program}{E:Nat→Nat→Prop}{w w':World}{N:Nat}{T:Nat→AV}{B:Nat→Option AB}{L L':Nat→Option Value}{a:Act}{up:List (Nat × Option AB)}
theorem Rep.own_inv{ok:Nat→Nat→Prop}{b n:Nat}{v:Value}(h:Rep w ok L (.own b n) v):∃a c,v=.slice a n c∧L b=some (.slice a n c):=by
 cases h with
 | t h=>cases h
 | own h=>exact ⟨_,_,rfl,h⟩
theorem Zhq{ok:Nat→Nat→Prop}{k:Nat}{news:List (List AV)}{v:Value}{d:AV}(hd:ZhH d=some news)(hv:RepT w ok d v)(hk:∀e∈news,e.length=k)(hn:∀e∈news,AV.allNotU e=true):
  ∃(ad:Option Addr) (c:Nat) (us:List Value),v=.slice ad news.length c∧us.length=news.length*k∧(0<news.length→∃A,ad=some A∧∀j u,us[j]?=some u→w.cell? (A.add j)=some u)∧(∀u∈us,Xp u∧u.oneCell'=true)∧
   ∀(i j:Nat) (x:List AV) (d:AV),news[i]?=some x→x[j]?=some d→∃u,us[i*k+j]?=some u∧RepT w ok d u:=by
 unfold ZhH at hd
 split at hd
 ·rename_i k' es
  cases hd
  cases hv with
  | nil a c=>exact ⟨a,c,[],rfl,by simp,fun h=>by simp at h,fun u hu=>(by cases hu),fun i j x d h=>by simp at h⟩
  | sl hk' hcap hm hh=>
    rename_i b o c
    have hkk:news≠[]→k'=k:=fun h=>by
     obtain ⟨x,hx⟩:=List.exists_mem_of_ne_nil _ h
     rw [←hk' x hx,hk x hx]
    by_cases h0:news=[]
    ·subst h0
     exact ⟨_,c,[],rfl,by simp,fun h=>by simp at h,fun u hu=>(by cases hu),fun i j x d h=>by simp at h⟩
    ·obtain rfl:=hkk h0
     have cell:∀q,q<news.length*k'→∃x d u,news[q / k']?=some x∧x[q % k']?=some d∧w.cell? ⟨b,o+q,none⟩=some u∧RepT w ok d u:=fun q hq=>by
      have hk0:0<k':=by rcases Nat.eq_zero_or_pos k' with h|h;(subst h;simp at hq);exact h
      have h1:q / k'<news.length:=(Nat.div_lt_iff_lt_mul hk0).2 hq
      have h2:q % k'<k':=Nat.mod_lt _ hk0
      have h3:news[q / k']?=some news[q / k']:=List.getElem?_eq_getElem h1
      have h4:=hk _ (List.mem_of_getElem? h3)
      have h5:(news[q / k'])[q % k']?=some (news[q / k'][q % k']'(by omega)):=List.getElem?_eq_getElem _
      have h6:q / k'*k'+q % k'=q:=by rw [Nat.mul_comm];exact Nat.div_add_mod q k'
      obtain ⟨u,hu⟩:=Option.isSome_iff_exists.1 (hm _ _ _ _ h3 h5).2
      have h7:=hh _ _ _ _ h3 h5
      rw [hu] at h7
      rw [Nat.add_assoc,h6] at hu
      exact ⟨_,_,u,h3,h5,hu,h7⟩
     refine ⟨_,c,(List.range (news.length*k')).map fun q=>(w.cell? ⟨b,o+q,none⟩).getD undef,rfl,by simp,fun _=>⟨⟨b,o,none⟩,rfl,fun q u hu=>?_⟩,fun u hu=>?_,fun i j x d hi hj=>?_⟩
     ·rw [List.getElem?_map] at hu
      by_cases hq:q<news.length*k'
      ·rw [List.getElem?_range hq] at hu
       obtain ⟨_,_,u',_,_,h3,_⟩:=cell q hq
       rw [Option.map_some,h3] at hu
       cases hu
       rw [YN,h3];rfl
      ·rw [List.getElem?_eq_none (by simpa using hq)] at hu
       cases hu
     ·obtain ⟨q,hq,rfl⟩:=List.mem_map.1 hu
      obtain ⟨x,d,u',h1,h2,h3,h4⟩:=cell q (by simpa using hq)
      rw [h3]
      exact (Rep.t h4:Rep w ok (fun _=>none) d u').notU (AV.allNotU_get (hn x (List.mem_of_getElem? h1)) h2)
     ·have h1:=(List.getElem?_eq_some_iff.1 hi).1
      have h2:=(List.getElem?_eq_some_iff.1 hj).1
      have h3:=hk x (List.mem_of_getElem? hi)
      have h4:(i+1)*k'≤news.length*k':=Nat.mul_le_mul_right _ h1
      rw [Nat.add_mul,Nat.one_mul] at h4
      refine ⟨(w.cell? ⟨b,o+(i*k'+j),none⟩).getD undef,?_,?_⟩
      ·rw [List.getElem?_map,List.getElem?_range (by omega)];rfl
      ·have:=hh _ _ _ _ hi hj
       rwa [Nat.add_assoc] at this
 ·cases hd
  cases hv with
  | nl k=>exact ⟨none,0,[],rfl,by simp,fun h=>by simp at h,fun u hu=>(by cases hu),fun i j x d h=>by simp at h⟩
 ·rename_i a c
  cases hd
  cases hv with
  | lit v=>exact ⟨a,c,[],rfl,by simp,fun h=>by simp at h,fun u hu=>(by cases hu),fun i j x d h=>by simp at h⟩
 ·cases hd
theorem Jp{row:Option Nat}(h:w.grownBy w' row)(hz:∀g,row=some g→w'.shape? g=w.shape? g){M:Nat→Nat→Prop}(hb:∀g,row=some g→∃o,M g o)(hc:∀g o v,row=some g→¬M g o→w.cell? ⟨g,o,none⟩=some v→w'.cell? ⟨g,o,none⟩=some v):Mod M w w':=by
 refine ⟨h.os,h.tape,h.output,h.size,fun g hg hn=>?_,fun g o v hn hv=>?_,fun g hg=>?_⟩
 ·refine h.block g hg fun e=>?_
  obtain ⟨o,ho⟩:=hb g e.symm
  exact hn o ho
 ·by_cases e:row=some g
  ·exact hc g o v e hn hv
  ·have hg:=Jx hv
   rw [World.cell?_of_block (w:=w) (a:=⟨g,o,none⟩) (h.block g hg fun e'=>e e'.symm)]
   exact hv
 ·by_cases e:row=some g
  ·exact hz g e
  ·unfold World.shape?;rw [h.block g hg fun e'=>e e'.symm]
theorem ZeW{ok ok':Nat→Nat→Prop}{k:Nat}{es news:List (List AV)}{xs us:List Value}(hl:xs.length=es.length*k)(hk:∀x∈es,x.length=k)(h1:∀(i j:Nat) (x:List AV) (d:AV),es[i]?=some x→x[j]?=some d→∃u,xs[i*k+j]?=some u∧RepT w ok d u)(h2:∀(i j:Nat) (x:List AV) (d:AV),news[i]?=some x→x[j]?=some d→∃u,us[i*k+j]?=some u∧RepT w ok d u)(hrt:∀d v,RepT w ok d v→RepT w' ok' d v):∀(i j:Nat) (x:List AV) (d:AV),(es++news)[i]?=some x→x[j]?=some d→∃u,(xs++us)[i*k+j]?=some u∧RepT w' ok' d u:=by
 intro i j x d hi hj
 rcases Nat.lt_or_ge i es.length with h|h
 ·rw [List.getElem?_append_left h] at hi
  obtain ⟨u,h3,h4⟩:=h1 i j x d hi hj
  refine ⟨u,?_,hrt _ _ h4⟩
  rw [List.getElem?_append_left (List.getElem?_eq_some_iff.1 h3).1]
  exact h3
 ·rw [List.getElem?_append_right h] at hi
  obtain ⟨u,h3,h4⟩:=h2 _ j x d hi hj
  refine ⟨u,?_,hrt _ _ h4⟩
  have e:(i-es.length)*k=i*k-es.length*k:=Nat.sub_mul _ _ _
  have h5:es.length*k≤i*k:=Nat.mul_le_mul_right _ h
  rw [List.getElem?_append_right (by omega)]
  rw [show i*k+j-xs.length=(i-es.length)*k+j by omega]
  exact h3
theorem ZnS{t ty e:TypeId}{i:TypeInfo}{z:Value}{k by_:Nat}(hu:P.underlying t=some (.slice e))(hi:P.info? e=some i)(hz:i.zero=some z)(hs:i.size=k)(hb:i.bytes=by_)(hzs:z.cells.size=k)(hk:0<k)(hzn:∀x∈z.cells,Xp x){v:Value}{n:Nat}{xs:List Value}(hrow:Row Xp w 0 e k v n xs){ad:Option Addr}{m c:Nat}{us:List Value}(hl:us.length=m*k)(hc:0<m→∃A,ad=some A∧∀j u,us[j]?=some u→w.cell? (A.add j)=some u)(h1:∀u∈us,Xp u∧u.oneCell'=true)(hroom:ZG (n+m) by_=true):
  ∃v' w',(Builtin.append_ #[t,t] ty #[v,.slice ad m c]).run P w=.ok v' w'∧Row Xp w' 0 e k v' (n+m) (xs++us)∧w.grownBy w' v.ownBlock∧(v'.ownBlock=v.ownBlock∨v'.ownBlock=some w.heap.size)∧
   (∀g j u,v.ownBlock=some g→xs[j]?=some u→w'.cell? ⟨g,j,none⟩=some u)∧∀g,v.ownBlock=some g→w'.shape? g=w.shape? g:=by
 obtain ⟨h2,h3⟩:=KH hroom
 have h63:n+m≤maxLen:=by simp only [maxLen];omega
 rcases Nat.eq_zero_or_pos m with h0|h0
 ·subst h0
  have hnil:us=[]:=List.eq_nil_of_length_eq_zero (by simpa using hl)
  subst hnil
  have hrun:=ZdX (P:=P) w 0 t ty e i k hu hi v n xs hrow.own ad c
  refine ⟨v,w,hrun,by simpa using hrow,Zcf (Below.refl _ _) _,.inl rfl,fun g j u hg hj=>?_,fun _ _=>rfl⟩
  have:=hrow.own.cells (g:=g) hg j u hj
  rwa [YN,Nat.zero_add] at this
 ·obtain ⟨A,rfl,hcell⟩:=hc h0
  obtain ⟨v',w',hrun,h4,h5,h6⟩:=ZsV (P:=P) w 0 t ty e i z k by_ hu hi hz hs hb hzs hk v n xs hrow A m c us hl hcell (fun u hx=>(h1 u hx).2) h63 h3 (Nat.zero_le _) h0 hzn (fun u hx=>(h1 u hx).1)
  refine ⟨v',w',hrun,h4,h5,h6,fun g j u hg hj=>?_,fun g hg=>Zd2 (P:=P) w 0 t ty e i z k by_ hu hi hz hs hb hk v n xs hrow A m c us hl hcell (fun u hx=>(h1 u hx).2) h63 h3 v' w' hrun g hg⟩
  exact Zfh (P:=P) w 0 t ty e i z k by_ hu hi hz hs hb hk v n xs hrow A m c us hl hcell (fun u hx=>(h1 u hx).2) h63 h3 v' w' hrun g hg j u hj
theorem ZdL{ok:Nat→Nat→Prop}{s:AV}{v:Value}(hn:Zcb s=true)(h:Rep w ok L s v):v=.slice none 0 0:=by
 unfold Zcb at hn
 split at hn
 ·cases h with
  | t h=>cases h;rfl
 ·cases h with
  | t h=>cases h;rfl
 ·cases hn
theorem Jq{v:Value}{g:Nat}(h:v.ownBlock=some g):gOf v=some g:=by
 cases v with
 | slice a n c=>cases a <;>exact h
 | _=>simp [Value.ownBlock] at h
theorem ZnQ(h:BsRel E B L w){t ty:TypeId}{s x d:AV}{sv xv:Value}(hs:Rep w (okS E B L) L s sv)(hx:Rep w (okS E B L) L x xv){nx nx':Nat}(hr:(apT P t s x nx).run T B=some (d,up,nx'))(hf:L nx=none):
  nx'=nx+1∧∃v w' L',(Builtin.append_ #[t,t] ty #[sv,xv]).run P w=.ok v w'∧Aft E B L (ZT B up) L' w w'∧Rep w' (okS E (ZT B up) L') L' d v∧L'=Wb L nx v:=by
 unfold apT at hr
 split at hr
 ·rename_i e g k by_ z hel
  obtain ⟨hu,_,i,zv,hi,hsz,hb,hz,rfl⟩:=Wz hel
  split at hr
  ·rename_i hc
   obtain ⟨hzk,hk,hzn⟩:=hc
   have hzs:zv.cells.size=k:=by simpa using hzk
   have hzn':∀x∈zv.cells,Xp x:=fun x hx=>(Zex hzn x (by simpa using hx)).1
   obtain ⟨d',fs,hr,hres⟩:=Qv h 3 x _ _ hr
   split at hr
   ·rename_i news hnews
    split at hr
    ·rename_i Wo
     unfold Qq at Wo
     have hall':∀el∈news,el.length=k∧AV.allT el=true∧AV.allNotU el=true:=fun el hm=>by
      have:=List.all_eq_true.1 Wo el hm
      simp only [Bool.and_eq_true,decide_eq_true_eq] at this
      exact ⟨this.1.1,this.1.2,this.2⟩
     -- the state in which the blocks fs are kept
     have hB1:Aft E B L (ZT B (YY B fs)) L w w:=(Step.frz h fs).aft h
     have hT:=hres xv hx _ (FrzOk.of h fs)
     obtain ⟨ad,c,us,rfl,hul,hucell,hunot,hurep⟩:=Zhq hnews hT (fun el hm=>(hall' el hm).1) (fun el hm=>(hall' el hm).2.2)
     split at hr
     ·rename_i b n _
      split at hr
      ·rename_i hbf
       simp only [Tr.run] at hr
       split at hr
       ·rename_i y hy
        split at hr
        ·rename_i e' k' es fz
         split at hr
         ·rename_i hc
          obtain ⟨rfl,rfl,rfl,hroom⟩:=hc
          obtain ⟨hr,_⟩:=Y4 hr
          simp only [Tr.run,Option.some.injEq,Prod.mk.injEq] at hr
          obtain ⟨rfl,rfl,rfl⟩:=hr
          refine ⟨rfl,?_⟩
          obtain ⟨a',c',rfl,hL⟩:=hs.own_inv
          ·skip
           have hbn:b ∉ fs:=by simpa using hbf
           have hy1:ZT B (YY B fs) b=some (.row e k es fz):=by
            rw [QQ (by rw [UC,if_neg hbn])];exact hy
           have hb1:=hB1.bs.blk b _ hy1
           obtain ⟨v0,xs,h1,hrow,hfz,hlen,helm⟩:=hb1
           rw [hL] at h1;cases h1
           obtain ⟨v',w',hrun,hrow',hgrown,hob,hkeep,hshape⟩:=ZnS (ty:=ty) (c:=c) hu hi hz hsz hb hzs hk hzn' hrow hul hucell hunot hroom
           have hst:Step E (ZT B (YY B fs)) L [(nx,some (.row e k (es++news) fz)),(b,none)] (Wb L nx v') w w':=by
            refine ⟨UU hf v',Jp hgrown hshape (fun g hg=>⟨fz*k,b,_,_,by simp only [ZD];split <;>simp,hy1,hL,Jq hg,by simp [AB.frz]⟩) (fun g o u hg hM hu'=>?_),fun hr' hrt id blk hu'=>?_,fun id blk v1 g hu' hL' hg'=>?_,fun id id' blk blk' v1 v2 g hu1 hu2 _ _ _ _=>?_⟩
            ·have ho:o<fz*k:=by
              rcases Nat.lt_or_ge o (fz*k) with h9|h9
              ·exact h9
              ·exact absurd ⟨b,_,_,by simp only [ZD];split <;>simp,hy1,hL,Jq hg,by simp only [AB.frz];omega⟩ hM
             have h9:fz*k≤es.length*k:=Nat.mul_le_mul_right _ hfz
             have hxl:xs.length=es.length*k:=hrow.own.1
             have h10:xs[o]?=some (xs[o]'(by omega)):=List.getElem?_eq_getElem _
             have h11:=hrow.own.cells (g:=g) hg o _ h10
             rw [YN,Nat.zero_add,hu'] at h11
             rw [hkeep g o _ hg h10]
             exact h11.symm
            ·simp only [ZD] at hu'
             split at hu'
             ·rename_i e1
              subst e1
              cases hu'
              refine ⟨v',xs++us,ZH _ _ _,by rw [List.length_append];exact hrow',by rw [List.length_append];omega,fun x hx=>?_,ZeW hrow.own.1 hlen helm hurep hrt⟩
              rcases List.mem_append.1 hx with h9|h9
              ·exact hlen x h9
              ·exact (hall' x h9).1
             ·split at hu' <;>cases hu'
            ·simp only [ZD] at hu'
             split at hu'
             ·rename_i e1
              subst e1
              cases hu'
              rw [ZH] at hL';cases hL'
              have hg2:v'.ownBlock=some g:=by rw [hrow'.ownBlock_g];exact hg'
              rcases hob with h9|h9
              ·exact .inr ⟨b,_,_,by simp only [ZD];split <;>simp,hy1,hL,Jq (by rw [←h9];exact hg2),fun o h=>h⟩
              ·rw [h9] at hg2;cases hg2
               exact .inl (Nat.le_refl _)
             ·split at hu' <;>cases hu'
            ·simp only [ZD] at hu1 hu2
             split at hu1
             ·split at hu2
              ·rename_i e1 e2;rw [e1,e2]
              ·split at hu2 <;>cases hu2
             ·split at hu1 <;>cases hu1
           have haft:=hB1.trans (hst.aft hB1.bs)
           rw [XL] at haft
           obtain ⟨ad',c'',rfl⟩:=hrow'.shape
           exact ⟨_,w',_,hrun,haft,.own (ZH _ _ _),rfl⟩
         ·simp [Tr.run] at hr
        ·simp [Tr.run] at hr
       ·cases hr
      ·simp [Tr.run] at hr
     ·split at hr
      ·rename_i hnil
       split at hr
       ·rename_i hroom
        obtain ⟨hr,_⟩:=Y4 hr
        simp only [Tr.run,Option.some.injEq,Prod.mk.injEq] at hr
        obtain ⟨rfl,rfl,rfl⟩:=hr
        refine ⟨rfl,?_⟩
        have hs0:sv=.slice none 0 0:=ZdL hnil hs
        subst hs0
        ·have hrow:Row Xp w 0 e k (.slice none 0 0) 0 []:=Row.nil _ _ _ _ _
         obtain ⟨v',w',hrun,hrow',hgrown,hob,hkeep,hshape⟩:=ZnS (ty:=ty) (c:=c) hu hi hz hsz hb hzs hk hzn' hrow hul hucell hunot (by simpa using hroom)
         rw [Nat.zero_add,List.nil_append] at hrow'
         have hst:Step E (ZT B (YY B fs)) L [(nx,some (.row e k news 0))] (Wb L nx v') w w':=by
          refine Step.fresh hf (Jp hgrown hshape (fun g hg=>by simp [Value.ownBlock] at hg) (fun g o u hg=>by simp [Value.ownBlock] at hg)) (fun _=>trivial) (fun hr' hrt=>?_) fun g hg=>?_
          ·refine ⟨v',us,ZH _ _ _,hrow',Nat.zero_le _,fun x hx=>(hall' x hx).1,fun i j x d hi hj=>?_⟩
           obtain ⟨u,h9,h10⟩:=hurep i j x d hi hj
           exact ⟨u,h9,hrt _ _ h10⟩
          ·have hg2:v'.ownBlock=some g:=by rw [hrow'.ownBlock_g];exact hg
           rcases hob with h9|h9
           ·rw [h9] at hg2;simp [Value.ownBlock] at hg2
           ·rw [h9] at hg2;cases hg2
            exact Nat.le_refl _
         have haft:=hB1.trans (hst.aft hB1.bs)
         rw [XL] at haft
         obtain ⟨ad',c'',rfl⟩:=hrow'.shape
         exact ⟨_,w',_,hrun,haft,.own (ZH _ _ _),rfl⟩
       ·simp [Tr.run] at hr
      ·simp [Tr.run] at hr
    ·simp [Tr.run] at hr
   ·simp [Tr.run] at hr
  ·simp [Tr.run] at hr
 ·simp [Tr.run] at hr
end
end Go.Proofs.YtdaonnnlgfhlaaaGreatDoor
